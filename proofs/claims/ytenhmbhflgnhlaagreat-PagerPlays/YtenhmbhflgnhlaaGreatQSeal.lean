/- every row of calls, crashes, the power going within a commit: what each tells -/
import Derived.Test.YtenhmbhflgnhlaaGreatQStream
namespace Go.Proofs.YtenhmbhflgnhlaaGreat
open Go Go.Sac
set_option maxRecDepth 100000
set_option maxHeartbeats 4000000
theorem u64_u32 (x : UInt32) : (toU64 (x.toNat : Int)).toNat = x.toNat := by
  rw [toU64_nat, UInt64.toNat_ofNat']
  have := x.toNat_lt
  omega
theorem NonceOf_ok (page : UInt32) (gen : UInt64) (w : World) :
    Ret Tryz.prog 66 #[.int .u32 page.toNat, .int .u64 gen.toNat] w fun v w' => v = arrV (nonceL page.toNat gen.toNat) ∧ Chg [] w w' := by
  have hl := nonceL_length page.toNat gen.toNat
  refine enterR [.cell 4 109] Tryz.func66 rfl rfl (Nat.le_of_ble_eq_true rfl) ?_
  refine wpE_seq ?_
  refine wpE_region ?_
  refine wpL_allocA (List.replicate 12 (0 : UInt8)) I109 rfl rfl rfl ?_
  rintro w1 b1 hn1 ha1 hc1 hl1
  refine wpL_nil (thenE_norm ?_)
  refine wpE_seq ?_
  refine wpE_region ?_
  refine wpL_allocA (List.replicate 12 (0 : UInt8)) I109 rfl rfl rfl ?_
  rintro w2 b2 hn2 ha2 hc2 hl2
  refine wpL_nil (thenE_norm ?_)
  refine wpE_seq ?_
  refine wpE_draw mixed (.pure 0 (.pure 1 (.pure 2 (.pure 4 (.eff 3 [] (.eff 5 [] (.eff 6 [] .nil))))))) (by kernel_rfl) ?_
  refine wpP_pure rfl rfl rfl (fun _ => x_arr_full Tryz.underlying109 I5 rfl) ?_
  refine wpP_pure rfl rfl rfl (fun _ => x_move) ?_
  refine wpP_pure rfl rfl rfl (fun _ => (x_conv64u rfl Tryz.underlying34 Tryz.underlying35)) ?_
  refine wpP_pure rfl rfl rfl (fun _ => x_move) ?_
  refine wpP_call rfl rfl rfl C64 (Put_ok (.slice none 0 0) [] (toU64 (page.toNat : Int)) 4 _ (Own.nil _) (by decide) (by decide)) ?_
  rintro v3 w3 ⟨ho3, hc3, hi3⟩
  refine ⟨trivial, ?_⟩
  have hc3 : Chg [] w2 w3 := hc3
  have hi3 : In v3 [] w2.heap.size := hi3
  rw [u64_u32] at ho3
  refine wpP_call rfl rfl rfl C64 (Put_ok v3 _ gen 8 w3 ho3 (by decide) (by simp [be_length])) ?_
  rintro v4 w4 ⟨ho4, hc4, hi4⟩
  refine ⟨trivial, ?_⟩
  have hc4 : Chg [] w2 w4 := hc3.t0 hc4 hi3.ge
  rw [List.nil_append, ← nonceL_def] at ho4
  refine wpP_exv rfl rfl rfl (x_copyArr (k := 0) Tryz.underlying41 I5 rfl rfl rfl rfl (ho4.sl.src) (ha2.chg0 hc4) (by first | (simp; done) | omega)) ?_
  rintro w5 ⟨ha5, hc5, hs5⟩
  refine ⟨trivial, ?_⟩
  refine wpP_nil (thenE_norm ?_)
  refine wpE_seq ?_
  refine wpE_region ?_
  rw [hl, Nat.min_self, List.take_of_length_le (Nat.le_of_eq hl), spl_all (by rw [hl]; rfl)] at ha5
  refine wpL_value rfl (x_loadN 12 Tryz.underlying109 rfl I109 rfl rfl (ha5) (by first | assumption | rfl | (simp <;> omega))) ?_
  refine wpL_exs rfl (x_storeN 12 I109 rfl (((ha1.chg0 hc2).chg0 hc4).nb hc5 (by omega)) rfl rfl (rfl) (hl)) ?_
  rintro w6 ⟨ha6, hc6, hs6⟩
  refine wpL_nil (thenE_norm ?_)
  refine wpE_ret (fin_retR ?_)
  exact ⟨[arrV (nonceL page.toNat gen.toNat)], ⟨⟨_, rfl, run_loadN 12 Tryz.underlying109 rfl I109 rfl ha6 hl⟩, trivial⟩, rfl, (((hc1.tr hc2).tr hc4).t1 hc5 (by omega)).t1 hc6 (by omega)⟩
theorem TagOf_ok (k nonce : List UInt8) (av cv : Value) (aad c : List UInt8) (w : World) (hk : k.length = 32) (hn : nonce.length = 12) (ha : Sl w av aad) (hc : Sl w cv c) (hal : aad.length ≤ 1000) (hcl : c.length ≤ 100000000) :
    Ret Tryz.prog 102 #[arrV k, arrV nonce, av, cv] w fun v w' => v = arrV (tagL k nonce aad c) ∧ Chg [] w w' := by
  have hob1 := ha.form rfl
  obtain ⟨pa, ca, rfl⟩ := hob1
  have hl := tagL_length k nonce aad c
  refine enterR [.cell 8 170] Tryz.func102 rfl rfl (Nat.le_of_ble_eq_true rfl) ?_
  refine wpE_seq ?_
  refine wpE_region ?_
  refine wpL_boxA (l := k) rfl rfl ?_
  rintro w1 b1 hn1 ha1 hc1 hl1
  refine wpL_boxA (l := nonce) rfl rfl ?_
  rintro w2 b2 hn2 ha2 hc2 hl2
  refine wpL_allocA (List.replicate 16 (0 : UInt8)) I170 rfl rfl rfl ?_
  rintro w3 b3 hn3 ha3 hc3 hl3
  refine wpL_nil (thenE_norm ?_)
  refine wpE_seq ?_
  refine wpE_region ?_
  refine wpL_value rfl (x_loadN 32 Tryz.underlying23 rfl I23 rfl rfl ((ha1.chg0 hc2).chg0 hc3) (by first | assumption | rfl | (simp <;> omega))) ?_
  refine wpL_call rfl C117 (Derive_ok k hk tMac 0 0 rfl w3 (by decide)) ?_
  rintro _ w4 ⟨rfl, hc4⟩
  have hdl := deriveL_length k tMac 0
  refine wpL_allocA (List.replicate 32 (0 : UInt8)) I23 rfl rfl rfl ?_
  rintro w5 b5 hn5 ha5 hc5 hl5
  refine wpL_exs rfl (x_storeN 32 I23 rfl (ha5) rfl rfl (rfl) (hdl)) ?_
  rintro w6 ⟨ha6, hc6, hs6⟩
  refine wpL_nil (thenE_norm ?_)
  refine wpE_seq ?_
  refine wpE_region ?_
  refine wpL_value rfl x_move (wpL_value rfl (x_len_slice rfl Tryz.underlying41) (wpL_value rfl (x_conv64u rfl Tryz.underlying3 Tryz.underlying35) ?_))
  have hc06 : Chg [] w w6 := ((((hc1.tr hc2).tr hc3).tr hc4).tr hc5).t1 hc6 (by have := hc4.1; omega)
  refine wpL_call rfl C64 (Put_ok (.slice none 0 0) [] (toU64 (aad.length : Int)) 8 _ (Own.nil _) (by decide) (by decide)) ?_
  rintro v7 w7 ⟨ho7, hc7, hi7⟩
  refine wpL_value rfl x_move ?_
  have hc7 : Chg [] w6 w7 := hc7
  have hi7 : In v7 [] w6.heap.size := hi7
  have h64 : (toU64 (aad.length : Int)).toNat = aad.length := by rw [toU64_nat, UInt64.toNat_ofNat']; omega
  rw [h64, List.nil_append] at ho7
  have hbl : ∀ x : Nat, (be 8 x).length = 8 := be_length 8
  refine wpL_append Tryz.underlying41 Tryz.underlying41 I5 (.inr ⟨_, rfl⟩) rfl rfl rfl (by decide) rfl (ho7) ((ha.mod0 (hc06.tr hc7)).src) rfl rfl (by rw [hbl]; omega) ?_
  rintro v8 w8 h8
  refine wpL_value rfl x_assign ?_
  refine wpL_nil (thenE_norm ?_)
  refine wpE_seq ?_
  refine wpE_region ?_
  refine wpL_value rfl x_move ?_
  have hob2 := h8.step hc7 hi7
  obtain ⟨ho8, hc8, hi8⟩ := hob2
  have hn6 : Arr w6 b2 nonce := (((ha2.chg0 hc3).chg0 hc4).chg0 hc5).nb hc6 (by have := hc4.1; omega)
  refine wpL_value rfl (x_arr_full Tryz.underlying109 I5 rfl) ?_
  refine wpL_append Tryz.underlying41 Tryz.underlying41 I5 (.inr ⟨_, rfl⟩) rfl rfl rfl (by decide) rfl (ho8) (((hn6.chg0 hc8).sl (n := 12) (c := 12) hn (Nat.le_refl _)).src) rfl rfl (by rw [List.length_append, hbl]; omega) ?_
  rintro v9 w9 h9
  refine wpL_value rfl x_move ?_
  have hob3 := h9.step hc8 hi8
  obtain ⟨ho9, hc9, hi9⟩ := hob3
  refine wpL_append Tryz.underlying41 Tryz.underlying41 I5 (.inr ⟨_, rfl⟩) rfl rfl rfl (by decide) rfl (ho9) ((hc.mod0 (hc06.tr hc9)).src) rfl rfl (by rw [List.length_append, List.length_append, hbl]; omega) ?_
  rintro va wa ha
  refine wpL_value rfl x_assign ?_
  refine wpL_nil (thenE_norm ?_)
  refine wpE_seq ?_
  refine wpE_region ?_
  have hob4 := ha.step hc9 hi9
  obtain ⟨hoa, hca, hia⟩ := hob4
  refine wpL_value rfl (x_arr_full Tryz.underlying23 I5 rfl) ?_
  refine wpL_value rfl x_move ?_
  refine wpL_call rfl C123 (Mac_ok _ va _ _ wa ((ha6.chg0 hca).sl (n := 32) (c := 32) hdl (Nat.le_refl _)) hoa.sl (by omega) (by simp [hbl]; omega)) ?_
  rintro _ wb ⟨rfl, hcb⟩
  have htd : tagL k nonce aad c = (macL (deriveL k tMac 0) (be 8 aad.length ++ aad ++ nonce ++ c)).take 16 := tagL_def _ _ _ _
  generalize hmm : macL (deriveL k tMac 0) (be 8 aad.length ++ aad ++ nonce ++ c) = mm at *
  have hml : mm.length = 32 := by rw [← hmm, macL_length]
  refine wpL_allocA (List.replicate 32 (0 : UInt8)) I22 rfl rfl rfl ?_
  rintro wc bc hnc hac hcc hlc
  refine wpL_exs rfl (x_storeN 32 I22 rfl (hac) rfl rfl (rfl) (hml)) ?_
  rintro wd ⟨had, hcd, hsd⟩
  refine wpL_nil (thenE_norm ?_)
  refine wpE_seq ?_
  refine wpE_region ?_
  refine wpL_allocA (List.replicate 16 (0 : UInt8)) I170 rfl rfl rfl ?_
  rintro we be' hne hae hce hle
  refine wpL_nil (thenE_norm ?_)
  refine wpE_seq ?_
  refine wpE_draw mixed (.pure 0 (.pure 1 (.eff 2 [] .nil))) (by kernel_rfl) ?_
  refine wpP_pure rfl rfl rfl (fun _ => x_arr_full Tryz.underlying170 I5 rfl) ?_
  refine wpP_pure rfl rfl rfl (fun _ => x_arr_full Tryz.underlying22 I5 rfl) ?_
  refine wpP_exv rfl rfl rfl (x_copyArr (k := 0) Tryz.underlying41 I5 rfl rfl rfl rfl (((had.chg0 hce).sl (n := 32) (c := 32) hml (Nat.le_refl _)).srcH rfl) (hae) (by first | (simp; done) | omega)) ?_
  rintro wf ⟨haf, hcf, hsf⟩
  refine ⟨trivial, ?_⟩
  refine wpP_nil (thenE_norm ?_)
  refine wpE_seq ?_
  refine wpE_region ?_
  have hcf : Chg [be'] we wf := hcf
  rw [hml, show min 32 16 = 16 from rfl, ← htd, spl_all (by rw [hl]; rfl)] at haf
  have kk : wa.heap.size ≤ wb.heap.size := hcb.1
  have hcA : Chg [] w6 we := (((hca.tr hcb).tr hcc).t1 hcd (by have := hca.1; omega)).tr hce
  refine wpL_value rfl (x_loadN 16 Tryz.underlying170 rfl I170 rfl rfl (haf) (by first | assumption | rfl | (simp <;> omega))) ?_
  refine wpL_exs rfl (x_storeN 16 I170 rfl (((((((ha3.chg0 hc4).chg0 hc5).nb hc6 (by have := hc4.1; omega))).chg0 hcA).nb hcf (by have := hc4.1; have := hca.1; omega))) rfl rfl (rfl) (hl)) ?_
  rintro wg ⟨hag, hcg, hsg⟩
  refine wpL_nil (thenE_norm ?_)
  refine wpE_ret (fin_retR ?_)
  exact ⟨[arrV (tagL k nonce aad c)], ⟨⟨_, rfl, run_loadN 16 Tryz.underlying170 rfl I170 rfl hag hl⟩, trivial⟩, rfl, (((hc06.tr hcA).t1 hcf (by have := hc06.1; have := hca.1; omega))).t1 hcg (by omega)⟩
theorem cross_ok (k nonce : List UInt8) (bv : Value) (l : List UInt8) (w : World) (hk : k.length = 32) (hn : nonce.length = 12) (hb : Sl w bv l) (hl : l.length ≤ 100000000) :
    Ret Tryz.prog 101 #[arrV k, arrV nonce, bv] w fun v w' => Own w' v (crossK k nonce l) ∧ Chg [] w w' ∧ In v [] w.heap.size := by
  refine enter [6] Tryz.func101 rfl rfl (Nat.le_of_ble_eq_true rfl) ?_
  refine wpE_seq ?_
  refine wpE_region ?_
  refine wpL_boxA (l := k) rfl rfl ?_
  rintro w1 b1 hn1 ha1 hc1 hl1
  refine wpL_boxA (l := nonce) rfl rfl ?_
  rintro w2 b2 hn2 ha2 hc2 hl2
  refine wpL_value rfl x_assign ?_
  refine wpL_nil (thenE_norm ?_)
  refine wpE_seq ?_
  refine wpE_draw mixed (.read 0 (.read 2 (.pure 3 (.eff 1 [2] (.eff 4 [] (.pure 5 .nil)))))) (by kernel_rfl) ?_
  have ha1' : Arr w2 b1 k := ha1.chg0 hc2
  refine wpP_rdA 32 rfl rfl rfl Tryz.underlying23 rfl I23 rfl rfl (ha1') (by first | assumption | rfl | (simp <;> omega)) ?_
  refine wpP_rdA 12 rfl rfl rfl Tryz.underlying109 rfl I109 rfl rfl (ha2) (by first | assumption | rfl | (simp <;> omega)) ?_
  refine wpP_pure rfl rfl rfl (fun _ => x_move) ?_
  refine wpP_call rfl rfl rfl C117 (Derive_ok k hk tEnc 0 0 rfl _ (by decide)) ?_
  rintro _ w3 ⟨rfl, hc3⟩
  have hc3 : Chg [] w2 w3 := hc3
  refine ⟨⟨ha2.chg0 hc3, trivial⟩, ?_⟩
  refine wpP_call rfl rfl rfl C122 (XorS_ok _ nonce 1 bv l w3 (deriveL_length k tEnc 0) hn (hb.mod0 ((hc1.tr hc2).tr hc3)) hl) ?_
  rintro v4 w4 ⟨ho4, hc4, hi4⟩
  refine ⟨trivial, ?_⟩
  refine wpP_pure rfl rfl rfl (fun _ => x_assign) ?_
  refine wpP_nil (thenE_norm ?_)
  refine wpE_ret (fin_ret ?_)
  rw [← crossK_def] at ho4
  have hc03 := (hc1.tr hc2).tr hc3
  exact ⟨ho4, hc03.tr hc4, hi4.mono (fun b hb => .inl hb) hc03.1⟩
theorem Seal_ok (k nonce : List UInt8) (av pv : Value) (aad p : List UInt8) (w : World) (hk : k.length = 32) (hn : nonce.length = 12) (ha : Sl w av aad) (hp : Sl w pv p) (hal : aad.length ≤ 1000) (hpl : p.length ≤ 100000000) :
    Ret Tryz.prog 65 #[arrV k, arrV nonce, av, pv] w fun v w' => Own w' v (sealL k nonce aad p) ∧ Chg [] w w' ∧ In v [] w.heap.size := by
  refine enter [8] Tryz.func65 rfl rfl (Nat.le_of_ble_eq_true rfl) ?_
  refine wpE_seq ?_
  refine wpE_region ?_
  refine wpL_boxA (l := k) rfl rfl ?_
  rintro w1 b1 hn1 ha1 hc1 hl1
  refine wpL_boxA (l := nonce) rfl rfl ?_
  rintro w2 b2 hn2 ha2 hc2 hl2
  refine wpL_value rfl x_assign ?_
  refine wpL_nil (thenE_norm ?_)
  refine wpE_seq ?_
  refine wpE_region ?_
  have hc02 := hc1.tr hc2
  refine wpL_value rfl (x_loadN 32 Tryz.underlying23 rfl I23 rfl rfl (ha1.chg0 hc2) (by first | assumption | rfl | (simp <;> omega))) ?_
  refine wpL_value rfl (x_loadN 12 Tryz.underlying109 rfl I109 rfl rfl (ha2) (by first | assumption | rfl | (simp <;> omega))) ?_
  refine wpL_value rfl x_move ?_
  refine wpL_call rfl C101 (cross_ok k nonce pv p w2 hk hn (hp.mod0 hc02) hpl) ?_
  rintro v3 w3 ⟨ho3, hc3, hi3⟩
  refine wpL_value rfl x_assign ?_
  refine wpL_nil (thenE_norm ?_)
  refine wpE_seq ?_
  refine wpE_region ?_
  refine wpL_value rfl (x_loadN 32 Tryz.underlying23 rfl I23 rfl rfl ((ha1.chg0 hc2).chg0 hc3) (by first | assumption | rfl | (simp <;> omega))) ?_
  refine wpL_value rfl (x_loadN 12 Tryz.underlying109 rfl I109 rfl rfl (ha2.chg0 hc3) (by first | assumption | rfl | (simp <;> omega))) ?_
  refine wpL_value rfl x_move (wpL_value rfl x_move ?_)
  refine wpL_call rfl C102 (TagOf_ok k nonce av v3 aad _ w3 hk hn (ha.mod0 (hc02.tr hc3)) ho3.sl hal (by rw [crossK_length]; omega)) ?_
  rintro _ w4 ⟨rfl, hc4⟩
  have htl := tagL_length k nonce aad (crossK k nonce p)
  refine wpL_allocA (List.replicate 16 (0 : UInt8)) I170 rfl rfl rfl ?_
  rintro w5 b5 hn5 ha5 hc5 hl5
  refine wpL_exs rfl (x_storeN 16 I170 rfl (ha5) rfl rfl (rfl) (htl)) ?_
  rintro w6 ⟨ha6, hc6, hs6⟩
  refine wpL_nil (thenE_norm ?_)
  refine wpE_seq ?_
  refine wpE_region ?_
  refine wpL_value rfl x_move ?_
  have hc36 : Chg [] w3 w6 := (hc4.tr hc5).t1 hc6 (by have := hc4.1; omega)
  refine wpL_value rfl (x_arr_full Tryz.underlying170 I5 rfl) ?_
  refine wpL_append Tryz.underlying41 Tryz.underlying41 I5 (.inr ⟨_, rfl⟩) rfl rfl rfl (by decide) rfl (ho3.mod0 hc36) ((ha6.sl (n := 16) (c := 16) htl (Nat.le_refl _)).src) rfl rfl (by rw [crossK_length, htl]; omega) ?_
  rintro v7 w7 h7
  refine wpL_value rfl x_assign ?_
  refine wpL_nil (thenE_norm ?_)
  refine wpE_ret (fin_ret ?_)
  have hi3 : In v3 [] w.heap.size := hi3.mono (fun b hb => .inl hb) hc02.1
  have hob5 := h7.step ((hc02.tr hc3).tr hc36) hi3
  obtain ⟨ho7, hc7, hi7⟩ := hob5
  rw [← sealL_def] at ho7
  exact ⟨ho7, hc7, hi7⟩
def openV (k nonce aad b : List UInt8) (v : Value) (w : World) : Prop :=
  if b.length < 16 then v = .tuple #[.slice none 0 0, .int .i64 10]
  else if fitsL k nonce aad b then ∃ r, v = .tuple #[r, .int .i64 0] ∧ Own w r (crossK k nonce (b.take (b.length - 16)))
  else v = .tuple #[.slice none 0 0, .int .i64 50]
theorem Open_ok (k nonce : List UInt8) (av bv : Value) (aad b : List UInt8) (w : World) (hk : k.length = 32) (hn : nonce.length = 12) (ha : Sl w av aad) (hb : Sl w bv b) (hal : aad.length ≤ 1000) (hbl : b.length ≤ 100000000) :
    Ret Tryz.prog 82 #[arrV k, arrV nonce, av, bv] w fun v w' => openV k nonce aad b v w' ∧ Chg [] w w' := by
  have hob6 := hb.form rfl
  obtain ⟨pb, cb, rfl⟩ := hob6
  refine enter [8, 9] Tryz.func82 rfl rfl (Nat.le_of_ble_eq_true rfl) ?_
  refine wpE_seq ?_
  refine wpE_region ?_
  refine wpL_boxA (l := k) rfl rfl ?_
  rintro w1 b1 hn1 ha1 hc1 hl1
  refine wpL_boxA (l := nonce) rfl rfl ?_
  rintro w2 b2 hn2 ha2 hc2 hl2
  refine wpL_value rfl x_assign (wpL_value rfl x_assign ?_)
  refine wpL_nil (thenE_norm ?_)
  refine wpE_seq ?_
  refine wpE_region ?_
  refine wpL_allocA (List.replicate 16 (0 : UInt8)) I170 rfl rfl rfl ?_
  rintro w3 b3 hn3 ha3 hc3 hl3
  refine wpL_nil (thenE_norm ?_)
  refine wpE_seq ?_
  refine wpE_region ?_
  refine wpL_value rfl x_move (wpL_value rfl (x_len_slice rfl Tryz.underlying41) (wpL_value rfl (x_sub64 rfl rfl (by omega)) (wpL_value rfl x_assign ?_)))
  refine wpL_nil (thenE_norm ?_)
  refine wpE_seq ?_
  refine wpE_seq ?_
  refine wpE_region ?_
  refine wpL_value rfl x_move (wpL_value rfl (x_lss rfl rfl) ?_)
  refine wpL_nil (thenE_norm ?_)
  refine wpE_cond_d rfl (fun h => ?_) (fun h => ?_)
  · skip
    refine wpE_seq ?_
    refine wpE_region ?_
    refine wpL_value rfl x_assign (wpL_value rfl x_assign ?_)
    refine wpL_nil (thenE_norm ?_)
    refine wpE_ret (thenE_ret (fin_ret ?_))
    refine ⟨?_, (hc1.tr hc2).tr hc3⟩
    unfold openV; rw [if_pos (by omega)]; rfl
  · skip
    refine wpE_skip (thenE_norm ?_)
    refine wpE_seq ?_
    have h16 : 16 ≤ b.length := by omega
    have hc03 := (hc1.tr hc2).tr hc3
    have hk3 : Arr w3 b1 k := (ha1.chg0 hc2).chg0 hc3
    have hn3' : Arr w3 b2 nonce := ha2.chg0 hc3
    refine wpE_draw mixed (.pure 0 (.pure 1 (.pure 2 (.pure 3 (.eff 4 [] .nil))))) (by kernel_rfl) ?_
    refine wpP_pure rfl rfl rfl (fun _ => x_arr_full Tryz.underlying170 I5 rfl) ?_
    refine wpP_pure rfl rfl rfl (fun _ => x_move) ?_
    refine wpP_pure rfl rfl rfl (fun _ => x_move) ?_
    refine wpP_ex rfl rfl rfl (x_from (b.length - 16) Tryz.underlying41 I5 rfl (hb.mod0 hc03) rfl rfl (by omega) (by omega)) ?_
    rintro _ ⟨⟨p4, c4, rfl⟩, hs4, hbl4⟩
    refine wpP_exv rfl rfl rfl (x_copyArr (k := 0) Tryz.underlying41 I5 rfl rfl rfl rfl (hs4.srcH rfl) (ha3) (by first | (simp; done) | omega)) ?_
    rintro w4 ⟨ha4, hc4, hs4'⟩
    refine ⟨trivial, ?_⟩
    refine wpP_nil (thenE_norm ?_)
    refine wpE_seq ?_
    refine wpE_seq ?_
    have hc4 : Chg [b3] w3 w4 := hc4
    have hdl : (b.drop (b.length - 16)).length = 16 := by rw [List.length_drop]; omega
    rw [hdl, Nat.min_self, List.take_of_length_le (Nat.le_of_eq hdl), spl_all (by rw [hdl]; rfl)] at ha4
    have hc04 := hc03.t1 hc4 (by omega)
    have hk4 : Arr w4 b1 k := hk3.nb hc4 (by omega)
    have hn4 : Arr w4 b2 nonce := hn3'.nb hc4 (by omega)
    have htk : (b.take (b.length - 16)).length = b.length - 16 := by rw [List.length_take]; omega
    refine wpE_draw mixed (.read 0 (.read 1 (.read 2 (.pure 3 (.pure 4 (.pure 5 (.pure 6 (.eff 7 [0] (.pure 8 .nil))))))))) (by kernel_rfl) ?_
    refine wpP_rdA 16 rfl rfl rfl Tryz.underlying170 rfl I170 rfl rfl (ha4) (by first | assumption | rfl | (simp <;> omega)) ?_
    refine wpP_rdA 32 rfl rfl rfl Tryz.underlying23 rfl I23 rfl rfl (hk4) (by first | assumption | rfl | (simp <;> omega)) ?_
    refine wpP_rdA 12 rfl rfl rfl Tryz.underlying109 rfl I109 rfl rfl (hn4) (by first | assumption | rfl | (simp <;> omega)) ?_
    refine wpP_pure rfl rfl rfl (fun _ => x_move) ?_
    refine wpP_pure rfl rfl rfl (fun _ => x_move) ?_
    refine wpP_pure rfl rfl rfl (fun _ => x_move) ?_
    refine wpP_ex rfl rfl rfl (x_upto (b.length - 16) Tryz.underlying41 I5 (hb.mod0 hc04) rfl rfl (by omega) (by omega)) ?_
    rintro _ ⟨⟨p5, c5, rfl⟩, hs5, hbl5⟩
    refine wpP_call rfl rfl rfl C102 (TagOf_ok k nonce av _ aad _ _ hk hn (ha.mod0 hc04) hs5 hal (by omega)) ?_
    rintro _ w6 ⟨rfl, hc6⟩
    have hc6 : Chg [] w4 w6 := hc6
    refine ⟨⟨ha4.chg0 hc6, trivial⟩, ?_⟩
    have htl := tagL_length k nonce aad (b.take (b.length - 16))
    refine wpP_pure rfl rfl rfl (fun _ => x_neArr Tryz.underlying170 I5 rfl Tryz.underlying5 (by kernel_rfl) rfl rfl (hdl) (htl)) ?_
    refine wpP_nil (thenE_norm ?_)
    have hc06 := hc04.tr hc6
    refine wpE_cond_d rfl (fun hne => ?_) (fun hne => ?_)
    · skip
      refine wpE_seq ?_
      refine wpE_region ?_
      refine wpL_value rfl x_assign (wpL_value rfl x_assign ?_)
      refine wpL_nil (thenE_norm ?_)
      refine wpE_ret (thenE_ret (fin_ret ?_))
      refine ⟨?_, hc06⟩
      unfold openV
      rw [if_neg (by omega), if_neg (by unfold fitsL; exact hne)]; rfl
    · skip
      refine wpE_skip (thenE_norm ?_)
      refine wpE_seq ?_
      have heq : fitsL k nonce aad b := by unfold fitsL; exact Decidable.not_not.1 hne
      refine wpE_draw mixed (.read 0 (.read 1 (.pure 2 (.pure 3 (.pure 4 (.eff 5 [] (.pure 6 (.pure 7 .nil)))))))) (by kernel_rfl) ?_
      refine wpP_rdA 32 rfl rfl rfl Tryz.underlying23 rfl I23 rfl rfl (hk4.chg0 hc6) (by first | assumption | rfl | (simp <;> omega)) ?_
      refine wpP_rdA 12 rfl rfl rfl Tryz.underlying109 rfl I109 rfl rfl (hn4.chg0 hc6) (by first | assumption | rfl | (simp <;> omega)) ?_
      refine wpP_pure rfl rfl rfl (fun _ => x_move) ?_
      refine wpP_pure rfl rfl rfl (fun _ => x_move) ?_
      refine wpP_ex rfl rfl rfl (x_upto (b.length - 16) Tryz.underlying41 I5 (hb.mod0 hc06) rfl rfl (by omega) (by omega)) ?_
      rintro _ ⟨⟨p7, c7, rfl⟩, hs7, hbl7⟩
      refine wpP_call rfl rfl rfl C101 (cross_ok k nonce _ _ _ hk hn hs7 (by omega)) ?_
      rintro v8 w8 ⟨ho8, hc8, hi8⟩
      refine ⟨trivial, ?_⟩
      refine wpP_pure rfl rfl rfl (fun _ => x_assign) ?_
      refine wpP_pure rfl rfl rfl (fun _ => x_assign) ?_
      refine wpP_nil (thenE_norm ?_)
      refine wpE_ret (fin_ret ?_)
      have hc8 : Chg [] w6 w8 := hc8
      refine ⟨?_, hc06.tr hc8⟩
      unfold openV
      rw [if_neg (by omega), if_pos heq]
      exact ⟨_, rfl, ho8⟩
def unwrapV (kek : List UInt8) (slot gen : Nat) (b : List UInt8) : Value :=
  if fitsL kek (nonceL slot gen) tWrap b then .tuple #[arrV (crossK kek (nonceL slot gen) (b.take 32)), .int .i64 0] else .tuple #[arrV (List.replicate 32 (0 : UInt8)), .int .i64 50]
end Go.Proofs.YtenhmbhflgnhlaaGreat

