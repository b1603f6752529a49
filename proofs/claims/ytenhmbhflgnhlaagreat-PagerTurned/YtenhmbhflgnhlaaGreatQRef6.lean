/- A page of which a byte was changed on the disk, or another page's first sector stands in its place, is told as what stands there opens to, or that it isn't sealed so; other pages are as they were: by the document's seals. It holds for every input; there are no conditions. -/
import Derived.Test.YtenhmbhflgnhlaaGreatQRef5
namespace Go.Proofs.YtenhmbhflgnhlaaGreat
open Go Go.Sac
set_option maxRecDepth 100000
set_option maxHeartbeats 4000000
theorem rTagOf_ok (k nonce : List UInt8) (av cv : Value) (aad c : List UInt8) (w : World) (hk : k.length = 32) (hn : nonce.length = 12) (ha : Sl w av aad) (hc : Sl w cv c) (hal : aad.length ≤ 1000) (hcl : c.length ≤ 100000000) :
    Ret Tryz.prog 98 #[arrV k, arrV nonce, av, cv] w fun v w' => v = arrV (tagL k nonce aad c) ∧ Chg [] w w' := by
  obtain ⟨pa, ca, rfl⟩ := ha.form rfl
  have hl := tagL_length k nonce aad c
  refine enterR [.cell 8 170] Tryz.func98 rfl rfl (Nat.le_of_ble_eq_true rfl) ?_
  refine wpE_seq ?_
  refine wpE_region ?_
  refine wpL_boxA (l := k) rfl rfl ?_
  rintro w1 b1 hn1 ha1 hc1 hl1
  refine wpL_boxA (l := nonce) rfl rfl ?_
  rintro w2 b2 hn2 ha2 hc2 hl2
  refine wpL_allocA (List.replicate 16 (0 : UInt8)) I170 rfl rfl rfl ?_
  rintro w3 b3 hn3 ha3 hc3 hl3
  refine wpL_nil (thenE_norm ?_)
  refine wpE_seq ?_
  refine wpE_region ?_
  refine wpL_value rfl x_move (wpL_value rfl (x_len_slice rfl Tryz.underlying41) (wpL_value rfl (x_conv64u rfl Tryz.underlying3 Tryz.underlying35) ?_))
  have hc03 := (hc1.tr hc2).tr hc3
  refine wpL_call rfl C99 (rPut_ok (.slice none 0 0) [] (toU64 (aad.length : Int)) 8 _ (Own.nil _) (by decide) (by decide)) ?_
  rintro v7 w7 ⟨ho7, hc7, hi7⟩
  refine wpL_value rfl x_assign ?_
  refine wpL_nil (thenE_norm ?_)
  refine wpE_seq ?_
  have hc7 : Chg [] w3 w7 := hc7
  have hi7 : In v7 [] w3.heap.size := hi7
  have h64 : (toU64 (aad.length : Int)).toNat = aad.length := by rw [toU64_nat, UInt64.toNat_ofNat']; omega
  rw [h64, List.nil_append] at ho7
  have hbl : ∀ x : Nat, (be 8 x).length = 8 := be_length 8
  have hn7 : Arr w7 b2 nonce := (ha2.chg0 hc3).chg0 hc7
  refine wpE_draw mixed (.pure 0 (.pure 1 (.pure 3 (.pure 5 (.eff 2 [] (.eff 4 [] (.eff 6 [] (.pure 7 .nil)))))))) (by kernel_rfl) ?_
  refine wpP_pure rfl rfl rfl (fun _ => x_move) ?_
  refine wpP_pure rfl rfl rfl (fun _ => x_move) ?_
  refine wpP_pure rfl rfl rfl (fun _ => x_arr_full Tryz.underlying109 I5 rfl) ?_
  refine wpP_pure rfl rfl rfl (fun _ => x_move) ?_
  refine wpP_exw rfl rfl rfl (x_app Tryz.underlying41 Tryz.underlying41 I5 (.inr ⟨_, rfl⟩) rfl rfl rfl (by decide) (ho7.mod0 (rdrw w7)) ((ha.mod0 ((hc03.tr hc7).tr (rdrw w7))).src) rfl rfl (by rw [hbl]; omega)) ?_
  rintro v8 w8 h8
  refine ⟨trivial, ?_⟩
  have h8m : Chg (blkOf v7) w7 w8 := h8.mod
  have hob1 := (Appended.mk h8.own h8m h8.inn : Appended v7 (be 8 aad.length) aad w7 v8 w8).step hc7 hi7
  obtain ⟨ho8, hc8, hi8⟩ := hob1
  refine wpP_exw rfl rfl rfl (x_app Tryz.underlying41 Tryz.underlying41 I5 (.inr ⟨_, rfl⟩) rfl rfl rfl (by decide) (ho8) ((((ha2.chg0 hc3).chg0 hc8).sl (n := 12) (c := 12) hn (Nat.le_refl _)).src) rfl rfl (by rw [List.length_append, hbl]; omega)) ?_
  rintro v9 w9 h9
  refine ⟨trivial, ?_⟩
  have hob2 := h9.step hc8 hi8
  obtain ⟨ho9, hc9, hi9⟩ := hob2
  refine wpP_exw rfl rfl rfl (x_app Tryz.underlying41 Tryz.underlying41 I5 (.inr ⟨_, rfl⟩) rfl rfl rfl (by decide) (ho9) ((hc.mod0 (hc03.tr hc9)).src) rfl rfl (by rw [List.length_append, List.length_append, hbl]; omega)) ?_
  rintro va wa ha
  refine ⟨trivial, ?_⟩
  refine wpP_pure rfl rfl rfl (fun _ => x_assign) ?_
  refine wpP_nil (thenE_norm ?_)
  refine wpE_seq ?_
  refine wpE_region ?_
  have hob3 := ha.step hc9 hi9
  obtain ⟨hoa, hca, hia⟩ := hob3
  have hk8 : Arr wa b1 k := ((ha1.chg0 hc2).chg0 hc3).chg0 hca
  refine wpL_value rfl (x_loadN 32 Tryz.underlying23 rfl I23 rfl rfl (hk8) (hk)) ?_
  refine wpL_call rfl C79 (rDerive_ok k hk tMac 0 0 rfl _ (by decide)) ?_
  rintro _ wb ⟨rfl, hcb⟩
  have hdl := deriveL_length k tMac 0
  refine wpL_allocA (List.replicate 32 (0 : UInt8)) I23 rfl rfl rfl ?_
  rintro wc bc hnc hac hcc hlc
  refine wpL_exs rfl (x_storeN 32 I23 rfl (hac) rfl rfl (rfl) (hdl)) ?_
  rintro wd ⟨had, hcd, hsd⟩
  refine wpL_nil (thenE_norm ?_)
  refine wpE_seq ?_
  refine wpE_region ?_
  have hcad : Chg [] wa wd := (hcb.tr hcc).t1 hcd (by have := hcb.1; omega)
  refine wpL_value rfl (x_arr_full Tryz.underlying23 I5 rfl) ?_
  refine wpL_value rfl x_move ?_
  refine wpL_call rfl C121 (rMac_ok _ va _ _ wd (had.sl (n := 32) (c := 32) hdl (Nat.le_refl _)) (hoa.mod0 hcad).sl (by omega) (by simp [hbl]; omega)) ?_
  rintro _ we ⟨rfl, hce⟩
  have htd : tagL k nonce aad c = (macL (deriveL k tMac 0) (be 8 aad.length ++ aad ++ nonce ++ c)).take 16 := tagL_def _ _ _ _
  have hob4 : ∃ mm, mm = macL (deriveL k tMac 0) (be 8 aad.length ++ aad ++ nonce ++ c) := ⟨_, rfl⟩
  obtain ⟨mm, hmm⟩ := hob4
  rw [← hmm] at htd
  have hml : mm.length = 32 := by rw [hmm, macL_length]
  rw [← hmm]
  refine wpL_allocA (List.replicate 32 (0 : UInt8)) I22 rfl rfl rfl ?_
  rintro wf bf hnf haf hcf hlf
  refine wpL_exs rfl (x_storeN 32 I22 rfl (haf) rfl rfl (rfl) (hml)) ?_
  rintro wg ⟨hag, hcg, hsg⟩
  refine wpL_nil (thenE_norm ?_)
  refine wpE_seq ?_
  refine wpE_region ?_
  refine wpL_allocA (List.replicate 16 (0 : UInt8)) I170 rfl rfl rfl ?_
  rintro wh bh hnh hah hch hlh
  refine wpL_nil (thenE_norm ?_)
  refine wpE_seq ?_
  refine wpE_seq ?_
  refine wpE_region ?_
  refine wpL_value rfl x_assign ?_
  refine wpL_nil (thenE_norm ?_)
  refine wpE_block ?_
  have hcah : Chg [] wa wh := ((((hcad.tr hce).tr hcf).t1 hcg (by have := hcad.1; have := hce.1; omega))).tr hch
  have hgh := hag.chg0 hch
  have h3h : Arr wh b3 (List.replicate 16 (0 : UInt8)) := ((ha3.chg0 hca)).chg0 hcah
  have k03 := hc03.1
  have k3a := hca.1
  have kah := hcah.1
  refine wpE_loopF [8, 11, 12, 13] (fun n vs w' => ∃ i : Nat, vs = [.pointer (some ⟨b3, 0, none⟩), .pointer (some ⟨bf, 0, none⟩), .pointer (some ⟨bh, 0, none⟩), .int .i64 i] ∧ i + n = 16 ∧ Arr w' bh ((tagL k nonce aad c).take i ++ List.replicate (16 - i) 0) ∧ Chg [bh] wh w') (16) ?_ ?_
  · exact ⟨0, rfl, rfl, by simpa using hah, Chg.refl' _ _⟩
  · rintro n vs J wi ⟨i, rfl, hi, hai, hci⟩
    refine wpE_seq ?_
    refine wpE_seq ?_
    refine wpE_region ?_
    refine wpL_value rfl x_move (wpL_value rfl (x_lss rfl rfl) ?_)
    refine wpL_nil (thenE_norm ?_)
    have hfl := fill_len hl (show i ≤ 16 by omega)
    have hgi := hgh.nb hci (by have := hag.lt; omega)
    refine wpE_cond_d rfl (fun h => ?_) (fun h => ?_)
    · skip
      refine wpE_skip (thenE_norm ?_)
      refine wpE_seq ?_
      refine wpE_block ?_
      refine wpE_region ?_
      refine wpL_value rfl x_move (wpL_value rfl x_move ?_)
      have hob5 : ∃ q, n = q + 1 := ⟨n - 1, by omega⟩
      obtain ⟨n, rfl⟩ := hob5
      have hti : (tagL k nonce aad c)[i]? = some (mm.getD i 0) := by
        rw [htd, List.getElem?_take, if_pos (by omega)]; exact getD_some (by omega)
      refine wpL_value rfl (x_idxA (i) Tryz.underlying22 I5 rfl rfl (by first | rfl | omega) (by first | assumption | omega)) ?_
      refine wpL_value rfl (x_load Tryz.underlying5 rfl rfl (hgi.c (getD_some (d := 0) (by omega)) rfl rfl)) ?_
      refine wpL_value rfl (x_idxA (i) Tryz.underlying170 I5 rfl rfl (by first | rfl | omega) (by first | assumption | omega)) ?_
      refine wpL_exs rfl (x_store1 (a := mm.getD i 0) (k := i) I5 rfl rfl rfl rfl (hai) rfl (by first | assumption | omega)) ?_
      rintro wj ⟨haj, hcj, hsj⟩
      refine wpL_nil (blockE_norm (thenE_norm ?_))
      refine wpE_region ?_
      refine wpL_value rfl x_move (wpL_value rfl (x_add64 rfl rfl (by omega)) (wpL_value rfl x_assign ?_))
      refine wpL_nil (thenE_norm ?_)
      refine Exists.intro (n) (And.intro (by omega) ?_)
      refine ⟨i + 1, rfl, by omega, ?_, hci.tr hcj⟩
      rw [← fill_step hl (by omega) hti]
      exact haj
    · skip
      refine wpE_exit (thenE_exit (thenE_exit (blockE_exit (thenE_norm ?_))))
      refine wpE_seq ?_
      refine wpE_region ?_
      have hob6 : i = 16 := by omega
      obtain rfl := hob6
      rw [fill_full hl] at hai
      refine wpL_value rfl (x_loadN 16 Tryz.underlying170 rfl I170 rfl rfl (hai) (hl)) ?_
      have kall : w3.heap.size ≤ wg.heap.size ∧ b3 < w3.heap.size ∧ w.heap.size ≤ b3 := by have := hcad.1; have := hce.1; have := hcf.1; have := hcg.1; have := ha3.lt; have := hc1.1; have := hc2.1; exact ⟨by omega, by omega, by omega⟩
      refine wpL_exs rfl (x_storeN 16 I170 rfl (h3h.nb hci (by omega)) rfl rfl (rfl) (hl)) ?_
      rintro wj ⟨haj, hcj, hsj⟩
      refine wpL_nil (thenE_norm ?_)
      refine wpE_ret (fin_retR ?_)
      exact ⟨[arrV (tagL k nonce aad c)], ⟨⟨_, rfl, run_loadN 16 Tryz.underlying170 rfl I170 rfl haj hl⟩, trivial⟩, rfl, ((((hc03.tr hca).tr hcah).t1 hci (by omega))).t1 hcj (by omega)⟩
theorem rSeal_ok (k nonce : List UInt8) (av pv : Value) (aad p : List UInt8) (w : World) (hk : k.length = 32) (hn : nonce.length = 12) (ha : Sl w av aad) (hp : Sl w pv p) (hal : aad.length ≤ 1000) (hpl : p.length ≤ 100000000) :
    Ret Tryz.prog 57 #[arrV k, arrV nonce, av, pv] w fun v w' => Own w' v (sealL k nonce aad p) ∧ Chg [] w w' ∧ In v [] w.heap.size := by
  refine enter [8] Tryz.func57 rfl rfl (Nat.le_of_ble_eq_true rfl) ?_
  refine wpE_seq ?_
  refine wpE_region ?_
  refine wpL_boxA (l := k) rfl rfl ?_
  rintro w1 b1 hn1 ha1 hc1 hl1
  refine wpL_boxA (l := nonce) rfl rfl ?_
  rintro w2 b2 hn2 ha2 hc2 hl2
  refine wpL_value rfl x_assign ?_
  refine wpL_nil (thenE_norm ?_)
  refine wpE_seq ?_
  have hc02 := hc1.tr hc2
  have ha1' : Arr w2 b1 k := ha1.chg0 hc2
  refine wpE_draw mixed (.read 0 (.read 2 (.pure 3 (.eff 1 [2] (.eff 4 [] (.pure 5 .nil)))))) (by kernel_rfl) ?_
  refine wpP_rdA 32 rfl rfl rfl Tryz.underlying23 rfl I23 rfl rfl (ha1') (hk) ?_
  refine wpP_rdA 12 rfl rfl rfl Tryz.underlying109 rfl I109 rfl rfl (ha2) (hn) ?_
  refine wpP_pure rfl rfl rfl (fun _ => x_move) ?_
  refine wpP_call rfl rfl rfl C79 (rDerive_ok k hk tEnc 0 0 rfl _ (by decide)) ?_
  rintro _ w3 ⟨rfl, hc3⟩
  have hc3 : Chg [] w2 w3 := hc3
  refine ⟨⟨ha2.chg0 hc3, trivial⟩, ?_⟩
  refine wpP_call rfl rfl rfl C97 (rXorS_ok _ nonce 1 pv p w3 (deriveL_length k tEnc 0) hn (hp.mod0 (hc02.tr hc3)) hpl) ?_
  rintro v4 w4 ⟨ho4, hc4, hi4⟩
  refine ⟨trivial, ?_⟩
  refine wpP_pure rfl rfl rfl (fun _ => x_assign) ?_
  refine wpP_nil (thenE_norm ?_)
  refine wpE_seq ?_
  refine wpE_region ?_
  rw [← crossK_def] at ho4
  have hc24 : Chg [] w2 w4 := hc3.tr hc4
  refine wpL_value rfl (x_loadN 32 Tryz.underlying23 rfl I23 rfl rfl (ha1'.chg0 hc24) (hk)) ?_
  refine wpL_value rfl (x_loadN 12 Tryz.underlying109 rfl I109 rfl rfl (ha2.chg0 hc24) (hn)) ?_
  refine wpL_value rfl x_move (wpL_value rfl x_move ?_)
  refine wpL_call rfl C98 (rTagOf_ok k nonce av v4 aad _ w4 hk hn (ha.mod0 (hc02.tr hc24)) ho4.sl hal (by rw [crossK_length]; omega)) ?_
  rintro _ w5 ⟨rfl, hc5⟩
  have htl := tagL_length k nonce aad (crossK k nonce p)
  refine wpL_allocA (List.replicate 16 (0 : UInt8)) I170 rfl rfl rfl ?_
  rintro w6 b6 hn6 ha6 hc6 hl6
  refine wpL_exs rfl (x_storeN 16 I170 rfl (ha6) rfl rfl (rfl) (htl)) ?_
  rintro w7 ⟨ha7, hc7, hs7⟩
  refine wpL_nil (thenE_norm ?_)
  refine wpE_seq ?_
  have hc47 : Chg [] w4 w7 := (hc5.tr hc6).t1 hc7 (by have := hc5.1; omega)
  have hi4 : In v4 [] w2.heap.size := hi4.mono (fun b hb => .inl hb) hc3.1
  refine wpE_draw mixed (.pure 0 (.pure 2 (.eff 1 [] (.eff 3 [] (.pure 4 .nil))))) (by kernel_rfl) ?_
  refine wpP_pure rfl rfl rfl (fun _ => x_move) ?_
  refine wpP_pure rfl rfl rfl (fun _ => x_arr_full Tryz.underlying170 I5 rfl) ?_
  refine wpP_exw rfl rfl rfl (x_app Tryz.underlying41 Tryz.underlying41 I5 (.inr ⟨_, rfl⟩) rfl rfl rfl (by decide) (Own.nil _) (((ho4.mod0 hc47).mod0 (rdrw w7)).sl.src) rfl rfl (by simp [crossK_length]; omega)) ?_
  rintro v8 w8 h8
  refine ⟨trivial, ?_⟩
  have h8m : Chg [] w7 w8 := h8.mod
  have ho8 := h8.own
  have hi8 : In v8 [] w7.heap.size := h8.inn
  rw [List.nil_append] at ho8
  refine wpP_exw rfl rfl rfl (x_app Tryz.underlying41 Tryz.underlying41 I5 (.inr ⟨_, rfl⟩) rfl rfl rfl (by decide) (ho8) (((ha7.chg0 h8m).sl (n := 16) (c := 16) htl (Nat.le_refl _)).src) rfl rfl (by rw [crossK_length, htl]; omega)) ?_
  rintro v9 w9 h9
  refine ⟨trivial, ?_⟩
  refine wpP_pure rfl rfl rfl (fun _ => x_assign) ?_
  refine wpP_nil (thenE_norm ?_)
  refine wpE_ret (fin_ret ?_)
  have ho9 := h9.own
  rw [← sealL_def] at ho9
  have k07 : Chg [] w w8 := ((hc02.tr hc24).tr hc47).tr h8m
  exact ⟨ho9, k07.t0 h9.mod (fun x hx => by have := hi8.ge x hx; have := ((hc02.tr hc24).tr hc47).1; omega), h9.inn.mono (fun x hx => .inr (by have := hi8.ge x hx; have := ((hc02.tr hc24).tr hc47).1; omega)) k07.1⟩
def rOpenV (k nonce aad b : List UInt8) (v : Value) (w : World) : Prop :=
  if fitsL k nonce aad b then ∃ r, v = .tuple #[r, .int .i64 0] ∧ Own w r (crossK k nonce (b.take (b.length - 16)))
  else v = .tuple #[.slice none 0 0, .int .i64 50]
theorem rOpen_ok (k nonce : List UInt8) (av bv : Value) (aad b : List UInt8) (w : World) (hk : k.length = 32) (hn : nonce.length = 12) (ha : Sl w av aad) (hb : Sl w bv b) (hal : aad.length ≤ 1000) (hbl : b.length ≤ 100000000) (h16 : 16 ≤ b.length) :
    Ret Tryz.prog 60 #[arrV k, arrV nonce, av, bv] w fun v w' => rOpenV k nonce aad b v w' ∧ Chg [] w w' := by
  have hob7 := hb.form rfl
  obtain ⟨pb, cb, rfl⟩ := hob7
  refine enter [8, 9] Tryz.func60 rfl rfl (Nat.le_of_ble_eq_true rfl) ?_
  refine wpE_seq ?_
  refine wpE_region ?_
  refine wpL_boxA (l := k) rfl rfl ?_
  rintro w1 b1 hn1 ha1 hc1 hl1
  refine wpL_boxA (l := nonce) rfl rfl ?_
  rintro w2 b2 hn2 ha2 hc2 hl2
  refine wpL_value rfl x_assign (wpL_value rfl x_assign ?_)
  refine wpL_nil (thenE_norm ?_)
  refine wpE_seq ?_
  refine wpE_region ?_
  refine wpL_value rfl x_move (wpL_value rfl (x_len_slice rfl Tryz.underlying41) (wpL_value rfl (x_sub64 rfl rfl (by omega)) (wpL_value rfl x_assign ?_)))
  refine wpL_nil (thenE_norm ?_)
  refine wpE_seq ?_
  refine wpE_seq ?_
  refine wpE_region ?_
  refine wpL_value rfl x_move (wpL_value rfl (x_lss rfl rfl) ?_)
  refine wpL_nil (thenE_norm ?_)
  have hc02 := hc1.tr hc2
  have ha1' : Arr w2 b1 k := ha1.chg0 hc2
  have hdl : (b.drop (b.length - 16)).length = 16 := by rw [List.length_drop]; omega
  have htk : (b.take (b.length - 16)).length = b.length - 16 := by rw [List.length_take]; omega
  have htl := tagL_length k nonce aad (b.take (b.length - 16))
  refine wpE_cond_df rfl (by omega) ?_
  refine wpE_skip (thenE_norm ?_)
  refine wpE_cutF [3, 4, 5, 10, 11] (fun vs w' => ∃ (b6 : Nat), vs = [.slice pb b.length cb, .pointer (some ⟨b1, 0, none⟩), .pointer (some ⟨b2, 0, none⟩), .int .i64 ((b.length : Int) - 16), .pointer (some ⟨b6, 0, none⟩)] ∧ Arr w' b6 (tagL k nonce aad (b.take (b.length - 16))) ∧ Chg [] w2 w') ?_ ?_
  · skip
    refine wpE_draw mixed (.read 0 (.read 1 (.pure 2 (.pure 3 (.pure 4 (.pure 5 (.alt (.eff 6 [] (.eff 7 [0, 1] (.eff 8 [] .nil))) (.eff 7 [0, 1] (.eff 6 [] (.eff 8 [] .nil)))))))))) (by kernel_rfl) ?_
    refine wpP_rdA 32 rfl rfl rfl Tryz.underlying23 rfl I23 rfl rfl (ha1') (hk) ?_
    refine wpP_rdA 12 rfl rfl rfl Tryz.underlying109 rfl I109 rfl rfl (ha2) (hn) ?_
    refine wpP_pure rfl rfl rfl (fun _ => x_move) ?_
    refine wpP_pure rfl rfl rfl (fun _ => x_move) ?_
    refine wpP_pure rfl rfl rfl (fun _ => x_move) ?_
    refine wpP_ex rfl rfl rfl (x_upto (b.length - 16) Tryz.underlying41 I5 (hb.mod0 hc02) rfl rfl (by omega) (by omega)) ?_
    rintro _ ⟨⟨p5, c5, rfl⟩, hs5, hbl5⟩
    have hcum : Chg [] w2 { w2 with drawn := w2.drawn + 1 } := Chg.heap rfl
    have o0 : ∀ {w' : World}, Chg [] w2 w' → Arr w' b1 k := fun hc => ha1'.chg0 hc
    have o1 : ∀ {w' : World}, Chg [] w2 w' → Arr w' b2 nonce := fun hc => ha2.chg0 hc
    refine wpP_alt ?_ ?_
    · skip
      refine wpP_call rfl rfl rfl C98 (rTagOf_ok k nonce av (.slice p5 (b.length - 16) c5) aad (b.take (b.length - 16)) _ hk hn (ha.mod0 (hc02.tr hcum)) (hs5.mod0 hcum) hal (by omega)) ?_
      rintro _ wq6 ⟨rfl, hc6⟩
      refine ⟨trivial, ?_⟩
      have hcum := hcum.tr hc6
      refine wpP_exw rfl rfl rfl (x_allocArr (List.replicate 16 (0 : UInt8)) I170 rfl rfl) ?_
      rintro _ wq7 ⟨b6, rfl, hnq, haq, hc7, hlq⟩
      have hnq2 : w2.heap.size ≤ b6 := Nat.le_trans hcum.1 hnq
      have hcum := hcum.tr hc7
      refine ⟨⟨o0 hcum, o1 hcum, trivial⟩, ?_⟩
      refine wpP_exs rfl rfl rfl (x_storeN 16 I170 rfl (haq) rfl rfl (rfl) (htl)) ?_
      rintro wq8 ⟨ha8, hc8, hs8⟩
      refine ⟨trivial, ?_⟩
      refine wpP_nil (thenE_norm ?_)
      exact ⟨b6, rfl, ha8, hcum.t1 hc8 hnq2⟩
    · skip
      refine wpP_exw rfl rfl rfl (x_allocArr (List.replicate 16 (0 : UInt8)) I170 rfl rfl) ?_
      rintro _ wq7 ⟨b6, rfl, hnq, haq, hc7, hlq⟩
      have hnq2 : w2.heap.size ≤ b6 := Nat.le_trans hcum.1 hnq
      have hcum := hcum.tr hc7
      refine ⟨⟨o0 hcum, o1 hcum, trivial⟩, ?_⟩
      refine wpP_call rfl rfl rfl C98 (rTagOf_ok k nonce av (.slice p5 (b.length - 16) c5) aad (b.take (b.length - 16)) _ hk hn (ha.mod0 (hc02.tr hcum)) (hs5.mod0 hcum) hal (by omega)) ?_
      rintro _ wq6 ⟨rfl, hc6⟩
      refine ⟨trivial, ?_⟩
      have hcum := hcum.tr hc6
      have haq := haq.chg0 hc6
      refine wpP_exs rfl rfl rfl (x_storeN 16 I170 rfl (haq) rfl rfl (rfl) (htl)) ?_
      rintro wq8 ⟨ha8, hc8, hs8⟩
      refine ⟨trivial, ?_⟩
      refine wpP_nil (thenE_norm ?_)
      exact ⟨b6, rfl, ha8, hcum.t1 hc8 hnq2⟩
  · rintro vs J w6 ⟨b6, rfl, ha6, hc6⟩
    refine wpE_seq ?_
    refine wpE_seq ?_
    have hc06 := hc02.tr hc6
    have hb6 := hb.mod0 hc06
    refine wpE_draw mixed (.pure 0 (.read 1 (.pure 2 (.pure 3 (.pure 4 (.read 5 (.pure 6 .nil))))))) (by kernel_rfl) ?_
    refine wpP_pure rfl rfl rfl (fun _ => x_arr_full Tryz.underlying170 I5 rfl) ?_
    refine wpP_read rfl rfl rfl (fun w' => Arr w' b6 (tagL k nonce aad (b.take (b.length - 16)))) (ha6) (fun w1 h1 => x_b2s Tryz.underlying41 Tryz.underlying5 Tryz.underlying9 (h1.sl (n := 16) (c := 16) htl (Nat.le_refl _)) rfl) ?_
    refine wpP_pure rfl rfl rfl (fun _ => x_move) ?_
    refine wpP_pure rfl rfl rfl (fun _ => x_move) ?_
    refine wpP_ex rfl rfl rfl (x_from (b.length - 16) Tryz.underlying41 I5 rfl hb6 rfl rfl (by omega) (by omega)) ?_
    rintro _ ⟨⟨p7, c7, rfl⟩, hs7, hbl7⟩
    refine wpP_read rfl rfl rfl (fun w' => Sl w' (.slice p7 (b.length - (b.length - 16)) c7) (b.drop (b.length - 16))) (hs7) (fun w1 h1 => x_b2s Tryz.underlying41 Tryz.underlying5 Tryz.underlying9 h1 rfl) ?_
    refine wpP_pure rfl rfl rfl (fun _ => (x_neS rfl rfl)) ?_
    refine wpP_nil (thenE_norm ?_)
    refine wpE_cond_d rfl (fun hne => ?_) (fun hne => ?_)
    · skip
      refine wpE_seq ?_
      refine wpE_region ?_
      refine wpL_value rfl x_assign (wpL_value rfl x_assign ?_)
      refine wpL_nil (thenE_norm ?_)
      refine wpE_ret (thenE_ret (fin_ret ?_))
      refine ⟨?_, hc06.tr (rdrw w6)⟩
      unfold rOpenV
      rw [if_neg (by unfold fitsL; exact fun h => hne h.symm)]; rfl
    · skip
      refine wpE_skip (thenE_norm ?_)
      refine wpE_seq ?_
      have heq : fitsL k nonce aad b := by unfold fitsL; exact (Decidable.not_not.1 hne).symm
      have hob8 : ∃ wd, wd = ({ w6 with drawn := w6.drawn + 1 } : World) := ⟨_, rfl⟩
      obtain ⟨wd, hwd⟩ := hob8
      have hcd : Chg [] w6 wd := by rw [hwd]; exact rdrw w6
      rw [← hwd]
      have h1d : Arr wd b1 k := ha1'.chg0 (hc6.tr hcd)
      have h2d : Arr wd b2 nonce := ha2.chg0 (hc6.tr hcd)
      have hbd := hb6.mod0 hcd
      refine wpE_draw mixed (.read 0 (.read 2 (.pure 3 (.pure 4 (.pure 5 (.eff 1 [2] (.eff 6 [] (.pure 7 (.pure 8 .nil))))))))) (by kernel_rfl) ?_
      refine wpP_rdA 32 rfl rfl rfl Tryz.underlying23 rfl I23 rfl rfl (h1d) (hk) ?_
      refine wpP_rdA 12 rfl rfl rfl Tryz.underlying109 rfl I109 rfl rfl (h2d) (hn) ?_
      refine wpP_pure rfl rfl rfl (fun _ => x_move) ?_
      refine wpP_pure rfl rfl rfl (fun _ => x_move) ?_
      refine wpP_ex rfl rfl rfl (x_upto (b.length - 16) Tryz.underlying41 I5 hbd rfl rfl (by omega) (by omega)) ?_
      rintro _ ⟨⟨p8, c8, rfl⟩, hs8, hbl8⟩
      refine wpP_call rfl rfl rfl C79 (rDerive_ok k hk tEnc 0 0 rfl _ (by decide)) ?_
      rintro _ w9 ⟨rfl, hc9⟩
      have hc9 : Chg [] wd w9 := hc9
      refine ⟨⟨h2d.chg0 hc9, trivial⟩, ?_⟩
      refine wpP_call rfl rfl rfl C97 (rXorS_ok _ nonce 1 (.slice p8 (b.length - 16) c8) _ w9 (deriveL_length k tEnc 0) hn (hs8.mod0 hc9) (by omega)) ?_
      rintro va wa ⟨hoa, hca, hia⟩
      refine ⟨trivial, ?_⟩
      refine wpP_pure rfl rfl rfl (fun _ => x_assign) ?_
      refine wpP_pure rfl rfl rfl (fun _ => x_assign) ?_
      refine wpP_nil (thenE_norm ?_)
      refine wpE_ret (fin_ret ?_)
      rw [← crossK_def] at hoa
      refine ⟨?_, ((hc06.tr hcd).tr hc9).tr hca⟩
      unfold rOpenV
      rw [if_pos heq]
      exact ⟨_, rfl, hoa⟩
end Go.Proofs.YtenhmbhflgnhlaaGreat
