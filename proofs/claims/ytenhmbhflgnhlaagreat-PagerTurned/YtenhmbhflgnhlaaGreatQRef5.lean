/- A page of which a byte was changed on the disk, or another page's first sector stands in its place, is told as what stands there opens to, or that it isn't sealed so; other pages are as they were: by the document's seals. It holds for every input; there are no conditions. -/
import Derived.Test.YtenhmbhflgnhlaaGreatQRef4
namespace Go.Proofs.YtenhmbhflgnhlaaGreat
open Go Go.Sac
set_option maxRecDepth 100000
set_option maxHeartbeats 4000000
theorem ru64_u32 (x : UInt32) : (toU64 (x.toNat : Int)).toNat = x.toNat := by
  rw [toU64_nat, UInt64.toNat_ofNat']
  have := x.toNat_lt
  omega
theorem take_minlen {l : List UInt8} (m : Nat) (h : m = min l.length 64) : l.take m = l.take 64 := by
  subst h
  by_cases h6 : l.length ≤ 64
  · rw [List.take_of_length_le (by omega), List.take_of_length_le (by omega)]
  · rw [Nat.min_eq_right (by omega)]
theorem rXorS_ok (k nonce : List UInt8) (ctr : UInt32) (bv : Value) (l : List UInt8) (w : World) (hk : k.length = 32) (hn : nonce.length = 12) (hb : Sl w bv l) (hl : l.length ≤ 100000000) :
    Ret Tryz.prog 97 #[arrV k, arrV nonce, .int .u32 ctr.toNat, bv] w fun v w' => Own w' v (crossL k nonce ctr l) ∧ Chg [] w w' ∧ In v [] w.heap.size := by
  obtain ⟨p, c, rfl⟩ := hb.form rfl
  refine enter [8] Tryz.func97 rfl rfl (Nat.le_of_ble_eq_true rfl) ?_
  refine wpE_seq ?_
  refine wpE_region ?_
  refine wpL_boxA (l := k) rfl rfl ?_
  rintro w1 b1 hn1 ha1 hc1 hl1
  refine wpL_boxA (l := nonce) rfl rfl ?_
  rintro w2 b2 hn2 ha2 hc2 hl2
  refine wpL_value rfl x_assign ?_
  refine wpL_nil (thenE_norm ?_)
  refine wpE_seq ?_
  refine wpE_region ?_
  refine wpL_value rfl x_assign ?_
  refine wpL_nil (thenE_norm ?_)
  refine wpE_seq ?_
  refine wpE_seq ?_
  refine wpE_region ?_
  refine wpL_value rfl x_assign ?_
  refine wpL_nil (thenE_norm ?_)
  refine wpE_block ?_
  have hc02 : Chg [] w w2 := hc1.tr hc2
  refine wpE_loopF [2, 3, 4, 5, 9, 10] (fun n vs w' => ∃ (i : Nat) (v9 : Value) (ct : UInt32) (done : List UInt8), vs = [.int .u32 ct.toNat, .slice p l.length c, .pointer (some ⟨b1, 0, none⟩), .pointer (some ⟨b2, 0, none⟩), v9, .int .i64 ((64 * i : Nat) : Int)] ∧ i + n = (l.length + 63) / 64 ∧ done.length ≤ l.length ∧ done.length = min (64 * i) l.length ∧ Own w' v9 done ∧ done ++ crossN k nonce n ct (l.drop (64 * i)) = crossL k nonce ctr l ∧ Chg [] w2 w' ∧ In v9 [] w2.heap.size) ((l.length + 63) / 64) ?_ ?_
  · exact ⟨0, .slice none 0 0, ctr, [], rfl, by omega, Nat.zero_le _, by simp, Own.nil _, by rw [crossL_def]; rfl, Chg.refl _, In.nil⟩
  · rintro n vs J w4 ⟨i, v9, ct, done, rfl, hi, hdl, hdm, ho4, hx4, hc4, hi4⟩
    refine wpE_seq ?_
    refine wpE_seq ?_
    refine wpE_region ?_
    refine wpL_value rfl x_move (wpL_value rfl x_move (wpL_value rfl (x_len_slice rfl Tryz.underlying41) (wpL_value rfl (x_lss rfl rfl) ?_)))
    refine wpL_nil (thenE_norm ?_)
    have hs4 := hb.mod0 (hc02.tr hc4)
    refine wpE_cond_d rfl (fun h => ?_) (fun h => ?_)
    · skip
      refine wpE_skip (thenE_norm ?_)
      refine wpE_seq ?_
      refine wpE_block ?_
      refine wpE_seq ?_
      refine wpE_region ?_
      have hob1 : ∃ q, n = q + 1 := ⟨n - 1, by omega⟩
      obtain ⟨n, rfl⟩ := hob1
      refine wpL_value rfl (x_loadN 32 Tryz.underlying23 rfl I23 rfl rfl ((ha1.chg0 hc2).chg0 hc4) (by first | assumption | rfl | (simp <;> omega))) ?_
      refine wpL_value rfl (x_loadN 12 Tryz.underlying109 rfl I109 rfl rfl (ha2.chg0 hc4) (by first | assumption | rfl | (simp <;> omega))) ?_
      refine wpL_value rfl x_move ?_
      refine wpL_call rfl C119 (rBlock4_ok k nonce ct w4 hk hn) ?_
      rintro _ w5 ⟨rfl, hc5⟩
      refine wpL_allocA (List.replicate 64 (0 : UInt8)) I115 rfl rfl rfl ?_
      rintro w6 b6 hn6 ha6 hc6 hl6
      refine wpL_exs rfl (x_storeN 64 I115 rfl (ha6) rfl rfl (rfl) (blockL_length _ _ _)) ?_
      rintro w7 ⟨ha7, hc7, hs7⟩
      refine wpL_nil (thenE_norm ?_)
      refine wpE_seq ?_
      refine wpE_region ?_
      refine wpL_value rfl x_move (wpL_value rfl (x_add32u (b := 1) rfl rfl) (wpL_value rfl x_assign ?_))
      refine wpL_nil (thenE_norm ?_)
      have hc47 : Chg [] w4 w7 := (hc5.tr hc6).t1 hc7 (by have := hc5.1; omega)
      have hs7' := hs4.mod0 hc47
      have ho7 := ho4.mod0 hc47
      refine wpE_draw mixed (.pure 0 (.pure 1 (.pure 2 (.pure 3 (.pure 4 (.pure 5 (.pure 6 (.pure 7 (.pure 8 (.pure 9 (.eff 10 [] (.eff 11 [] (.pure 12 .nil))))))))))))) (by kernel_rfl) ?_
      refine wpP_pure rfl rfl rfl (fun _ => x_move) ?_
      refine wpP_pure rfl rfl rfl (fun _ => x_move) ?_
      refine wpP_pure rfl rfl rfl (fun _ => x_move) ?_
      refine wpP_pure rfl rfl rfl (fun _ => x_move) ?_
      refine wpP_pure rfl rfl rfl (fun _ => (x_len_slice rfl Tryz.underlying41)) ?_
      refine wpP_pure rfl rfl rfl (fun _ => x_move) ?_
      refine wpP_pure rfl rfl rfl (fun _ => (x_add64 rfl rfl (by omega))) ?_
      refine wpP_pure rfl rfl rfl (fun _ => (x_min rfl rfl)) ?_
      refine wpP_ex rfl rfl rfl (x_fromto (64 * i) (min l.length (64 * i + 64)) Tryz.underlying41 I5 rfl hs7' rfl rfl rfl (by omega) (by omega) (by omega)) ?_
      rintro _ ⟨⟨pa, ca, rfl⟩, hsa, hbla⟩
      refine wpP_pure rfl rfl rfl (fun _ => x_arr_full Tryz.underlying115 I5 rfl) ?_
      refine wpP_call rfl rfl rfl C120 (rXor_ok _ _ _ _ _ hsa (ha7.sl (n := 64) (c := 64) (blockL_length _ _ _) (Nat.le_refl _)) (by rw [List.length_take]; omega)) ?_
      rintro v8 w8 ⟨ho8, hc8, hi8⟩
      refine ⟨trivial, ?_⟩
      have hc8 : Chg [] w7 w8 := hc8
      rw [take_minlen _ (by rw [List.length_drop]; omega)] at ho8
      have hx8 : (xorL ((l.drop (64 * i)).take 64) (blockL k nonce ct)).length = min 64 (l.length - 64 * i) := by rw [xorL_length, blockL_length, List.length_take, List.length_drop]; omega
      refine wpP_exw rfl rfl rfl (x_app Tryz.underlying41 Tryz.underlying41 I5 (.inr ⟨_, rfl⟩) rfl rfl rfl (by decide) (ho7.mod0 hc8) (ho8.sl.src) rfl rfl (by omega)) ?_
      rintro va wa ha
      refine ⟨trivial, ?_⟩
      refine wpP_pure rfl rfl rfl (fun _ => x_assign) ?_
      refine wpP_nil (blockE_norm (thenE_norm ?_))
      refine wpE_region ?_
      refine wpL_value rfl x_move (wpL_value rfl (x_add64 rfl rfl (by omega)) (wpL_value rfl x_assign ?_))
      refine wpL_nil (thenE_norm ?_)
      have hob2 := ha.step ((hc4.tr hc47).tr hc8) hi4
      obtain ⟨hoa, hca, hia⟩ := hob2
      refine Exists.intro (n) (And.intro (by omega) ?_)
      refine ⟨i + 1, va, ct + 1, done ++ xorL ((l.drop (64 * i)).take 64) (blockL k nonce ct), vs_cons rfl (vs_cons rfl (vs_cons rfl (vs_cons rfl (vs_cons rfl (vs_cons (int_eq (by omega)) vs_nil))))), by omega, by rw [List.length_append, hx8]; omega, by rw [List.length_append, hx8]; omega, hoa, ?_, hca, hia⟩
      rw [List.append_assoc, show 64 * (i + 1) = 64 * i + 64 by omega, ← List.drop_drop, ← crossN_succ]; exact hx4
    · skip
      refine wpE_exit (thenE_exit (thenE_exit (blockE_exit (thenE_norm ?_))))
      refine wpE_seq ?_
      refine wpE_region ?_
      refine wpL_value rfl x_move (wpL_value rfl x_assign ?_)
      refine wpL_nil (thenE_norm ?_)
      refine wpE_ret (fin_ret ?_)
      have hob3 : n = 0 := by omega
      obtain rfl := hob3
      rw [crossN_zero, List.append_nil] at hx4
      exact ⟨hx4 ▸ ho4, hc02.tr hc4, hi4.mono (fun b hb => .inl hb) hc02.1⟩
theorem rNonceOf_ok (page : UInt32) (gen : UInt64) (w : World) :
    Ret Tryz.prog 58 #[.int .u32 page.toNat, .int .u64 gen.toNat] w fun v w' => v = arrV (nonceL page.toNat gen.toNat) ∧ Chg [] w w' := by
  have hl := nonceL_length page.toNat gen.toNat
  refine enterR [.cell 4 109] Tryz.func58 rfl rfl (Nat.le_of_ble_eq_true rfl) ?_
  refine wpE_seq ?_
  refine wpE_region ?_
  refine wpL_allocA (List.replicate 12 (0 : UInt8)) I109 rfl rfl rfl ?_
  rintro w1 b1 hn1 ha1 hc1 hl1
  refine wpL_nil (thenE_norm ?_)
  refine wpE_seq ?_
  refine wpE_region ?_
  refine wpL_value rfl x_move (wpL_value rfl (x_conv64u rfl Tryz.underlying34 Tryz.underlying35) ?_)
  refine wpL_call rfl C99 (rPut_ok (.slice none 0 0) [] (toU64 (page.toNat : Int)) 4 _ (Own.nil _) (by decide) (by decide)) ?_
  rintro v3 w3 ⟨ho3, hc3, hi3⟩
  refine wpL_value rfl x_move ?_
  have hc3 : Chg [] w1 w3 := hc3
  have hi3 : In v3 [] w1.heap.size := hi3
  rw [ru64_u32] at ho3
  refine wpL_call rfl C99 (rPut_ok v3 _ gen 8 w3 ho3 (by decide) (by simp [be_length])) ?_
  rintro v4 w4 ⟨ho4, hc4, hi4⟩
  refine wpL_value rfl x_assign ?_
  refine wpL_nil (thenE_norm ?_)
  refine wpE_seq ?_
  refine wpE_region ?_
  have hc4 : Chg [] w1 w4 := hc3.t0 hc4 hi3.ge
  rw [List.nil_append, ← nonceL_def] at ho4
  have hob4 := ho4.form hl
  obtain ⟨p4, c4, rfl⟩ := hob4
  refine wpL_allocA (List.replicate 12 (0 : UInt8)) I109 rfl rfl rfl ?_
  rintro w5 b5 hn5 ha5 hc5 hl5
  refine wpL_nil (thenE_norm ?_)
  refine wpE_seq ?_
  refine wpE_seq ?_
  refine wpE_region ?_
  refine wpL_value rfl x_assign ?_
  refine wpL_nil (thenE_norm ?_)
  refine wpE_block ?_
  have ho5 := ho4.mod0 hc5
  have h1w := (ha1.chg0 hc4).chg0 hc5
  have k4 := hc4.1
  have l4 := ho4.sl.lt
  refine wpE_loopF [4, 5, 6, 7] (fun n vs w' => ∃ i : Nat, vs = [.pointer (some ⟨b1, 0, none⟩), .slice p4 12 c4, .pointer (some ⟨b5, 0, none⟩), .int .i64 i] ∧ i + n = 12 ∧ Arr w' b5 ((nonceL page.toNat gen.toNat).take i ++ List.replicate (12 - i) 0) ∧ Chg [b5] w5 w') (12) ?_ ?_
  · exact ⟨0, rfl, rfl, by simpa using ha5, Chg.refl' _ _⟩
  · rintro n vs J w6 ⟨i, rfl, hi, ha6, hc6⟩
    refine wpE_seq ?_
    refine wpE_seq ?_
    refine wpE_region ?_
    refine wpL_value rfl x_move (wpL_value rfl (x_lss rfl rfl) ?_)
    refine wpL_nil (thenE_norm ?_)
    have hfl := fill_len hl (show i ≤ 12 by omega)
    have hs6 := ho5.sl.mod hc6 (fun x hx hh => by simp at hh; subst hh; have := l4 _ hx; omega)
    refine wpE_cond_d rfl (fun h => ?_) (fun h => ?_)
    · skip
      refine wpE_skip (thenE_norm ?_)
      refine wpE_seq ?_
      refine wpE_block ?_
      refine wpE_region ?_
      refine wpL_value rfl x_move (wpL_value rfl x_move (wpL_value rfl x_move ?_))
      have hob5 : ∃ q, n = q + 1 := ⟨n - 1, by omega⟩
      obtain ⟨n, rfl⟩ := hob5
      refine wpL_ex rfl (x_idx (i) Tryz.underlying41 I5 rfl (hs6) rfl rfl (by first | rfl | omega) (by omega)) ?_
      rintro _ ⟨bi, oi, rfl, hei, hbi⟩
      refine wpL_value rfl (x_load Tryz.underlying5 rfl rfl ((hs6.at hei (getD_some (d := 0) (by omega))).c0 rfl)) ?_
      refine wpL_value rfl (x_idxA (i) Tryz.underlying109 I5 rfl rfl (by first | rfl | omega) (by first | assumption | omega)) ?_
      refine wpL_exs rfl (x_store1 (a := (nonceL page.toNat gen.toNat).getD i 0) (k := i) I5 rfl rfl rfl rfl (ha6) rfl (by first | assumption | omega)) ?_
      rintro w7 ⟨ha7, hc7, hs7⟩
      refine wpL_nil (blockE_norm (thenE_norm ?_))
      refine wpE_region ?_
      refine wpL_value rfl x_move (wpL_value rfl (x_add64 rfl rfl (by omega)) (wpL_value rfl x_assign ?_))
      refine wpL_nil (thenE_norm ?_)
      refine Exists.intro (n) (And.intro (by omega) ?_)
      refine ⟨i + 1, rfl, by omega, ?_, hc6.tr hc7⟩
      rw [← fill_step hl (by omega) (getD_some (d := 0) (by omega))]
      exact ha7
    · skip
      refine wpE_exit (thenE_exit (thenE_exit (blockE_exit (thenE_norm ?_))))
      refine wpE_seq ?_
      refine wpE_region ?_
      have hob6 : i = 12 := by omega
      obtain rfl := hob6
      rw [fill_full hl] at ha6
      refine wpL_value rfl (x_loadN 12 Tryz.underlying109 rfl I109 rfl rfl (ha6) (hl)) ?_
      refine wpL_exs rfl (x_storeN 12 I109 rfl (h1w.nb hc6 (by omega)) rfl rfl (rfl) (hl)) ?_
      rintro w7 ⟨ha7, hc7, hs7⟩
      refine wpL_nil (thenE_norm ?_)
      refine wpE_ret (fin_retR ?_)
      exact ⟨[arrV (nonceL page.toNat gen.toNat)], ⟨⟨_, rfl, run_loadN 12 Tryz.underlying109 rfl I109 rfl ha7 hl⟩, trivial⟩, rfl, ((((hc1.tr hc4).tr hc5).t1 hc6 (by omega))).t1 hc7 (by omega)⟩
end Go.Proofs.YtenhmbhflgnhlaaGreat
