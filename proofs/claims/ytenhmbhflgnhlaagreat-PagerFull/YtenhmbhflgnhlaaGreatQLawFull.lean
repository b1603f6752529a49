/- A pager has as many pages as the disk holds: each is allocated once, then none; those that were freed come again behind the next commit. It holds for every input; there are no conditions. -/
import Derived.Test.YtenhmbhflgnhlaaGreatQLaw7b
import Derived.Test.YtenhmbhflgnhlaaGreatSac1
namespace Go.Proofs.YtenhmbhflgnhlaaGreat
open Go Go.Sac
set_option maxRecDepth 100000
set_option maxHeartbeats 4000000
theorem PagerFull_ok (w : World) (x0 x1 : UInt8) :
    Ret Tryz.prog 7 #[.int .u8 x0.toNat, .int .u8 x1.toNat] w fun v w' => v = .bool true ∧ Chg [] w w' := by
  have hm10 : (x0 % 10).toNat < 10 := by rw [UInt8.toNat_mod]; exact Nat.mod_lt _ (by decide)
  have hx1 := x1.toNat_lt
  refine enter [4] Tryz.func7 rfl rfl (Nat.le_of_ble_eq_true rfl) ?_
  refine wpE_seq ?_
  refine wpE_region ?_
  refine wpL_value rfl x_assign ?_
  refine wpL_nil (thenE_norm ?_)
  refine wpE_seq ?_
  refine wpE_seq ?_
  refine wpE_region ?_
  refine wpL_call rfl C19 (known7_ok w) ?_
  rintro _ w1 ⟨rfl, hc1⟩
  refine wpL_value rfl (x_not rfl) ?_
  refine wpL_nil (thenE_norm ?_)
  refine wpE_cond_f (rfl) ?_
  refine wpE_skip (thenE_norm ?_)
  refine wpE_seq ?_
  refine wpE_region ?_
  refine wpL_value rfl x_move (wpL_value rfl (x_rem8u (b := 10) rfl rfl (by decide)) (wpL_value rfl (x_convI rfl Tryz.underlying5 Tryz.underlying3 (by omega)) (wpL_value rfl (x_add64 rfl rfl (by omega)) (wpL_value rfl x_assign ?_))))
  refine wpL_nil (thenE_norm ?_)
  refine wpE_seq ?_
  refine wpE_region ?_
  refine wpL_value rfl x_move ?_
  generalize (x0 % 10).toNat = m at *
  refine wpL_call rfl C20 (begun_run (n := m + 4) (by omega) V0 hc1) ?_
  rintro _ w2 ⟨b, kv, r, R, a, ds, mb, pv, ov, rfl, hS2, hM2, hMF, hc2⟩
  refine wpL_value rfl x_move (wpL_value rfl (x_extract rfl rfl) (wpL_value rfl (x_extract rfl rfl) (wpL_value rfl (x_extract rfl rfl) (wpL_value rfl (x_extract rfl rfl) (wpL_value rfl x_assign (wpL_value rfl x_assign (wpL_value rfl x_assign (wpL_value rfl x_assign ?_))))))))
  refine wpL_nil (thenE_norm ?_)
  refine wpE_seq ?_
  refine wpE_seq ?_
  refine wpE_region ?_
  refine wpL_value rfl x_move ?_
  refine wpL_value rfl (x_to (x_not rfl) (rfl)) ?_
  refine wpL_value rfl x_move (wpL_yes rfl (wpL_value rfl x_move (wpL_yes rfl ?_)))
  refine wpL_call rfl C31 (len_run hS2) ?_
  rintro _ w3 ⟨rfl, hS3, hc3⟩
  refine wpL_yes rfl (wpL_value rfl x_move (wpL_yes rfl (wpL_value rfl (x_neq rfl rfl) (wpL_value rfl (x_pick_f rfl) ?_))))
  refine wpL_nil (thenE_norm ?_)
  refine wpE_cond_df rfl (fun h => h (by omega)) ?_
  refine wpE_skip (thenE_norm ?_)
  refine wpE_seq ?_
  refine wpE_seq ?_
  refine wpE_region ?_
  refine wpL_value rfl x_assign ?_
  refine wpL_nil (thenE_norm ?_)
  refine wpE_block ?_
  have hR0 : ∀ x ∈ PF R, w.heap.size ≤ x := fun x hx => hS3.ge x (List.mem_append_left _ hx)
  refine wpE_loopF [1, 5, 7, 10] (fun q vs w' => ∃ (i : Nat) (ds : DSt) (P : Pg) (V : UInt32 → List UInt8), vs = [.int .u8 x1.toNat, .int .i64 ((m : Int) + 4), .pointer (some ⟨R.pb, 0, none⟩), .int .i64 i] ∧ i + q = m + 4 ∧ PS w w' b kv r R (m + 4) (i + 1) k39 ds P V ∧ P.now.used = upU i ∧ P.now.written = upU i ∧ P.kept.used = noPg ∧ P.kept.written = noPg) (m + 4) ?_ ?_
  · exact ⟨0, _, _, _, rfl, by omega, hS3, upU_zero.symm, upU_zero.symm, rfl, rfl⟩
  · rintro q vs J w4 ⟨i, ds4, P4, V4, rfl, hi, hS4, hu4, hw4, hku4, hkw4⟩
    refine wpE_seq ?_
    refine wpE_seq ?_
    refine wpE_region ?_
    refine wpL_value rfl x_move (wpL_value rfl x_move (wpL_value rfl (x_lss rfl rfl) ?_))
    refine wpL_nil (thenE_norm ?_)
    refine wpE_cond_d rfl (fun hlt => ?_) (fun hlt => ?_)
    · skip
      refine wpE_skip (thenE_norm ?_)
      refine wpE_seq ?_
      refine wpE_block ?_
      refine wpE_seq ?_
      refine wpE_region ?_
      refine wpL_value rfl x_move ?_
      have hob1 : ∃ z, q = z + 1 := ⟨q - 1, by omega⟩
      obtain ⟨q, rfl⟩ := hob1
      have htn : (UInt32.ofNat i).toNat = i := by rw [UInt32.toNat_ofNat']; omega
      have hfr : ∀ j, j < 4294967296 → P4.free (UInt32.ofNat j) = !decide (j < i) := fun j hj => by
        unfold Pg.free
        rw [hu4, hku4, upU_of i j hj]
        simp [noPg]
      refine wpL_call rfl C21 (alloc_at hS4 i (by omega) (fun j hj => by rw [hfr j (by omega), decide_eq_true hj]; rfl) (by rw [hfr i (by omega), decide_eq_false (by omega)]; rfl)) ?_
      rintro _ w5 ⟨rfl, hS5, hc5⟩
      refine wpL_value rfl x_move (wpL_value rfl (x_extract rfl rfl) (wpL_value rfl (x_extract rfl rfl) (wpL_value rfl x_assign (wpL_value rfl x_assign ?_))))
      refine wpL_nil (thenE_norm ?_)
      refine wpE_seq ?_
      refine wpE_region ?_
      refine wpL_value rfl x_move ?_
      refine wpL_value rfl (x_to (x_neq rfl rfl) (congrArg Value.bool (decide_eq_false (fun h => h rfl)))) ?_
      refine wpL_value rfl x_move (wpL_yes rfl (wpL_value rfl x_move (wpL_yes rfl (wpL_value rfl (x_convI rfl Tryz.underlying34 Tryz.underlying3 (by omega)) (wpL_yes rfl (wpL_value rfl x_move (wpL_yes rfl ?_)))))))
      refine wpL_value rfl (x_to (x_neq rfl rfl) (congrArg Value.bool (decide_eq_false (fun h => h (by omega))))) ?_
      refine wpL_value rfl (x_pick_f rfl) (wpL_value rfl x_move (wpL_yes rfl (wpL_value rfl x_move (wpL_yes rfl (wpL_value rfl x_move (wpL_yes rfl (wpL_value rfl x_move (wpL_yes rfl (wpL_value rfl (x_conv8u rfl Tryz.underlying3 Tryz.underlying5) (wpL_yes rfl ?_))))))))))
      refine wpL_exw rfl (x_bsS [.int .u8 (toU8 (i : Int)).toNat] [toU8 (i : Int)] Tryz.underlying41 I5 rfl rfl rfl rfl rfl rfl (by decide) (by decide)) ?_
      rintro _ w6 ⟨⟨b6, o6, c6, rfl⟩, ho6, hc6, hi6⟩
      refine wpL_yes rfl ?_
      have hlt5 := hS5.lt
      have hS6 := hS5.chg0 hc6
      refine wpL_call rfl C22 (write_run hS6 (by omega) (UInt32.ofNat i) (fresh_iff.2 ⟨by show addPg P4.now.used _ _ = true; unfold addPg; simp, by show P4.kept.used _ = false; rw [hku4]; rfl⟩) (.slice (some ⟨b6, o6, none⟩) 1 c6) [toU8 (i : Int)] (Nat.le_of_ble_eq_true rfl) ho6.sl (fun x hx hh => by have := hi6.ge x hx; have := hlt5 x hh; omega)) ?_
      rintro _ w7 ⟨rfl, ⟨ds7, hS7⟩, hc7⟩
      refine wpL_yes rfl (wpL_value rfl (x_neq rfl rfl) (wpL_value rfl (x_pick_f rfl) ?_))
      refine wpL_nil (thenE_norm ?_)
      refine wpE_cond_df rfl (fun h => h rfl) ?_
      refine wpE_skip (blockE_norm (thenE_norm ?_))
      refine wpE_region ?_
      refine wpL_value rfl x_move (wpL_value rfl (x_add64 rfl rfl (by omega)) (wpL_value rfl x_assign ?_))
      refine wpL_nil (thenE_norm ?_)
      refine Exists.intro (q) (And.intro (by omega) ?_)
      exact ⟨i + 1, ds7, _, _, rfl, by omega, hS7, by show addPg P4.now.used _ = _; rw [hu4, upU_add i (by omega)], by show addPg P4.now.written _ = _; rw [hw4, upU_add i (by omega)], hku4, hkw4⟩
    · skip
      refine wpE_exit (thenE_exit (thenE_exit (blockE_exit (thenE_norm ?_))))
      refine wpE_seq ?_
      refine wpE_region ?_
      refine wpL_value rfl x_move ?_
      have hi2 : i = m + 4 := by omega
      subst hi2
      have hfr : ∀ j, j < m + 4 → P4.free (UInt32.ofNat j) = false := fun j hj => by
        unfold Pg.free
        rw [hu4, upU_of _ j (by omega), decide_eq_true hj]; rfl
      refine wpL_call rfl C21 (alloc_none hS4 hfr) ?_
      rintro _ w5 ⟨rfl, hS5, hc5⟩
      refine wpL_value rfl x_move (wpL_value rfl (x_extract rfl rfl) (wpL_value rfl (x_extract rfl rfl) (wpL_value rfl x_assign (wpL_value rfl x_assign ?_))))
      refine wpL_nil (thenE_norm ?_)
      refine wpE_seq ?_
      refine wpE_seq ?_
      refine wpE_region ?_
      refine wpL_value rfl x_move ?_
      refine wpL_value rfl (x_to (x_neq rfl rfl) (congrArg Value.bool (decide_eq_false (fun h => h rfl)))) ?_
      refine wpL_value rfl x_move (wpL_yes rfl (wpL_value rfl x_move (wpL_yes rfl ?_)))
      refine wpL_call rfl C32 (room_run hS5) ?_
      rintro v6 w6 ⟨hv6, hS6, hc6⟩
      rw [roomN_none _ hfr] at hv6
      subst hv6
      refine wpL_yes rfl ?_
      refine wpL_value rfl (x_to (x_neq rfl rfl) (congrArg Value.bool (decide_eq_false (fun h => h rfl)))) ?_
      refine wpL_value rfl (x_pick_f rfl) (wpL_value rfl x_move (wpL_yes rfl (wpL_value rfl x_move (wpL_yes rfl ?_))))
      refine wpL_call rfl C23 (commit_run hS6 (by omega) 0 [] (by decide) (fun i hi => by have := (fresh_iff.1 hi).1; rw [hu4] at this; rw [hw4]; exact this)) ?_
      rintro _ w7 ⟨rfl, ⟨u7, r7, ku7, kr7, ds7, hR7, hS7, hpd7, _⟩, hc7⟩
      refine wpL_yes rfl (wpL_value rfl (x_neq rfl rfl) (wpL_value rfl (x_pick_f rfl) ?_))
      refine wpL_nil (thenE_norm ?_)
      refine wpE_cond_df rfl (fun h => h rfl) ?_
      refine wpE_skip (thenE_norm ?_)
      refine wpE_seq ?_
      refine wpE_region ?_
      refine wpL_value rfl x_move (wpL_value rfl (x_convI rfl Tryz.underlying5 Tryz.underlying3 (by omega)) (wpL_value rfl x_move (wpL_value rfl (x_rem64 rfl rfl (by omega)) (wpL_value rfl (x_conv32u rfl Tryz.underlying3 Tryz.underlying34) (wpL_value rfl x_assign ?_)))))
      refine wpL_nil (thenE_norm ?_)
      refine wpE_seq ?_
      refine wpE_seq ?_
      refine wpE_region ?_
      refine wpL_value rfl x_move (wpL_value rfl x_move ?_)
      have hob2 : ∃ P7 : Pg, P7 = { P4 with now := (comS P4 0 []).st, kept := comS P4 0 [], at_ := (P4.at_ + 1) % 2 } := ⟨_, rfl⟩
      obtain ⟨P7, hP7⟩ := hob2
      rw [← hP7] at hS7
      have hu7 : P7.now.used = upU (m + 4) := by rw [hP7]; exact hu4
      have hw7 : P7.now.written = upU (m + 4) := by rw [hP7]; exact hw4
      have hku7 : P7.kept.used = upU (m + 4) := by rw [hP7]; exact hu4
      have hkw7 : P7.kept.written = upU (m + 4) := by rw [hP7]; exact hw4
      have hob3 : ∃ kk : Nat, kk = x1.toNat % (m + 4) := ⟨_, rfl⟩
      obtain ⟨kk, hkk⟩ := hob3
      have hkn : kk < m + 4 := by rw [hkk]; exact Nat.mod_lt _ (by omega)
      have hqv : toU32 ((x1.toNat : Int) % ((m : Int) + 4)) = UInt32.ofNat kk := by
        rw [hkk, show (x1.toNat : Int) % ((m : Int) + 4) = ((x1.toNat % (m + 4) : Nat) : Int) by (rw [Int.natCast_emod]; rfl), toU32_nat]
      have hkt : (UInt32.ofNat kk).toNat = kk := by rw [UInt32.toNat_ofNat']; omega
      rw [hqv]
      generalize hq : UInt32.ofNat kk = q at *
      have hdl : ∀ j, j < m + 4 → delPg (upU (m + 4)) q (UInt32.ofNat j) = !decide (j = kk) := fun j hj => by
        rw [delPg_of, upU_of _ j (by omega), decide_eq_true hj, Bool.and_true]
        by_cases h : j = kk
        · rw [h, hq, decide_eq_true rfl, decide_eq_true rfl]
        · rw [decide_eq_false h, decide_eq_false (fun h2 => h (ofNat_inj (by omega) (by omega) (by rw [h2, hq])))]
      have huq : P7.now.used q = true := by rw [hu7]; unfold upU; exact decide_eq_true (by omega)
      refine wpL_call rfl C33 ((free_run hS7 q huq :)) ?_
      rintro _ w8 ⟨rfl, hS8, hc8⟩
      have hob4 : ∃ P8 : Pg, P8 = { P7 with now := { P7.now with used := delPg P7.now.used q, written := delPg P7.now.written q } } := ⟨_, rfl⟩
      obtain ⟨P8, hP8⟩ := hob4
      rw [← hP8] at hS8
      have hu8 : P8.now.used = delPg (upU (m + 4)) q := by rw [hP8, ← hu7]
      have hw8 : P8.now.written = delPg (upU (m + 4)) q := by rw [hP8, ← hw7]
      have hku8 : P8.kept.used = upU (m + 4) := by rw [hP8]; exact hku7
      have hfr8 : ∀ j, j < m + 4 → P8.free (UInt32.ofNat j) = false := fun j hj => by
        unfold Pg.free
        rw [hku8, upU_of _ j (by omega), decide_eq_true hj]; simp
      refine wpL_value rfl (x_to (x_neq rfl rfl) (congrArg Value.bool (decide_eq_false (fun h => h rfl)))) ?_
      refine wpL_value rfl x_move (wpL_yes rfl (wpL_value rfl x_move (wpL_yes rfl ?_)))
      refine wpL_call rfl C32 ((room_run hS8 :)) ?_
      rintro v9 w9 ⟨hv9, hS9, hc9⟩
      rw [roomN_none _ hfr8] at hv9
      subst hv9
      refine wpL_yes rfl (wpL_value rfl (x_neq rfl rfl) (wpL_value rfl (x_pick_f rfl) ?_))
      refine wpL_nil (thenE_norm ?_)
      refine wpE_cond_df rfl (fun h => h rfl) ?_
      refine wpE_skip (thenE_norm ?_)
      refine wpE_seq ?_
      refine wpE_region ?_
      refine wpL_value rfl x_move ?_
      refine wpL_call rfl C21 ((alloc_none hS9 hfr8 :)) ?_
      rintro _ w10 ⟨rfl, hS10, hc10⟩
      refine wpL_value rfl x_move (wpL_value rfl (x_extract rfl rfl) (wpL_value rfl (x_extract rfl rfl) (wpL_value rfl x_assign ?_)))
      refine wpL_nil (thenE_norm ?_)
      refine wpE_seq ?_
      refine wpE_seq ?_
      refine wpE_region ?_
      refine wpL_value rfl x_move ?_
      refine wpL_value rfl (x_to (x_neq rfl rfl) (congrArg Value.bool (decide_eq_false (fun h => h rfl)))) ?_
      refine wpL_value rfl x_move (wpL_yes rfl (wpL_value rfl x_move (wpL_yes rfl ?_)))
      refine wpL_call rfl C23 ((commit_run hS10 (by omega) 0 [] (by decide) (fun i hi => by have := (fresh_iff.1 hi).1; rw [hu8] at this; rw [hw8]; exact this) :)) ?_
      rintro _ w11 ⟨rfl, ⟨u11, r11, ku11, kr11, ds11, hR11, hS11, hpd11, _⟩, hc11⟩
      refine wpL_yes rfl ?_
      have hob5 : ∃ P11 : Pg, P11 = { P8 with now := (comS P8 0 []).st, kept := comS P8 0 [], at_ := (P8.at_ + 1) % 2 } := ⟨_, rfl⟩
      obtain ⟨P11, hP11⟩ := hob5
      rw [← hP11] at hS11
      have hu11 : P11.now.used = delPg (upU (m + 4)) q := by rw [hP11]; exact hu8
      have hw11 : P11.now.written = delPg (upU (m + 4)) q := by rw [hP11]; exact hw8
      have hku11 : P11.kept.used = delPg (upU (m + 4)) q := by rw [hP11]; exact hu8
      have hfr11 : ∀ j, j < m + 4 → P11.free (UInt32.ofNat j) = decide (j = kk) := fun j hj => by
        unfold Pg.free
        rw [hu11, hku11, hdl j hj]
        by_cases h : j = kk <;> simp [h]
      refine wpL_value rfl (x_to (x_neq rfl rfl) (congrArg Value.bool (decide_eq_false (fun h => h rfl)))) ?_
      refine wpL_value rfl (x_pick_f rfl) (wpL_value rfl x_move (wpL_yes rfl (wpL_value rfl x_move (wpL_yes rfl ?_))))
      refine wpL_call rfl C32 ((room_run hS11 :)) ?_
      rintro v12 w12 ⟨hv12, hS12, hc12⟩
      rw [roomN_one _ hkn hfr11] at hv12
      subst hv12
      refine wpL_yes rfl (wpL_value rfl (x_neq rfl rfl) (wpL_value rfl (x_pick_f rfl) ?_))
      refine wpL_nil (thenE_norm ?_)
      refine wpE_cond_df rfl (fun h => h rfl) ?_
      refine wpE_skip (thenE_norm ?_)
      refine wpE_seq ?_
      refine wpE_region ?_
      refine wpL_value rfl x_move ?_
      refine wpL_call rfl C21 ((alloc_at hS12 kk hkn (fun j hj => by rw [hfr11 j (by omega)]; exact decide_eq_false (by omega)) (by rw [hfr11 kk hkn]; exact decide_eq_true rfl) :)) ?_
      rintro _ w13 ⟨rfl, hS13, hc13⟩
      refine wpL_value rfl x_move (wpL_value rfl (x_extract rfl rfl) (wpL_value rfl (x_extract rfl rfl) (wpL_value rfl x_assign (wpL_value rfl x_assign ?_))))
      refine wpL_nil (thenE_norm ?_)
      refine wpE_seq ?_
      refine wpE_region ?_
      refine wpL_value rfl x_move (wpL_value rfl x_move ?_)
      refine wpL_call rfl C29 ((read_none hS13 (UInt32.ofNat kk) (by show P11.now.written _ = false; rw [hw11, hdl kk hkn]; simp) :)) ?_
      rintro _ w14 ⟨rfl, hS14, hc14⟩
      refine wpL_value rfl x_move (wpL_value rfl (x_extract rfl rfl) (wpL_value rfl (x_extract rfl rfl) (wpL_value rfl x_assign (wpL_value rfl x_assign ?_))))
      refine wpL_nil (thenE_norm ?_)
      refine wpE_seq ?_
      refine wpE_region ?_
      refine wpL_value rfl x_move ?_
      refine wpL_value rfl (x_to (x_eql rfl rfl) (congrArg Value.bool (decide_eq_true (rfl)))) ?_
      refine wpL_value rfl x_move (wpL_yes rfl (wpL_value rfl x_move (wpL_yes rfl (wpL_value rfl x_move (wpL_yes rfl ?_)))))
      refine wpL_value rfl (x_to (x_eql32u rfl rfl) (congrArg Value.bool (decide_eq_true (by rw [hq])))) ?_
      refine wpL_value rfl (x_pick_t rfl) (wpL_value rfl x_move (wpL_yes rfl (wpL_value rfl x_move (wpL_yes rfl ?_))))
      refine wpL_value rfl (x_to (x_eql rfl rfl) (congrArg Value.bool (decide_eq_true (rfl)))) ?_
      refine wpL_value rfl (x_pick_t rfl) (wpL_value rfl x_move (wpL_yes rfl (wpL_value rfl x_move (wpL_yes rfl (wpL_value rfl x_move (wpL_yes rfl (wpL_value rfl (x_conv32u rfl Tryz.underlying3 Tryz.underlying34) (wpL_yes rfl ?_))))))))
      have hfn : addPg P11.now.used (UInt32.ofNat kk) (toU32 ((m : Int) + 4)) = false := by
        have e : toU32 ((m : Int) + 4) = UInt32.ofNat (m + 4) := toU32_nat (m + 4)
        unfold addPg
        rw [hu11, e, delPg_of, upU_of _ (m + 4) (by omega), decide_eq_false (show ¬ m + 4 < m + 4 by omega), Bool.and_false, Bool.or_false]
        exact decide_eq_false (fun h => by have := ofNat_inj (by omega) (by omega) h; omega)
      refine wpL_call rfl C33 ((free_none hS14 (toU32 ((m : Int) + 4)) hfn :)) ?_
      rintro _ w15 ⟨rfl, hS15, hc15⟩
      refine wpL_yes rfl (wpL_value rfl (x_eql rfl rfl) (wpL_value rfl (x_pick_t rfl) (wpL_value rfl x_assign ?_)))
      refine wpL_nil (thenE_norm ?_)
      refine wpE_ret (fin_ret ?_)
      exact ⟨rfl, hS15.now⟩
end Go.Proofs.YtenhmbhflgnhlaaGreat
