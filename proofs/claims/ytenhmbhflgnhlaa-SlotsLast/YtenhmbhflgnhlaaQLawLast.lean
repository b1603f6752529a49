/- The law SlotsLast of the slots returns true for every input, and leaves its inputs as they were; no condition. -/
import Derived.Test.YtenhmbhflgnhlaaQLaw12
namespace Go.Proofs.Ytenhmbhflgnhlaa
open Go Go.Sac
set_option maxRecDepth 100000
set_option maxHeartbeats 4000000
theorem usedC_one {C : Cont} {k : Nat} (hk : k < 24) (h1 : (C k).isSome = true) (h2 : ∀ j : Nat, j < 24 → j ≠ k → C j = none) : (usedC C).length = 1 := by
  have h3 : (List.range 24).filter (fun i => (C i).isSome) = (List.range 24).filter (fun i => i == k) := by
    apply List.filter_congr
    intro j hj
    by_cases hjk : j = k
    · subst hjk; rw [h1]; simp
    · rw [h2 j (by simpa using hj) hjk]; simp [hjk]
  have h4 : ∀ k, k < 24 → ((List.range 24).filter (fun i => i == k)).length = 1 := by decide
  unfold usedC
  rw [List.length_map, h3]; exact h4 k hk
theorem SlotsLast_ok (w : World) (a : UInt8) (lv cv : Value) (l ch : List UInt8) (hl : Sl w lv l) (hch : Sl w cv ch) :
    Ret Try.prog 5 #[.int .u8 a.toNat, lv, cv] w fun v w' => v = .bool true ∧ Chg [] w w' := by
  obtain ⟨pl, cl, rfl⟩ := hl.form rfl
  obtain ⟨pc, cc, rfl⟩ := hch.form rfl
  refine enter [6] Try.func5 rfl rfl (Nat.le_of_ble_eq_true rfl) ?_
  refine wpE_seq ?_
  refine wpE_region ?_
  refine wpL_value rfl x_assign ?_
  refine wpL_nil (thenE_norm ?_)
  refine wpE_seq ?_
  refine wpE_seq ?_
  refine wpE_region ?_
  refine wpL_call rfl C8 (known_ok w) ?_
  rintro _ w1 ⟨rfl, hc1⟩
  refine wpL_value rfl (x_not rfl) ?_
  refine wpL_nil (thenE_norm ?_)
  refine wpE_cond_f (rfl) ?_
  refine wpE_skip (thenE_norm ?_)
  refine wpE_seq ?_
  refine wpE_seq ?_
  refine wpE_region ?_
  refine wpL_value rfl x_move (wpL_value rfl (x_len_slice rfl Try.underlying22) ?_)
  by_cases h0 : (l.length : Int) = 0
  · skip
    refine wpL_value rfl (x_to (x_eql rfl rfl) (congrArg Value.bool (decide_eq_true (h0)))) ?_
    refine wpL_value rfl x_move (wpL_no rfl rfl (wpL_no rfl rfl (wpL_no rfl rfl (wpL_value rfl (x_pick_t rfl) (wpL_value rfl x_move (wpL_no rfl rfl (wpL_no rfl rfl (wpL_no rfl rfl (wpL_value rfl (x_pick_t rfl) ?_)))))))))
    refine wpL_nil (thenE_norm ?_)
    refine wpE_cond_t (rfl) ?_
    refine wpE_seq ?_
    refine wpE_region ?_
    refine wpL_value rfl x_assign ?_
    refine wpL_nil (thenE_norm ?_)
    refine wpE_ret (thenE_ret (fin_ret ?_))
    exact ⟨rfl, hc1⟩
  · skip
    refine wpL_value rfl (x_to (x_eql rfl rfl) (congrArg Value.bool (decide_eq_false (h0)))) ?_
    refine wpL_value rfl x_move (wpL_yes rfl (wpL_value rfl x_move (wpL_yes rfl (wpL_value rfl (x_len_slice rfl Try.underlying22) (wpL_yes rfl ?_)))))
    by_cases h20 : (20 : Int) < l.length
    · skip
      refine wpL_value rfl (x_to (x_gtr rfl rfl) (congrArg Value.bool (decide_eq_true (h20)))) ?_
      refine wpL_value rfl (x_pick_f rfl) (wpL_value rfl x_move (wpL_no rfl rfl (wpL_no rfl rfl (wpL_no rfl rfl (wpL_value rfl (x_pick_t rfl) ?_)))))
      refine wpL_nil (thenE_norm ?_)
      refine wpE_cond_t (rfl) ?_
      refine wpE_seq ?_
      refine wpE_region ?_
      refine wpL_value rfl x_assign ?_
      refine wpL_nil (thenE_norm ?_)
      refine wpE_ret (thenE_ret (fin_ret ?_))
      exact ⟨rfl, hc1⟩
    · skip
      refine wpL_value rfl (x_to (x_gtr rfl rfl) (congrArg Value.bool (decide_eq_false (h20)))) ?_
      refine wpL_value rfl (x_pick_f rfl) (wpL_value rfl x_move (wpL_yes rfl (wpL_value rfl x_move (wpL_yes rfl (wpL_value rfl (x_len_slice rfl Try.underlying22) (wpL_yes rfl (wpL_value rfl (x_gtr rfl rfl) (wpL_value rfl (x_pick_f rfl) ?_))))))))
      refine wpL_nil (thenE_norm ?_)
      refine wpE_cond_d rfl (fun hch20 => ?_) (fun hch20 => ?_)
      · skip
        refine wpE_seq ?_
        refine wpE_region ?_
        refine wpL_value rfl x_assign ?_
        refine wpL_nil (thenE_norm ?_)
        refine wpE_ret (thenE_ret (fin_ret ?_))
        exact ⟨rfl, hc1⟩
      · skip
        refine wpE_skip (thenE_norm ?_)
        refine wpE_seq ?_
        refine wpE_region ?_
        refine wpL_call rfl C9 (new_run w w1 64 (by decide) hc1) ?_
        rintro _ w2 ⟨b, kv, r, rfl, hd2, hc2, hF2⟩
        refine wpL_value rfl x_assign ?_
        refine wpL_nil (thenE_norm ?_)
        refine wpE_seq ?_
        refine wpE_region ?_
        refine wpL_value rfl x_move ?_
        refine wpL_call rfl C10 (make_run hd2 (by decide) (by decide)) ?_
        rintro _ w3 ⟨sb, fr, rfl, hS3, hc3, hsb, hfr⟩
        refine wpL_value rfl x_move (wpL_value rfl (x_extract rfl rfl) (wpL_value rfl (x_extract rfl rfl) (wpL_value rfl x_assign (wpL_value rfl x_assign ?_))))
        refine wpL_nil (thenE_norm ?_)
        refine wpE_seq ?_
        refine wpE_seq ?_
        refine wpE_region ?_
        refine wpL_value rfl x_move (wpL_value rfl (x_neq rfl rfl) ?_)
        refine wpL_nil (thenE_norm ?_)
        have hk24 : (a % 24).toNat < 24 := by rw [UInt8.toNat_mod]; exact Nat.mod_lt _ (by decide)
        refine wpE_cond_df rfl (fun h => h rfl) ?_
        refine wpE_skip (thenE_norm ?_)
        refine wpE_seq ?_
        refine wpE_region ?_
        refine wpL_value rfl x_move (wpL_value rfl (x_rem8u (b := 24) rfl rfl (by decide)) (wpL_value rfl (x_convI rfl Try.underlying5 Try.underlying3 (by omega)) (wpL_value rfl x_assign ?_)))
        refine wpL_nil (thenE_norm ?_)
        refine wpE_seq ?_
        refine wpE_seq ?_
        refine wpE_region ?_
        refine wpL_value rfl x_assign ?_
        refine wpL_nil (thenE_norm ?_)
        refine wpE_block ?_
        refine wpE_loop [8, 11] [6, 8, 9, 11, 12, 13, 40, 41, 42, 43, 44, 45, 46, 47, 48, 49, 50, 51, 52, 53, 54, 55, 56, 57, 58, 59, 60, 61, 62, 63, 64, 65, 66, 67, 68, 69, 70, 71, 72, 73, 74, 75, 76, 77, 78, 79, 80, 81, 82, 83, 84, 85, 86, 87, 88, 89, 90, 91, 92, 93, 94, 95, 96, 97, 98, 99, 100, 101, 102, 103, 104, 105] (fun n vs w' => ∃ (i k sb fr : Nat) (C : Cont) (ds : DSt) (s : SSt), vs = [.pointer (some ⟨sb, 0, none⟩), .int .i64 i] ∧ i + n = l.length ∧ Sess w w' b kv r sb fr 64 k C ds s ∧ k ≤ i + 1 ∧ (∀ j : Nat, j < 24 → j ≠ (a % 24).toNat → C j = none)) (l.length) (by kernel_rfl) ?_ ?_
        · exact ⟨0, _, _, _, _, _, _, rfl, by omega, hS3, by omega, fun _ _ _ => rfl⟩
        · rintro n vs J w4 ⟨i, k, sb, fr, C, ds, s, rfl, hi, hS4, hk, hC⟩
          refine wpE_seq ?_
          refine wpE_seq ?_
          refine wpE_region ?_
          refine wpL_value rfl x_move (wpL_value rfl x_move (wpL_value rfl (x_len_slice rfl Try.underlying22) (wpL_value rfl (x_lss rfl rfl) ?_)))
          refine wpL_nil (thenE_norm ?_)
          refine wpE_cond_d rfl (fun hil => ?_) (fun hil => ?_)
          · skip
            refine wpE_skip (thenE_norm ?_)
            refine wpE_seq ?_
            refine wpE_block ?_
            refine wpE_seq ?_
            refine wpE_seq ?_
            have hob1 : ∃ q, n = q + 1 := ⟨n - 1, by omega⟩
            obtain ⟨n, rfl⟩ := hob1
            have hli : l[i]? = some (l.getD i 0) := getD_some (by omega)
            generalize l.getD i 0 = x at *
            have hl4 := hl.mod0 hS4.now
            refine wpE_draw mixed (.pure 0 (.pure 1 (.pure 2 (.pure 3 (.pure 4 (.read 5 (.pure 7 (.pure 8 (.pure 9 (.read 10 (.pure 11 (.eff 6 [10] (.eff 12 [] (.eff 13 [] (.pure 14 .nil))))))))))))))) (by kernel_rfl) ?_
            refine wpP_pure rfl rfl rfl (fun _ => x_move) ?_
            refine wpP_pure rfl rfl rfl (fun _ => x_move) ?_
            refine wpP_pure rfl rfl rfl (fun _ => x_move) ?_
            refine wpP_pure rfl rfl rfl (fun _ => x_move) ?_
            refine wpP_ex rfl rfl rfl (x_idx (i) Try.underlying22 I5 rfl (hl4) rfl rfl (by first | rfl | omega) (by omega)) ?_
            rintro _ ⟨b1, o1, rfl, he1, hb1⟩
            refine wpP_rd rfl rfl rfl Try.underlying5 rfl rfl ((hl4.at he1 hli).c0 rfl) ?_
            refine wpP_pure rfl rfl rfl (fun _ => x_move) ?_
            refine wpP_pure rfl rfl rfl (fun _ => x_move) ?_
            refine wpP_ex rfl rfl rfl (x_idx (i) Try.underlying22 I5 rfl (hl4) rfl rfl (by first | rfl | omega) (by omega)) ?_
            rintro _ ⟨b2, o2, rfl, he2, hb2⟩
            refine wpP_rd rfl rfl rfl Try.underlying5 rfl rfl ((hl4.at he2 hli).c0 rfl) ?_
            refine wpP_pure rfl rfl rfl (fun _ => (x_add8u (b := 1) rfl rfl)) ?_
            refine wpP_call rfl rfl rfl C13 (key_ok x _) ?_
            rintro _ w5 ⟨rfl, hc5⟩
            have hc5 : Chg [] w4 w5 := hc5
            refine ⟨⟨((hl4.mod0 hc5).at he2 hli).c0 rfl, trivial⟩, ?_⟩
            refine wpP_call rfl rfl rfl C13 (key_ok (x + 1) _) ?_
            rintro _ w6 ⟨rfl, hc6⟩
            refine ⟨trivial, ?_⟩
            refine wpP_call rfl rfl rfl C12 (put_run ((hS4.chg0 hc5).chg0 hc6) (by omega) _ hk24 (keyN x) (keyN (x + 1)) rfl rfl) ?_
            rintro _ w7 ⟨rfl, hS7, hc7⟩
            refine ⟨trivial, ?_⟩
            refine wpP_pure rfl rfl rfl (fun _ => (x_neq rfl rfl)) ?_
            refine wpP_nil (thenE_norm ?_)
            have hC7 : ∀ j : Nat, j < 24 → j ≠ (a % 24).toNat → setC C (a % 24).toNat (some (keyN x, keyN (x + 1))) j = none := fun j h1 h2 => by
              unfold setC; rw [if_neg h2]; exact hC j h1 h2
            have hCk : setC C (a % 24).toNat (some (keyN x, keyN (x + 1))) (a % 24).toNat = some (keyN x, keyN (x + 1)) := by unfold setC; rw [if_pos rfl]
            have hob2 : ∃ C7, C7 = setC C (a % 24).toNat (some (keyN x, keyN (x + 1))) := ⟨_, rfl⟩
            obtain ⟨C7, hCe⟩ := hob2
            rw [← hCe] at hS7 hC7 hCk
            refine wpE_cond_df rfl (fun h => h rfl) ?_
            refine wpE_skip (thenE_norm ?_)
            refine wpE_cut [8] [6, 8, 9, 61, 62, 63, 64, 65, 66, 67, 68, 69, 70, 71, 72, 73, 74, 75, 76] (fun vs w' => ∃ (sb fr : Nat) (ds : DSt) (s : SSt), vs = [.pointer (some ⟨sb, 0, none⟩)] ∧ Sess w w' b kv r sb fr 64 (k + 1) C7 ds s) (by kernel_rfl) ?_ ?_
            · skip
              refine wpE_seq ?_
              refine wpE_region ?_
              refine wpL_value rfl x_move (wpL_value rfl x_move ?_)
              have hl7 := hl.mod0 hS7.now
              refine wpL_ex rfl (x_idx (i) Try.underlying22 I5 rfl (hl7) rfl rfl (by first | rfl | omega) (by omega)) ?_
              rintro _ ⟨b3, o3, rfl, he3, hb3⟩
              refine wpL_value rfl (x_load Try.underlying5 rfl rfl ((hl7.at he3 hli).c0 rfl)) ?_
              refine wpL_value rfl (x_rem8u (b := 3) rfl rfl (by decide)) (wpL_value rfl (x_eql8u (b := 0) rfl rfl) ?_)
              refine wpL_nil (thenE_norm ?_)
              refine wpE_cond_d rfl (fun h3 => ?_) (fun h3 => ?_)
              · skip
                refine wpE_seq ?_
                refine wpE_region ?_
                refine wpL_value rfl x_move (wpL_value rfl x_move ?_)
                refine wpL_call rfl C17 (crash_run hS7 _ ch (hch.mod0 hS7.now) (by omega) (fun x hx h => by have := hch.lt x hx; have := hS7.ge x (by simp [SF, h]); omega)) ?_
                rintro _ w8 ⟨hD8, hc8⟩
                refine wpL_nil (thenE_norm ?_)
                refine wpE_seq ?_
                refine wpE_region ?_
                refine wpL_value rfl x_move ?_
                refine wpL_call rfl C18 (open_run hD8) ?_
                rintro _ w9 ⟨sb3, fr3, rfl, hS9, hc9, hsb3, hfr3⟩
                refine wpL_value rfl x_move (wpL_value rfl (x_extract rfl rfl) (wpL_value rfl (x_extract rfl rfl) (wpL_value rfl x_assign (wpL_value rfl x_assign ?_))))
                refine wpL_nil (thenE_norm ?_)
                refine wpE_seq ?_
                refine wpE_region ?_
                refine wpL_value rfl x_move (wpL_value rfl (x_neq rfl rfl) ?_)
                refine wpL_nil (thenE_norm ?_)
                refine wpE_cond_df rfl (fun h => h rfl) ?_
                refine wpE_skip (thenE_norm ?_)
                exact ⟨sb3, fr3, _, _, rfl, hS9⟩
              · skip
                refine wpE_skip (thenE_norm ?_)
                exact ⟨sb, fr, _, _, rfl, hS7⟩
            · rintro vs J w8 ⟨sb8, fr8, ds8, s8, rfl, hS8⟩
              refine wpE_seq ?_
              refine wpE_region ?_
              refine wpL_value rfl x_move (wpL_value rfl x_move (wpL_value rfl x_move (wpL_value rfl x_move ?_)))
              have hl8 := hl.mod0 hS8.now
              refine wpL_ex rfl (x_idx (i) Try.underlying22 I5 rfl (hl8) rfl rfl (by first | rfl | omega) (by omega)) ?_
              rintro _ ⟨b3, o3, rfl, he3, hb3⟩
              refine wpL_value rfl (x_load Try.underlying5 rfl rfl ((hl8.at he3 hli).c0 rfl)) ?_
              refine wpL_call rfl C13 (key_ok x _) ?_
              rintro _ w9 ⟨rfl, hc9⟩
              refine wpL_call rfl C15 (get_some (hS8.chg0 hc9) _ hk24 (keyN x) (keyN (x + 1)) hCk rfl) ?_
              rintro _ w10 ⟨rfl, hS10, hc10⟩
              refine wpL_value rfl x_move (wpL_value rfl (x_extract rfl rfl) (wpL_value rfl (x_extract rfl rfl) ?_))
              refine wpL_allocA (List.replicate 32 (0 : UInt8)) I33 rfl rfl rfl ?_
              rintro w11 b11 hn11 ha11 hc11 hl11
              refine wpL_exs rfl (x_storeN 32 I33 rfl (ha11) rfl rfl (rfl) (rfl)) ?_
              rintro w12 ⟨ha12, hc12, hs12⟩
              refine wpL_value rfl x_assign ?_
              refine wpL_nil (thenE_norm ?_)
              refine wpE_seq ?_
              have hS12 := hS10.chg0 (hc11.t1 hc12 hn11)
              have hl12 := hl.mod0 hS12.now
              refine wpE_draw mixed (.pure 0 (.pure 1 (.pure 2 (.read 3 (.pure 4 (.pure 5 (.pure 6 (.read 7 (.pure 8 (.eff 9 [3] (.pure 10 (.pure 11 (.pure 12 (.pure 13 (.eff 14 [] (.pure 15 (.pure 16 (.pure 17 .nil)))))))))))))))))) (by kernel_rfl) ?_
              refine wpP_pure rfl rfl rfl (fun _ => x_move) ?_
              refine wpP_pure rfl rfl rfl (fun _ => x_to (x_neq rfl rfl) (congrArg Value.bool (decide_eq_false (fun h => h rfl)))) ?_
              refine wpP_pure rfl rfl rfl (fun _ => x_move) ?_
              refine wpP_rdA 32 rfl rfl rfl Try.underlying33 rfl I33 rfl rfl (ha12) (rfl) ?_
              refine wpP_pure rfl rfl rfl (fun _ => x_move) ?_
              refine wpP_pure rfl rfl rfl (fun _ => x_move) ?_
              refine wpP_ex rfl rfl rfl (x_idx (i) Try.underlying22 I5 rfl (hl12) rfl rfl (by first | rfl | omega) (by omega)) ?_
              rintro _ ⟨b4, o4, rfl, he4, hb4⟩
              refine wpP_rd rfl rfl rfl Try.underlying5 rfl rfl ((hl12.at he4 hli).c0 rfl) ?_
              refine wpP_pure rfl rfl rfl (fun _ => (x_add8u (b := 1) rfl rfl)) ?_
              refine wpP_call rfl rfl rfl C13 (key_ok (x + 1) _) ?_
              rintro _ w13 ⟨rfl, hc13⟩
              have hc13 : Chg [] w12 w13 := hc13
              refine ⟨⟨ha12.chg0 hc13, trivial⟩, ?_⟩
              refine wpP_pure rfl rfl rfl (fun _ => x_to (x_neArr Try.underlying33 I5 rfl Try.underlying5 (by kernel_rfl) rfl rfl (rfl) (rfl)) (congrArg Value.bool (decide_eq_false (fun h => h rfl)))) ?_
              refine wpP_pure rfl rfl rfl (fun _ => (x_pick_f rfl)) ?_
              refine wpP_pure rfl rfl rfl (fun _ => x_move) ?_
              refine wpP_pure rfl rfl rfl (fun _ => x_move) ?_
              refine wpP_call rfl rfl rfl C16 (used_run (hS12.chg0 hc13)) ?_
              rintro v14 w14 ⟨ho14, hS14, hc14⟩
              refine ⟨trivial, ?_⟩
              have hf14 := ho14.form (usedC_one hk24 (by rw [hCk]; rfl) hC7)
              obtain ⟨p14, c14, hv14⟩ := hf14
              subst hv14
              refine wpP_pure rfl rfl rfl (fun _ => (x_len_slice rfl Try.underlying43)) ?_
              refine wpP_pure rfl rfl rfl (fun _ => (x_neq rfl rfl)) ?_
              refine wpP_pure rfl rfl rfl (fun _ => (x_pick_f rfl)) ?_
              refine wpP_nil (thenE_norm ?_)
              refine wpE_cond_df rfl (fun h => h rfl) ?_
              refine wpE_skip (blockE_norm (thenE_norm ?_))
              refine wpE_region ?_
              refine wpL_value rfl x_move (wpL_value rfl (x_add64 rfl rfl (by omega)) (wpL_value rfl x_assign ?_))
              refine wpL_nil (thenE_norm ?_)
              refine Exists.intro (n) (And.intro (by omega) ?_)
              exact ⟨i + 1, _, _, _, _, _, _, vs_cons rfl (vs_cons (int_eq rfl) vs_nil), by omega, hS14, by omega, hC7⟩
          · skip
            refine wpE_exit (thenE_exit (thenE_exit (blockE_exit (thenE_norm ?_))))
            refine wpE_seq ?_
            refine wpE_region ?_
            refine wpL_value rfl x_assign ?_
            refine wpL_nil (thenE_norm ?_)
            refine wpE_ret (fin_ret ?_)
            exact ⟨rfl, hS4.now⟩
end Go.Proofs.Ytenhmbhflgnhlaa
