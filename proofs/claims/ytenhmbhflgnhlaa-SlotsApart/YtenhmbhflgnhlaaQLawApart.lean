/- The law SlotsApart of the slots returns true for every input, and leaves its input as it was; no condition. -/
import Derived.Test.YtenhmbhflgnhlaaQLaw12
namespace Go.Proofs.Ytenhmbhflgnhlaa
open Go Go.Sac
set_option maxRecDepth 100000
set_option maxHeartbeats 4000000
def upC (i : Nat) : Cont := fun j => if j < i then some (keyN 1, keyN (toU8 (j : Int))) else none
theorem upC_succ (i : Nat) : setC (upC i) i (some (keyN 1, keyN (toU8 (i : Int)))) = upC (i + 1) := by
  funext j
  unfold setC upC
  by_cases h : j = i
  · subst h; rw [if_pos rfl, if_pos (by omega)]
  · rw [if_neg h]
    by_cases h2 : j < i
    · rw [if_pos h2, if_pos (by omega)]
    · rw [if_neg h2, if_neg (by omega)]
def goneC (g : List Bool) : Cont := fun j => if j < 24 ∧ g.getD j false = false then some (keyN 1, keyN (toU8 (j : Int))) else none
theorem goneC_none : goneC (List.replicate 24 false) = upC 24 := by
  funext j
  unfold goneC upC
  by_cases h : j < 24
  · rw [if_pos h, if_pos ⟨h, by rw [List.getD_eq_getElem?_getD, List.getElem?_replicate, if_pos h]; rfl⟩]
  · rw [if_neg h, if_neg (fun hh => h hh.1)]
theorem goneC_set (g : List Bool) (k : Nat) (hk : k < 24) (hg : g.length = 24) : setC (goneC g) k none = goneC (g.set k true) := by
  funext j
  unfold setC goneC
  by_cases h : j = k
  · subst h
    rw [if_pos rfl, if_neg (fun hh => by have := hh.2; rw [getDset _ _ _ _ _ (by omega), if_pos rfl] at this; cases this)]
  · rw [if_neg h, getDset _ _ _ _ _ (by omega), if_neg (show ¬ k = j from fun hh => h hh.symm)]
theorem SlotsApart_ok (w : World) (lv : Value) (l : List UInt8) (hl : Sl w lv l) :
    Ret Try.prog 3 #[lv] w fun v w' => v = .bool true ∧ Chg [] w w' := by
  obtain ⟨pl, cl, rfl⟩ := hl.form rfl
  refine enter [2] Try.func3 rfl rfl (Nat.le_of_ble_eq_true rfl) ?_
  refine wpE_seq ?_
  refine wpE_region ?_
  refine wpL_value rfl x_assign ?_
  refine wpL_nil (thenE_norm ?_)
  refine wpE_seq ?_
  refine wpE_seq ?_
  refine wpE_region ?_
  refine wpL_call rfl C8 (known_ok w) ?_
  rintro _ w1 ⟨rfl, hc1⟩
  refine wpL_value rfl (x_not rfl) ?_
  refine wpL_nil (thenE_norm ?_)
  refine wpE_cond_f (rfl) ?_
  refine wpE_skip (thenE_norm ?_)
  refine wpE_seq ?_
  refine wpE_seq ?_
  refine wpE_region ?_
  refine wpL_value rfl x_move (wpL_value rfl (x_len_slice rfl Try.underlying22) (wpL_value rfl (x_gtr rfl rfl) ?_))
  refine wpL_nil (thenE_norm ?_)
  refine wpE_cond_d rfl (fun h30 => ?_) (fun h30 => ?_)
  · skip
    refine wpE_seq ?_
    refine wpE_region ?_
    refine wpL_value rfl x_assign ?_
    refine wpL_nil (thenE_norm ?_)
    refine wpE_ret (thenE_ret (fin_ret ?_))
    exact ⟨rfl, hc1⟩
  · skip
    refine wpE_skip (thenE_norm ?_)
    refine wpE_seq ?_
    refine wpE_region ?_
    refine wpL_call rfl C9 (new_run w w1 64 (by decide) hc1) ?_
    rintro _ w2 ⟨b, kv, r, rfl, hd2, hc2, hF2⟩
    refine wpL_value rfl x_assign ?_
    refine wpL_nil (thenE_norm ?_)
    refine wpE_seq ?_
    refine wpE_region ?_
    refine wpL_value rfl x_move ?_
    refine wpL_call rfl C10 (make_run hd2 (by decide) (by decide)) ?_
    rintro _ w3 ⟨sb, fr, rfl, hS3, hc3, hsb, hfr⟩
    refine wpL_value rfl x_move (wpL_value rfl (x_extract rfl rfl) (wpL_value rfl (x_extract rfl rfl) (wpL_value rfl x_assign (wpL_value rfl x_assign ?_))))
    refine wpL_nil (thenE_norm ?_)
    refine wpE_seq ?_
    refine wpE_seq ?_
    refine wpE_region ?_
    refine wpL_value rfl x_move (wpL_value rfl (x_neq rfl rfl) ?_)
    refine wpL_nil (thenE_norm ?_)
    refine wpE_cond_df rfl (fun h => h rfl) ?_
    refine wpE_skip (thenE_norm ?_)
    refine wpE_seq ?_
    refine wpE_seq ?_
    refine wpE_region ?_
    refine wpL_value rfl x_assign ?_
    refine wpL_nil (thenE_norm ?_)
    refine wpE_block ?_
    refine wpE_loop [6] [2, 6, 26, 27, 28, 29, 30, 31, 32, 33, 34, 35, 36, 37, 38, 39, 40, 41, 42, 43] (fun n vs w' => ∃ (i : Nat) (ds : DSt) (s : SSt), vs = [.int .i64 i] ∧ i + n = 24 ∧ Sess w w' b kv r sb fr 64 (i + 1) (upC i) ds s) (24) (by kernel_rfl) ?_ ?_
    · exact ⟨0, _, _, rfl, rfl, hS3⟩
    · rintro n vs J w4 ⟨i, ds, s, rfl, hi, hS4⟩
      refine wpE_seq ?_
      refine wpE_seq ?_
      refine wpE_region ?_
      refine wpL_value rfl x_move (wpL_value rfl (x_lss rfl rfl) ?_)
      refine wpL_nil (thenE_norm ?_)
      refine wpE_cond_d rfl (fun h24 => ?_) (fun h24 => ?_)
      · skip
        refine wpE_skip (thenE_norm ?_)
        refine wpE_seq ?_
        refine wpE_block ?_
        refine wpE_seq ?_
        refine wpE_region ?_
        refine wpL_value rfl x_move ?_
        obtain ⟨n, rfl⟩ : ∃ q, n = q + 1 := ⟨n - 1, by omega⟩
        refine wpL_call rfl C11 (free_run hS4) ?_
        rintro v5 w5 ⟨hv5, hS5, hc5⟩
        rw [freeC_eq 24 0 i (by omega) (by omega) (fun j _ hj => by unfold upC; rw [if_pos hj]; rfl) (by unfold upC; rw [if_neg (by omega)])] at hv5
        subst hv5
        refine wpL_value rfl x_move ?_
        refine wpL_value rfl (x_to (x_neq rfl rfl) (congrArg Value.bool (decide_eq_false (fun h => h rfl)))) ?_
        refine wpL_value rfl x_move (wpL_yes rfl (wpL_value rfl x_move (wpL_yes rfl (wpL_value rfl x_move (wpL_yes rfl ?_)))))
        refine wpL_call rfl C13 (key_ok 1 w5) ?_
        rintro _ w6 ⟨rfl, hc6⟩
        refine wpL_yes rfl (wpL_value rfl x_move (wpL_yes rfl (wpL_value rfl (x_conv8u rfl Try.underlying3 Try.underlying5) (wpL_yes rfl ?_))))
        refine wpL_call rfl C13 (key_ok (toU8 (i : Int)) w6) ?_
        rintro _ w7 ⟨rfl, hc7⟩
        refine wpL_yes rfl ?_
        refine wpL_call rfl C12 (put_run ((hS5.chg0 hc6).chg0 hc7) (by omega) i (by omega) (keyN 1) (keyN (toU8 (i : Int))) rfl rfl) ?_
        rintro _ w8 ⟨rfl, hS8, hc8⟩
        refine wpL_yes rfl (wpL_value rfl (x_neq rfl rfl) (wpL_value rfl (x_pick_f rfl) ?_))
        refine wpL_nil (thenE_norm ?_)
        refine wpE_cond_df rfl (fun h => h rfl) ?_
        refine wpE_skip (blockE_norm (thenE_norm ?_))
        refine wpE_region ?_
        refine wpL_value rfl x_move (wpL_value rfl (x_add64 rfl rfl (by omega)) (wpL_value rfl x_assign ?_))
        refine wpL_nil (thenE_norm ?_)
        refine Exists.intro (n) (And.intro (by omega) ?_)
        exact ⟨i + 1, _, _, vs_cons (int_eq rfl) vs_nil, by omega, by rw [← upC_succ]; exact hS8⟩
      · skip
        refine wpE_exit (thenE_exit (thenE_exit (blockE_exit (thenE_norm ?_))))
        refine wpE_seq ?_
        refine wpE_seq ?_
        refine wpE_region ?_
        refine wpL_value rfl x_move ?_
        obtain rfl : i = 24 := by omega
        refine wpL_call rfl C11 (free_run hS4) ?_
        rintro v5 w5 ⟨hv5, hS5, hc5⟩
        rw [freeC_full 24 0 (fun j _ hj => by unfold upC; rw [if_pos (by omega)]; rfl)] at hv5
        subst hv5
        refine wpL_value rfl (x_neq rfl rfl) ?_
        refine wpL_nil (thenE_norm ?_)
        refine wpE_cond_df rfl (fun h => h rfl) ?_
        refine wpE_skip (thenE_norm ?_)
        refine wpE_seq ?_
        refine wpE_region ?_
        refine wpL_allocA (List.replicate 24 false) I35 rfl rfl rfl ?_
        rintro w6 b6 hn6 ha6 hc6 hl6
        refine wpL_nil (thenE_norm ?_)
        refine wpE_seq ?_
        refine wpE_seq ?_
        refine wpE_region ?_
        refine wpL_value rfl x_assign ?_
        refine wpL_nil (thenE_norm ?_)
        refine wpE_block ?_
        have hS6 := hS5.chg0 hc6
        have hb6 : b6 ∉ SF sb fr b kv r := fun hx => by have := hS5.lt _ hx; omega
        have hw6 : w.heap.size ≤ b6 := by have := hS5.now.1; omega
        refine wpE_loop [8] [2, 8, 9, 47, 48, 49, 50, 51, 52, 53, 54, 55, 56, 57, 58, 59, 60, 61, 62, 63, 64] (fun n vs w' => ∃ (i : Nat) (g : List Bool) (ds : DSt) (s : SSt), vs = [.int .i64 i] ∧ i + n = l.length ∧ g.length = 24 ∧ Arr w' b6 g ∧ Sess w w' b kv r sb fr 64 (i + 25) (goneC g) ds s) (l.length) (by kernel_rfl) ?_ ?_
        · exact ⟨0, _, _, _, rfl, by omega, rfl, ha6, by rw [goneC_none]; exact hS6⟩
        · rintro n vs J w7 ⟨i, g, ds, s, rfl, hi, hg, ha7, hS7⟩
          refine wpE_seq ?_
          refine wpE_seq ?_
          refine wpE_region ?_
          refine wpL_value rfl x_move (wpL_value rfl x_move (wpL_value rfl (x_len_slice rfl Try.underlying22) (wpL_value rfl (x_lss rfl rfl) ?_)))
          refine wpL_nil (thenE_norm ?_)
          refine wpE_cond_d rfl (fun hil => ?_) (fun hil => ?_)
          · skip
            refine wpE_skip (thenE_norm ?_)
            refine wpE_seq ?_
            refine wpE_block ?_
            refine wpE_seq ?_
            refine wpE_region ?_
            refine wpL_value rfl x_move (wpL_value rfl x_move ?_)
            obtain ⟨n, rfl⟩ : ∃ q, n = q + 1 := ⟨n - 1, by omega⟩
            have hk24 : (l.getD i 0 % 24).toNat < 24 := by rw [UInt8.toNat_mod]; exact Nat.mod_lt _ (by decide)
            refine wpL_ex rfl (x_idx (i) Try.underlying22 I5 rfl (hl.mod0 hS7.now) rfl rfl (by first | rfl | omega) (by omega)) ?_
            rintro _ ⟨bi, oi, rfl, hei, hbi⟩
            refine wpL_value rfl (x_load Try.underlying5 rfl rfl (((hl.mod0 hS7.now).at hei (getD_some (d := 0) (by omega))).c0 rfl)) ?_
            refine wpL_value rfl (x_rem8u (b := 24) rfl rfl (by decide)) (wpL_value rfl (x_convI rfl Try.underlying5 Try.underlying3 (by omega)) (wpL_value rfl x_assign ?_))
            refine wpL_nil (thenE_norm ?_)
            refine wpE_seq ?_
            refine wpE_region ?_
            refine wpL_value rfl x_move ?_
            generalize (l.getD i 0 % 24).toNat = k at *
            refine wpL_value rfl (x_idxA (k) Try.underlying35 I4 rfl rfl (by first | rfl | omega) (by first | assumption | omega)) ?_
            refine wpL_exs rfl (x_store1 (a := true) (k := k) I4 rfl rfl rfl rfl (ha7) rfl (by first | assumption | omega)) ?_
            rintro w8 ⟨ha8, hc8, hs8⟩
            refine wpL_nil (thenE_norm ?_)
            refine wpE_seq ?_
            refine wpE_region ?_
            refine wpL_value rfl x_move (wpL_value rfl x_move ?_)
            have hS8 := hS7.chg hc8 (fun x hx h => hb6 (by simp at h; subst h; exact hx)) (fun x hx => by simp at hx; subst hx; exact hw6)
            refine wpL_call rfl C14 (erase_run hS8 (by omega) k (by omega)) ?_
            rintro _ w9 ⟨rfl, hS9, hc9⟩
            refine wpL_value rfl (x_neq rfl rfl) ?_
            refine wpL_nil (thenE_norm ?_)
            refine wpE_cond_df rfl (fun h => h rfl) ?_
            refine wpE_skip (blockE_norm (thenE_norm ?_))
            refine wpE_region ?_
            refine wpL_value rfl x_move (wpL_value rfl (x_add64 rfl rfl (by omega)) (wpL_value rfl x_assign ?_))
            refine wpL_nil (thenE_norm ?_)
            refine Exists.intro (n) (And.intro (by omega) ?_)
            exact ⟨i + 1, _, _, _, vs_cons (int_eq rfl) vs_nil, by omega, (by simpa [spl] using hg), ha8.chg hc9 hb6, by rw [goneC_set g k hk24 hg] at hS9; exact hS9⟩
          · skip
            refine wpE_exit (thenE_exit (thenE_exit (blockE_exit (thenE_norm ?_))))
            refine wpE_seq ?_
            refine wpE_seq ?_
            refine wpE_region ?_
            refine wpL_value rfl x_assign ?_
            refine wpL_nil (thenE_norm ?_)
            refine wpE_block ?_
            obtain rfl : n = 0 := by omega
            refine wpE_loop [10] [2, 10, 11, 12, 65, 66, 67, 68, 69, 70, 71, 72, 73, 74, 75, 76, 77, 78, 79, 80, 81, 82, 83, 84, 85, 86, 87, 88, 89, 90, 91, 92, 93, 94, 95, 96, 97, 98] (fun n vs w' => ∃ (i : Nat), vs = [.int .i64 i] ∧ i + n = 24 ∧ Chg [] w7 w') (24) (by kernel_rfl) ?_ ?_
            · exact ⟨0, rfl, rfl, Chg.refl _⟩
            · rintro n vs J w8 ⟨j, rfl, hj, hc8⟩
              refine wpE_seq ?_
              refine wpE_seq ?_
              refine wpE_region ?_
              refine wpL_value rfl x_move (wpL_value rfl (x_lss rfl rfl) ?_)
              refine wpL_nil (thenE_norm ?_)
              have hS8 := hS7.chg0 hc8
              have ha8 := ha7.chg0 hc8
              refine wpE_cond_d rfl (fun hj24 => ?_) (fun hj24 => ?_)
              · skip
                refine wpE_skip (thenE_norm ?_)
                refine wpE_seq ?_
                refine wpE_block ?_
                refine wpE_seq ?_
                refine wpE_region ?_
                refine wpL_value rfl x_move (wpL_value rfl x_move ?_)
                obtain ⟨n, rfl⟩ : ∃ q, n = q + 1 := ⟨n - 1, by omega⟩
                refine wpL_call rfl C13 (key_ok 1 w8) ?_
                rintro _ w9 ⟨rfl, hc9⟩
                have hgj : g[j]? = some (g.getD j false) := getD_some (by omega)
                by_cases hgo : g.getD j false = true
                · skip
                  rw [hgo] at hgj
                  refine wpL_call rfl C15 (get_none (hS8.chg0 hc9) j (by omega) (keyN 1) (by unfold goneC; rw [hgo]; simp) rfl) ?_
                  rintro _ w10 ⟨rfl, hS10, hc10⟩
                  refine wpL_value rfl x_move (wpL_value rfl (x_extract rfl rfl) (wpL_value rfl (x_extract rfl rfl) ?_))
                  refine wpL_allocA (List.replicate 32 (0 : UInt8)) I33 rfl rfl rfl ?_
                  rintro w11 b11 hn11 ha11 hc11 hl11
                  refine wpL_exs rfl (x_storeN 32 I33 rfl (ha11) rfl rfl (rfl) (rfl)) ?_
                  rintro w12 ⟨ha12, hc12, hs12⟩
                  refine wpL_value rfl x_assign ?_
                  refine wpL_nil (thenE_norm ?_)
                  refine wpE_seq ?_
                  have hc812 : Chg [] w8 w12 := (hc9.tr hc10).tr (hc11.t1 hc12 hn11)
                  have ha12' := ha8.chg0 hc812
                  refine wpE_draw mixed (.pure 0 (.pure 1 (.read 2 (.pure 3 (.pure 4 (.pure 5 (.pure 6 (.pure 7 (.pure 8 (.read 9 (.pure 10 (.pure 11 (.pure 12 (.pure 13 (.pure 14 (.read 15 (.pure 16 (.pure 17 (.eff 18 [15] (.pure 19 (.pure 20 (.pure 21 (.pure 22 .nil))))))))))))))))))))))) (by kernel_rfl) ?_
                  refine wpP_pure rfl rfl rfl (fun _ => x_move) ?_
                  refine wpP_pure rfl rfl rfl (fun _ => x_idxA (j) Try.underlying35 I4 rfl rfl (by first | rfl | omega) (by first | assumption | omega)) ?_
                  refine wpP_rd rfl rfl rfl Try.underlying4 rfl rfl (ha12'.c hgj rfl rfl) ?_
                  refine wpP_pure rfl rfl rfl (fun _ => x_move) ?_
                  refine wpP_pure rfl rfl rfl (fun _ => (x_eql rfl rfl)) ?_
                  refine wpP_pure rfl rfl rfl (fun _ => x_to (x_neb rfl rfl Try.underlying4) (congrArg Value.bool (decide_eq_false (fun h => h rfl)))) ?_
                  refine wpP_pure rfl rfl rfl (fun _ => x_move) ?_
                  refine wpP_pure rfl rfl rfl (fun _ => x_move) ?_
                  refine wpP_pure rfl rfl rfl (fun _ => x_idxA (j) Try.underlying35 I4 rfl rfl (by first | rfl | omega) (by first | assumption | omega)) ?_
                  refine wpP_rd rfl rfl rfl Try.underlying4 rfl rfl (ha12'.c hgj rfl rfl) ?_
                  refine wpP_pure rfl rfl rfl (fun _ => (x_not rfl)) ?_
                  refine wpP_pure rfl rfl rfl (fun _ => x_move) ?_
                  refine wpP_no rfl rfl rfl ?_
                  refine wpP_no rfl rfl rfl ?_
                  refine wpP_no rfl rfl rfl ?_
                  refine wpP_nor rfl rfl rfl ?_
                  refine wpP_no rfl rfl rfl ?_
                  refine wpP_no rfl rfl rfl ?_
                  refine wpP_noe rfl rfl rfl ?_
                  refine wpP_no rfl rfl rfl ?_
                  refine wpP_no rfl rfl rfl ?_
                  refine wpP_pure rfl rfl rfl (fun _ => (x_pick_f rfl)) ?_
                  refine wpP_pure rfl rfl rfl (fun _ => (x_pick_f rfl)) ?_
                  refine wpP_nil (thenE_norm ?_)
                  refine wpE_cond_f (rfl) ?_
                  refine wpE_skip (blockE_norm (thenE_norm ?_))
                  refine wpE_region ?_
                  refine wpL_value rfl x_move (wpL_value rfl (x_add64 rfl rfl (by omega)) (wpL_value rfl x_assign ?_))
                  refine wpL_nil (thenE_norm ?_)
                  refine Exists.intro (n) (And.intro (by omega) ?_)
                  exact ⟨j + 1, vs_cons (int_eq rfl) vs_nil, by omega, hc8.tr hc812⟩
                · skip
                  have hgo : g.getD j false = false := by simpa using hgo
                  rw [hgo] at hgj
                  refine wpL_call rfl C15 (get_some (hS8.chg0 hc9) j (by omega) (keyN 1) (keyN (toU8 (j : Int))) (by unfold goneC; rw [hgo]; simp; omega) rfl) ?_
                  rintro _ w10 ⟨rfl, hS10, hc10⟩
                  refine wpL_value rfl x_move (wpL_value rfl (x_extract rfl rfl) (wpL_value rfl (x_extract rfl rfl) ?_))
                  refine wpL_allocA (List.replicate 32 (0 : UInt8)) I33 rfl rfl rfl ?_
                  rintro w11 b11 hn11 ha11 hc11 hl11
                  refine wpL_exs rfl (x_storeN 32 I33 rfl (ha11) rfl rfl (rfl) (rfl)) ?_
                  rintro w12 ⟨ha12, hc12, hs12⟩
                  refine wpL_value rfl x_assign ?_
                  refine wpL_nil (thenE_norm ?_)
                  refine wpE_seq ?_
                  have hc812 : Chg [] w8 w12 := (hc9.tr hc10).tr (hc11.t1 hc12 hn11)
                  have ha12' := ha8.chg0 hc812
                  refine wpE_draw mixed (.pure 0 (.pure 1 (.read 2 (.pure 3 (.pure 4 (.pure 5 (.pure 6 (.pure 7 (.pure 8 (.read 9 (.pure 10 (.pure 11 (.pure 12 (.pure 13 (.pure 14 (.read 15 (.pure 16 (.pure 17 (.eff 18 [15] (.pure 19 (.pure 20 (.pure 21 (.pure 22 .nil))))))))))))))))))))))) (by kernel_rfl) ?_
                  refine wpP_pure rfl rfl rfl (fun _ => x_move) ?_
                  refine wpP_pure rfl rfl rfl (fun _ => x_idxA (j) Try.underlying35 I4 rfl rfl (by first | rfl | omega) (by first | assumption | omega)) ?_
                  refine wpP_rd rfl rfl rfl Try.underlying4 rfl rfl (ha12'.c hgj rfl rfl) ?_
                  refine wpP_pure rfl rfl rfl (fun _ => x_move) ?_
                  refine wpP_pure rfl rfl rfl (fun _ => (x_eql rfl rfl)) ?_
                  refine wpP_pure rfl rfl rfl (fun _ => x_to (x_neb rfl rfl Try.underlying4) (congrArg Value.bool (decide_eq_false (fun h => h rfl)))) ?_
                  refine wpP_pure rfl rfl rfl (fun _ => x_move) ?_
                  refine wpP_pure rfl rfl rfl (fun _ => x_move) ?_
                  refine wpP_pure rfl rfl rfl (fun _ => x_idxA (j) Try.underlying35 I4 rfl rfl (by first | rfl | omega) (by first | assumption | omega)) ?_
                  refine wpP_rd rfl rfl rfl Try.underlying4 rfl rfl (ha12'.c hgj rfl rfl) ?_
                  refine wpP_pure rfl rfl rfl (fun _ => (x_not rfl)) ?_
                  refine wpP_pure rfl rfl rfl (fun _ => x_move) ?_
                  refine wpP_pure rfl rfl rfl (fun _ => x_move) ?_
                  refine wpP_pure rfl rfl rfl (fun _ => x_to (x_neq rfl rfl) (congrArg Value.bool (decide_eq_false (fun h => h rfl)))) ?_
                  refine wpP_pure rfl rfl rfl (fun _ => x_move) ?_
                  refine wpP_rdA 32 rfl rfl rfl Try.underlying33 rfl I33 rfl rfl (ha12) (rfl) ?_
                  refine wpP_pure rfl rfl rfl (fun _ => x_move) ?_
                  refine wpP_pure rfl rfl rfl (fun _ => (x_conv8u rfl Try.underlying3 Try.underlying5)) ?_
                  refine wpP_call rfl rfl rfl C13 (key_ok (toU8 (j : Int)) _) ?_
                  rintro _ w13 ⟨rfl, hc13⟩
                  have hc13 : Chg [] w12 w13 := hc13
                  refine ⟨⟨ha12.chg0 hc13, trivial⟩, ?_⟩
                  refine wpP_pure rfl rfl rfl (fun _ => x_neArr Try.underlying33 I5 rfl Try.underlying5 (by kernel_rfl) rfl rfl (rfl) (rfl)) ?_
                  refine wpP_pure rfl rfl rfl (fun _ => (x_pick_f rfl)) ?_
                  refine wpP_pure rfl rfl rfl (fun _ => (x_pick_t rfl)) ?_
                  refine wpP_pure rfl rfl rfl (fun _ => (x_pick_f rfl)) ?_
                  refine wpP_nil (thenE_norm ?_)
                  refine wpE_cond_df rfl (fun h => h rfl) ?_
                  refine wpE_skip (blockE_norm (thenE_norm ?_))
                  refine wpE_region ?_
                  refine wpL_value rfl x_move (wpL_value rfl (x_add64 rfl rfl (by omega)) (wpL_value rfl x_assign ?_))
                  refine wpL_nil (thenE_norm ?_)
                  refine Exists.intro (n) (And.intro (by omega) ?_)
                  exact ⟨j + 1, vs_cons (int_eq rfl) vs_nil, by omega, hc8.tr (hc812.tr hc13)⟩
              · skip
                refine wpE_exit (thenE_exit (thenE_exit (blockE_exit (thenE_norm ?_))))
                refine wpE_seq ?_
                refine wpE_region ?_
                refine wpL_value rfl x_assign ?_
                refine wpL_nil (thenE_norm ?_)
                refine wpE_ret (fin_ret ?_)
                exact ⟨rfl, hS8.now⟩
end Go.Proofs.Ytenhmbhflgnhlaa
