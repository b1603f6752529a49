/- A page that was written stands on the disk as it is said to, sealed as the document seals it. It holds for every input; there are no conditions. -/
import Derived.Test.YtenhmbhflgnhlaaGreatQLaw7c
import Derived.Test.YtenhmbhflgnhlaaGreatSac2
namespace Go.Proofs.YtenhmbhflgnhlaaGreat
open Go Go.Sac
set_option maxRecDepth 100000
set_option maxHeartbeats 4000000
theorem pageB_tail (pk : List UInt8) (i g : Nat) (l : List UInt8) (h : l.length ≤ 480) (j : Nat) (hj : 506 ≤ j) : (pageB pk i g l).getD j 0 = 0 := by
  have h1 : (be 8 g ++ sealL pk (nonceL i g) tPage (plainL l)).length = 506 := by rw [List.length_append, be_length, sealL_length, plainL_length l h]
  unfold pageB
  rw [List.getD_eq_getElem?_getD, List.getElem?_append_right (by omega), h1, List.getElem?_replicate]
  split <;> rfl
theorem opensR_own (pk : List UInt8) (i : Nat) (g : UInt64) (l : List UInt8) (h : l.length ≤ 480) : opensR pk i (pageB pk i g.toNat l) (pageB pk i g.toNat l) = (l, true) := by
  unfold opensR
  rw [if_pos rfl, openP_pageB _ _ _ _ h]
theorem PagerStands_ok (w : World) (lv : Value) (l : List UInt8) (hl : Sl w lv l) (x1 : UInt8) :
    Ret Tryz.prog 5 #[lv, .int .u8 x1.toNat] w fun v w' => v = .bool true ∧ Chg [] w w' := by
  obtain ⟨pl, cl, rfl⟩ := hl.form rfl
  have hm6 : (x1 % 6).toNat < 6 := by rw [UInt8.toNat_mod]; exact Nat.mod_lt _ (by decide)
  refine enter [4] Tryz.func5 rfl rfl (Nat.le_of_ble_eq_true rfl) ?_
  refine wpE_seq ?_
  refine wpE_region ?_
  refine wpL_value rfl x_assign ?_
  refine wpL_nil (thenE_norm ?_)
  refine wpE_seq ?_
  refine wpE_seq ?_
  refine wpE_region ?_
  refine wpL_call rfl C19 (known7_ok w) ?_
  rintro _ w1 ⟨rfl, hc1⟩
  refine wpL_value rfl (x_not rfl) ?_
  refine wpL_nil (thenE_norm ?_)
  refine wpE_cond_f (rfl) ?_
  refine wpE_skip (thenE_norm ?_)
  refine wpE_seq ?_
  refine wpE_seq ?_
  refine wpE_region ?_
  refine wpL_value rfl x_move (wpL_value rfl (x_len_slice rfl Tryz.underlying41) (wpL_value rfl (x_gtr rfl rfl) ?_))
  refine wpL_nil (thenE_norm ?_)
  refine wpE_cond_d rfl (fun h480 => ?_) (fun h480 => ?_)
  · skip
    refine wpE_seq ?_
    refine wpE_region ?_
    refine wpL_value rfl x_assign ?_
    refine wpL_nil (thenE_norm ?_)
    refine wpE_ret (thenE_ret (fin_ret ?_))
    exact ⟨rfl, hc1⟩
  · skip
    refine wpE_skip (thenE_norm ?_)
    refine wpE_seq ?_
    refine wpE_region ?_
    refine wpL_value rfl x_move (wpL_value rfl (x_rem8u (b := 6) rfl rfl (by decide)) (wpL_value rfl (x_convI rfl Tryz.underlying5 Tryz.underlying3 (by omega)) (wpL_value rfl (x_add64 rfl rfl (by omega)) ?_)))
    have hl4 : l.length ≤ 480 := by omega
    generalize hmm : (x1 % 6).toNat = m at *
    refine wpL_call rfl C20 (begun_run (n := m + 4) (by omega) V0 hc1) ?_
    rintro _ w2 ⟨b, kv, r, R, a, ds, mb, pv, ov, rfl, hS2, hM2, hMF, hc2⟩
    refine wpL_value rfl x_move (wpL_value rfl (x_extract rfl rfl) (wpL_value rfl (x_extract rfl rfl) (wpL_value rfl (x_extract rfl rfl) (wpL_value rfl (x_extract rfl rfl) (wpL_value rfl x_assign (wpL_value rfl x_assign (wpL_value rfl x_assign (wpL_value rfl x_assign ?_))))))))
    refine wpL_nil (thenE_norm ?_)
    refine wpE_seq ?_
    refine wpE_region ?_
    refine wpL_value rfl x_move ?_
    refine wpL_call rfl C21 (alloc_at hS2 0 (by omega) (fun j hj => by omega) rfl) ?_
    rintro _ w3 ⟨rfl, hS3, hc3⟩
    refine wpL_value rfl x_move (wpL_value rfl (x_extract rfl rfl) (wpL_value rfl (x_extract rfl rfl) (wpL_value rfl x_assign (wpL_value rfl x_assign ?_))))
    refine wpL_nil (thenE_norm ?_)
    refine wpE_seq ?_
    refine wpE_seq ?_
    refine wpE_region ?_
    refine wpL_value rfl x_move ?_
    have hge3 := hS3.ge
    have hbl : l ≠ [] → ∀ x ∈ blkOf (.slice pl l.length cl), x ∉ PF R ++ DF b kv r := fun _ x hx hh => by
      have := hl.lt x hx
      have := hge3 x hh
      omega
    refine wpL_value rfl (x_to (x_not rfl) (rfl)) ?_
    refine wpL_value rfl x_move (wpL_yes rfl (wpL_value rfl x_move (wpL_yes rfl ?_)))
    refine wpL_value rfl (x_to (x_neq rfl rfl) (congrArg Value.bool (decide_eq_false (fun h => h rfl)))) ?_
    refine wpL_value rfl (x_pick_f rfl) (wpL_value rfl x_move (wpL_yes rfl (wpL_value rfl x_move (wpL_yes rfl (wpL_value rfl x_move (wpL_yes rfl (wpL_value rfl x_move (wpL_yes rfl ?_))))))))
    refine wpL_call rfl C22 (write_run hS3 (by decide) 0 rfl (.slice pl l.length cl) l hl4 (.inl (hl.mod0 hS3.now)) hbl) ?_
    rintro _ w4 ⟨rfl, ⟨ds4, hS4⟩, hc4⟩
    refine wpL_yes rfl ?_
    refine wpL_value rfl (x_to (x_neq rfl rfl) (congrArg Value.bool (decide_eq_false (fun h => h rfl)))) ?_
    refine wpL_value rfl (x_pick_f rfl) (wpL_value rfl x_move (wpL_yes rfl (wpL_value rfl x_move (wpL_yes rfl (wpL_value rfl x_move (wpL_yes rfl (wpL_value rfl (x_conv32u rfl Tryz.underlying5 Tryz.underlying34) (wpL_yes rfl ?_))))))))
    refine wpL_call rfl C23 (commit_run hS4 (by decide) (toU32 (x1.toNat : Int)) [] (by decide) (fun i hi => by have := (fresh_iff.1 hi).1; exact this)) ?_
    rintro _ w5 ⟨rfl, ⟨u5, r5, ku5, kr5, ds5, hR5, hS5, hpd5, _⟩, hc5⟩
    refine wpL_yes rfl (wpL_value rfl (x_neq rfl rfl) (wpL_value rfl (x_pick_f rfl) ?_))
    refine wpL_nil (thenE_norm ?_)
    refine wpE_cond_df rfl (fun h => h rfl) ?_
    refine wpE_skip (thenE_norm ?_)
    refine wpE_seq ?_
    refine wpE_region ?_
    refine wpL_value rfl x_move (wpL_value rfl x_move ?_)
    have hob1 := hS5.2.2.2.1.ok.pages 0 (.inl rfl)
    obtain ⟨g, _, hst, _⟩ := hob1
    have hst : ds5.reads (32 + ((0 : UInt32).toNat : Int) * 8) 8 = pageB (deriveL k39 tPage 0) 0 g.toNat l := hst
    refine wpL_call rfl C24 ((stands_ok w5 b r kv ds5 0 hS5.1.1 hS5.2.2.2.1.ok.offF (by rw [hS5.2.2.2.1.ok.len]; show 40 + 0 * 8 ≤ _; omega) hS5.small :)) ?_
    rintro v6 w6 ⟨⟨p6, c6, hv6, ho6, hi6⟩, hc6⟩
    subst hv6
    rw [hst] at ho6
    refine wpL_value rfl x_move (wpL_value rfl (x_extract rfl rfl) (wpL_value rfl (x_extract rfl rfl) (wpL_value rfl x_assign (wpL_value rfl x_assign ?_))))
    refine wpL_nil (thenE_norm ?_)
    refine wpE_seq ?_
    refine wpE_seq ?_
    refine wpE_region ?_
    refine wpL_value rfl x_move (wpL_value rfl (x_not rfl) ?_)
    refine wpL_nil (thenE_norm ?_)
    refine wpE_cond_f (rfl) ?_
    refine wpE_skip (thenE_norm ?_)
    refine wpE_seq ?_
    refine wpE_region ?_
    refine wpL_value rfl x_move (wpL_value rfl x_move (wpL_value rfl x_move ?_))
    have hpl512 := pageB_length (deriveL k39 tPage 0) 0 g.toNat l hl4
    refine wpL_call rfl C28 ((opens_ok w6 0 p6 c6 p6 c6 _ _ ho6.sl ho6.sl hpl512 hpl512 :)) ?_
    rintro v7 w7 ⟨hv7, hc7⟩
    rw [show (0 : UInt32).toNat = 0 from rfl, opensR_own _ _ _ _ hl4] at hv7
    subst hv7
    refine wpL_value rfl x_move (wpL_value rfl (x_extract rfl rfl) (wpL_value rfl (x_extract rfl rfl) (wpL_value rfl x_assign (wpL_value rfl x_assign ?_))))
    refine wpL_nil (thenE_norm ?_)
    refine wpE_seq ?_
    refine wpE_seq ?_
    refine wpE_region ?_
    refine wpL_value rfl x_assign ?_
    refine wpL_nil (thenE_norm ?_)
    refine wpE_block ?_
    have ho7 := ho6.mod0 hc7
    have hnow : Chg [] w w7 := (hS5.now.tr hc6).tr hc7
    refine wpE_loopF [0, 11, 13, 14, 15] (fun n vs w' => ∃ i : Nat, vs = [.slice pl l.length cl, .slice p6 512 c6, str l, .bool true, .int .i64 i] ∧ i + n = 512 ∧ 506 ≤ i ∧ w' = w7) (6) ?_ ?_
    · exact ⟨506, rfl, rfl, by omega, rfl⟩
    · rintro n vs J w8 ⟨i, rfl, hi, h506, rfl⟩
      refine wpE_seq ?_
      refine wpE_seq ?_
      refine wpE_region ?_
      refine wpL_value rfl x_move (wpL_value rfl (x_lss rfl rfl) ?_)
      refine wpL_nil (thenE_norm ?_)
      refine wpE_cond_d rfl (fun hlt => ?_) (fun hlt => ?_)
      · skip
        refine wpE_skip (thenE_norm ?_)
        refine wpE_seq ?_
        refine wpE_block ?_
        refine wpE_seq ?_
        refine wpE_region ?_
        refine wpL_value rfl x_move (wpL_value rfl x_move ?_)
        have hob2 : ∃ q, n = q + 1 := ⟨n - 1, by omega⟩
        obtain ⟨n, rfl⟩ := hob2
        refine wpL_ex rfl (x_idx (i) Tryz.underlying41 I5 rfl (ho7.sl) rfl rfl (by first | rfl | omega) (by omega)) ?_
        rintro _ ⟨bi, oi, rfl, hei, hbi⟩
        refine wpL_value rfl (x_load Tryz.underlying5 rfl rfl ((ho7.sl.at hei (getD_some (d := 0) (by omega))).c0 rfl)) ?_
        refine wpL_value rfl (x_neq8u (b := 0) rfl rfl) ?_
        refine wpL_nil (thenE_norm ?_)
        refine wpE_cond_df rfl (fun h => h (pageB_tail _ _ _ _ hl4 _ h506)) ?_
        refine wpE_skip (blockE_norm (thenE_norm ?_))
        refine wpE_region ?_
        refine wpL_value rfl x_move (wpL_value rfl (x_add64 rfl rfl (by omega)) (wpL_value rfl x_assign ?_))
        refine wpL_nil (thenE_norm ?_)
        refine Exists.intro (n) (And.intro (by omega) ?_)
        exact ⟨i + 1, rfl, by omega, by omega, rfl⟩
      · skip
        refine wpE_exit (thenE_exit (thenE_exit (blockE_exit (thenE_norm ?_))))
        refine wpE_seq ?_
        refine wpE_region ?_
        refine wpL_value rfl x_move (wpL_value rfl x_move ?_)
        refine wpL_yes rfl (wpL_value rfl x_move (wpL_yes rfl (wpL_value rfl x_move (wpL_yes rfl ?_))))
        refine wpL_value rfl (x_b2s Tryz.underlying41 Tryz.underlying5 Tryz.underlying9 (hl.mod0 hnow) rfl) ?_
        refine wpL_yes rfl (wpL_value rfl (x_eqS rfl rfl) (wpL_value rfl (x_pick_t rfl) (wpL_value rfl x_assign ?_)))
        refine wpL_nil (thenE_norm ?_)
        refine wpE_ret (fin_ret ?_)
        exact ⟨congrArg Value.bool (decide_eq_true rfl), hnow⟩
end Go.Proofs.YtenhmbhflgnhlaaGreat
