/- every row of calls, crashes, the power going within a commit: what each tells -/
import Derived.Test.YtenhmbhflgnhlaaGreatQPager11
namespace Go.Proofs.YtenhmbhflgnhlaaGreat
open Go Go.Sac
set_option maxRecDepth 100000
set_option maxHeartbeats 4000000
theorem unwritten_ok (w : World) (R : PR) (b : Nat) (k : List UInt8) (hk : k.length = 32) (P : Pg) (h : PagerAt w R b k P) :
    Ret Tryz.prog 70 #[.pointer (some ⟨R.pb, 0, none⟩)] w fun v w' => (∃ x, v = .bool x ∧ (x = true ↔ ∃ i, P.fresh i = true ∧ P.now.written i = false)) ∧ Chg [] w w' := by
  have hu := h.2.1
  obtain ⟨m, hm, hml⟩ := hu
  have hnd := hm.nodup
  refine enter [2] Tryz.func70 rfl rfl (Nat.le_of_ble_eq_true rfl) ?_
  refine wpE_seq ?_
  refine wpE_region ?_
  refine wpL_value rfl x_assign ?_
  refine wpL_nil (thenE_norm ?_)
  refine wpE_seq ?_
  refine wpE_seq ?_
  refine wpE_region ?_
  refine wpL_value rfl x_move (wpL_value rfl (x_nil rfl) (wpL_value rfl (x_fieldAddr Tryz.underlying128 rfl I123 rfl rfl) (wpL_value rfl (x_fieldAddr Tryz.underlying123 rfl I121 rfl rfl) ?_)))
  refine wpL_value rfl (x_load Tryz.underlying121 rfl rfl (h.a 2 (by decide) rfl)) ?_
  refine wpL_exv rfl (x_range Tryz.underlying121 rfl hm) ?_
  rintro w1 ⟨hit, hc1, hs1⟩
  refine wpL_nil (thenE_norm ?_)
  refine wpE_block ?_
  refine wpE_loop [] [2, 3, 10, 11, 12, 13, 14, 15, 16, 17, 18, 19, 20, 21, 22, 23, 24, 25, 26] (fun n vs w' => ∃ (left : List (UInt32 × Value)), vs = [] ∧ left.length = n ∧ IterAt w' w.heap.size R.u m left ∧ (∀ i, P.now.used i = true → i ∉ left.map (·.1) → ¬ (P.fresh i = true ∧ P.now.written i = false)) ∧ Chg [] w w') (m.length) (by kernel_rfl) ?_ ?_
  · refine ⟨m, rfl, rfl, hit, fun i hi hni => ?_, hc1⟩
    exact absurd (List.mem_map.2 ⟨_, (mget_mem hnd).1 (by rw [hml, if_pos hi]), rfl⟩) hni
  · rintro n vs J w2 ⟨left, rfl, hln, hit2, hdone, hc2⟩
    refine wpE_seq ?_
    refine wpE_region ?_
    have h2 := h.chg0 hc2
    refine wpL_next rfl (hit2) rfl ?_ ?_
    · rintro h0
      refine wpL_value rfl (x_extract rfl rfl) ?_
      refine wpL_nil (thenE_norm ?_)
      refine wpE_seq ?_
      refine wpE_cond_f (rfl) ?_
      refine wpE_exit (thenE_exit (thenE_exit (blockE_exit (thenE_norm ?_))))
      refine wpE_seq ?_
      refine wpE_region ?_
      refine wpL_value rfl x_assign ?_
      refine wpL_nil (thenE_norm ?_)
      refine wpE_ret (fin_ret ?_)
      subst h0
      refine ⟨⟨false, rfl, ?_⟩, hc2⟩
      constructor
      · intro hh; cases hh
      · rintro ⟨i, hi, hw⟩
        have hui : P.now.used i = true := by unfold Pg.fresh at hi; simp at hi; exact hi.1
        exact absurd ⟨hi, hw⟩ (hdone i hui (by simp))
    · rintro a kk v b' w3 hsp hit3 hcur hc3 hs3
      refine wpL_value rfl (x_extract rfl rfl) ?_
      refine wpL_nil (thenE_norm ?_)
      refine wpE_seq ?_
      refine wpE_cond_t (rfl) ?_
      refine wpE_skip (thenE_norm ?_)
      refine wpE_block ?_
      refine wpE_seq ?_
      refine wpE_region ?_
      have hc03 : Chg [] w w3 := hc2.t1 hc3 (Nat.le_refl _)
      have h3 := h.chg0 hc03
      have hob1 := h3.2.2.1
      obtain ⟨mw, hmw, hmwl⟩ := hob1
      refine wpL_value rfl (x_entry rfl hcur) ?_
      refine wpL_value rfl (x_extract rfl rfl) (wpL_value rfl x_assign ?_)
      refine wpL_nil (thenE_norm ?_)
      refine wpE_seq ?_
      refine wpE_region ?_
      refine wpL_value rfl x_move (wpL_value rfl x_move ?_)
      refine wpL_call rfl C63 (Fresh_ok w3 R b k hk P h3 kk) ?_
      rintro _ w4 ⟨rfl, hh4⟩
      refine wpL_value rfl x_move ?_
      have h4 := h3.chg0 (Chg.heap hh4)
      have hit4 := hit3.mod (Chg.heap (S := []) hh4) (by simp) (by simp)
      have hc04 : Chg [] w w4 := hc03.tr (Chg.heap hh4)
      have hlen : (a ++ b').length + 1 = left.length := by rw [hsp]; simp; omega
      have hmem : ∀ i, i ∉ (a ++ b').map (·.1) → i ≠ kk → i ∉ left.map (·.1) := fun i h1 h2 h3 => by
        rw [hsp] at h3
        simp only [List.map_append, List.map_cons, List.mem_append, List.mem_cons] at h1 h3
        rcases h3 with h3 | h3 | h3
        · exact h1 (.inl h3)
        · exact h2 h3
        · exact h1 (.inr h3)
      have hback : ¬ (P.fresh kk = true ∧ P.now.written kk = false) → ∀ i, P.now.used i = true → i ∉ (a ++ b').map (·.1) → ¬ (P.fresh i = true ∧ P.now.written i = false) := fun hk i hi hni => by
        by_cases hik : i = kk
        · rw [hik]; exact hk
        · exact hdone i hi (hmem i hni hik)
      cases hf : P.fresh kk with
      | false =>
        skip
        refine wpL_no rfl rfl (wpL_no rfl rfl (wpL_no rfl rfl (wpL_no rfl rfl (wpL_no rfl rfl (wpL_no rfl rfl (wpL_no rfl rfl (wpL_no rfl rfl (wpL_value rfl (x_pick_f rfl) ?_))))))))
        refine wpL_nil (thenE_norm ?_)
        refine wpE_cond_f (rfl) ?_
        refine wpE_skip (blockE_norm (thenE_norm ?_))
        refine Exists.intro ((a ++ b').length) (And.intro (by omega) ?_)
        exact ⟨a ++ b', rfl, rfl, hit4, hback (by rw [hf]; simp), hc04⟩
      | true =>
        skip
        refine wpL_yes rfl (wpL_value rfl x_move (wpL_yes rfl (wpL_value rfl (x_nil rfl) (wpL_yes rfl (wpL_value rfl (x_fieldAddr Tryz.underlying128 rfl I123 rfl rfl) (wpL_yes rfl (wpL_value rfl (x_fieldAddr Tryz.underlying123 rfl I121 rfl rfl) (wpL_yes rfl ?_))))))))
        refine wpL_value rfl (x_load Tryz.underlying121 rfl rfl (h4.a 3 (by decide) rfl)) ?_
        refine wpL_yes rfl (wpL_value rfl x_move (wpL_yes rfl ?_))
        refine wpL_value rfl (x_to (x_lookup (k := kk) Tryz.underlying121 (keyOk_u32 Tryz.underlying34) I4 rfl rfl rfl (hmw.heap hh4)) (SetAt.look hmwl)) ?_
        refine wpL_yes rfl (wpL_value rfl (x_not rfl) (wpL_value rfl (x_pick_t rfl) ?_))
        refine wpL_nil (thenE_norm ?_)
        refine wpE_cond rfl (fun hw => ?_) (fun hw => ?_)
        · skip
          refine wpE_seq ?_
          refine wpE_region ?_
          refine wpL_value rfl x_assign ?_
          refine wpL_nil (thenE_norm ?_)
          refine wpE_ret (blockE_ret (thenE_ret (blockE_ret (thenE_ret (fin_ret ?_)))))
          have hw : P.now.written kk = false := by simpa using hw
          exact ⟨⟨true, rfl, ⟨fun _ => ⟨kk, hf, hw⟩, fun _ => rfl⟩⟩, hc04⟩
        · skip
          refine wpE_skip (blockE_norm (thenE_norm ?_))
          have hw : P.now.written kk = true := by simpa using hw
          refine Exists.intro ((a ++ b').length) (And.intro (by omega) ?_)
          exact ⟨a ++ b', rfl, rfl, hit4, hback (by rw [hw]; simp), hc04⟩
end Go.Proofs.YtenhmbhflgnhlaaGreat

