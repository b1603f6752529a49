/- every row of calls, crashes, the power going within a commit: what each tells -/
import Derived.Test.YtenhmbhflgnhlaaGreatQModel
import Derived.Test.YtenhmbhflgnhlaaGreatSac1
namespace Go.Proofs.YtenhmbhflgnhlaaGreat
open Go Go.Sac
set_option maxRecDepth 100000
set_option maxHeartbeats 4000000
theorem mRead_ok (w : World) (mb : Nat) (pv ov : Value) (M : Mdl) (h : MAt w mb pv ov M) (hl : M.p.length ≤ 1000) (i : Nat) (hi : i ≤ 1000) :
    Ret Tryz.prog 90 #[.pointer (some ⟨mb, 0, none⟩), .int .i64 i] w fun v w' => v = .tuple #[str (readM M i).1, .int .i64 (readM M i).2] ∧ Hp w' w := by
  have hfm := h.p.form rfl
  obtain ⟨pp, pc, rfl⟩ := hfm
  refine enter [4, 5] Tryz.func90 rfl rfl (Nat.le_of_ble_eq_true rfl) ?_
  refine wpE_seq ?_
  refine wpE_region ?_
  refine wpL_value rfl x_assign (wpL_value rfl x_assign ?_)
  refine wpL_nil (thenE_norm ?_)
  refine wpE_seq ?_
  refine wpE_seq ?_
  refine wpE_region ?_
  refine wpL_value rfl x_move ?_
  refine wpL_value rfl (x_to (x_lss rfl rfl) (congrArg Value.bool (decide_eq_false (by omega)))) ?_
  refine wpL_value rfl x_move (wpL_yes rfl (wpL_value rfl x_move (wpL_yes rfl (wpL_value rfl x_move (wpL_yes rfl (wpL_value rfl (x_nil rfl) (wpL_yes rfl (wpL_value rfl (x_fieldAddr Tryz.underlying119 rfl I117 rfl rfl) (wpL_yes rfl ?_)))))))))
  refine wpL_value rfl (x_load Tryz.underlying117 rfl rfl (h.blk.c (off := 0) rfl)) ?_
  refine wpL_yes rfl (wpL_value rfl (x_len_slice rfl Tryz.underlying117) (wpL_yes rfl ?_))
  by_cases hil : i < M.p.length
  · skip
    refine wpL_value rfl (x_to (x_geq rfl rfl) (congrArg Value.bool (decide_eq_false (by omega)))) ?_
    refine wpL_value rfl (x_pick_f rfl) (wpL_value rfl x_move (wpL_yes rfl (wpL_value rfl x_move (wpL_yes rfl (wpL_value rfl (x_nil rfl) (wpL_yes rfl (wpL_value rfl (x_fieldAddr Tryz.underlying119 rfl I117 rfl rfl) (wpL_yes rfl ?_))))))))
    refine wpL_value rfl (x_load Tryz.underlying117 rfl rfl (h.blk.c (off := 0) rfl)) ?_
    refine wpL_yes rfl (wpL_value rfl x_move (wpL_yes rfl ?_))
    refine wpL_ex rfl (x_idx (i) Tryz.underlying117 I154 rfl (h.p.sl) rfl rfl (by first | rfl | omega) (hil)) ?_
    rintro _ ⟨b1, o1, rfl, he1, hb1⟩
    refine wpL_yes rfl (wpL_value rfl (x_fieldAddr Tryz.underlying154 rfl I4 rfl rfl) (wpL_yes rfl ?_))
    have hat := h.p.sl.at he1 (M.at hil)
    have hg : ∃ g, g = M.get i := ⟨_, rfl⟩
    obtain ⟨g, hg⟩ := hg
    rw [← hg] at hat
    obtain ⟨gu, gf, gw, gs, gb⟩ := g
    cases gu
    · skip
      refine wpL_value rfl (x_load Tryz.underlying4 rfl rfl ((hat.c0 rfl : _ = some (.bool false)))) ?_
      refine wpL_yes rfl ?_
      refine wpL_value rfl (x_not rfl) (wpL_value rfl (x_pick_f rfl) (wpL_value rfl x_move (wpL_no rfl rfl (wpL_no rfl rfl (wpL_no rfl rfl (wpL_no rfl rfl (wpL_no rfl rfl (wpL_no rfl rfl (wpL_no rfl rfl (wpL_no rfl rfl (wpL_no rfl rfl (wpL_value rfl (x_pick_t rfl) ?_))))))))))))
      refine wpL_nil (thenE_norm ?_)
      refine wpE_cond_t (rfl) ?_
      refine wpE_seq ?_
      refine wpE_region ?_
      refine wpL_value rfl x_assign (wpL_value rfl x_assign ?_)
      refine wpL_nil (thenE_norm ?_)
      refine wpE_ret (thenE_ret (fin_ret ?_))
      have hr : readM M i = ([], 71) := if_neg (by rw [← hg]; simp)
      rw [hr]
      exact ⟨rfl, rfl⟩
    · skip
      refine wpL_value rfl (x_load Tryz.underlying4 rfl rfl ((hat.c0 rfl : _ = some (.bool true)))) ?_
      refine wpL_yes rfl ?_
      refine wpL_value rfl (x_not rfl) (wpL_value rfl (x_pick_f rfl) (wpL_value rfl x_move (wpL_yes rfl (wpL_value rfl x_move (wpL_yes rfl (wpL_value rfl (x_nil rfl) (wpL_yes rfl (wpL_value rfl (x_fieldAddr Tryz.underlying119 rfl I117 rfl rfl) (wpL_yes rfl ?_)))))))))
      refine wpL_value rfl (x_load Tryz.underlying117 rfl rfl (h.blk.c (off := 0) rfl)) ?_
      refine wpL_yes rfl (wpL_value rfl x_move (wpL_yes rfl ?_))
      refine wpL_ex rfl (x_idx (i) Tryz.underlying117 I154 rfl (h.p.sl) rfl rfl (by first | rfl | omega) (hil)) ?_
      rintro _ ⟨b2, o2, rfl, he2, hb2⟩
      refine wpL_yes rfl (wpL_value rfl (x_fieldAddr Tryz.underlying154 rfl I4 rfl rfl) (wpL_yes rfl ?_))
      have hat2 := h.p.sl.at he2 (M.at hil)
      rw [← hg] at hat2
      cases gw
      · skip
        refine wpL_value rfl (x_load Tryz.underlying4 rfl rfl ((hat2.cell (i := 2) rfl : _ = some (.bool false)))) ?_
        refine wpL_yes rfl (wpL_value rfl (x_not rfl) (wpL_value rfl (x_pick_f rfl) ?_))
        refine wpL_nil (thenE_norm ?_)
        refine wpE_cond_t (rfl) ?_
        refine wpE_seq ?_
        refine wpE_region ?_
        refine wpL_value rfl x_assign (wpL_value rfl x_assign ?_)
        refine wpL_nil (thenE_norm ?_)
        refine wpE_ret (thenE_ret (fin_ret ?_))
        have hr : readM M i = ([], 71) := if_neg (by rw [← hg]; simp)
        rw [hr]
        exact ⟨rfl, rfl⟩
      · skip
        refine wpL_value rfl (x_load Tryz.underlying4 rfl rfl ((hat2.cell (i := 2) rfl : _ = some (.bool true)))) ?_
        refine wpL_yes rfl (wpL_value rfl (x_not rfl) (wpL_value rfl (x_pick_f rfl) ?_))
        refine wpL_nil (thenE_norm ?_)
        refine wpE_cond_f (rfl) ?_
        refine wpE_skip (thenE_norm ?_)
        refine wpE_seq ?_
        refine wpE_region ?_
        refine wpL_value rfl x_move (wpL_value rfl (x_nil rfl) (wpL_value rfl (x_fieldAddr Tryz.underlying119 rfl I117 rfl rfl) ?_))
        refine wpL_value rfl (x_load Tryz.underlying117 rfl rfl (h.blk.c (off := 0) rfl)) ?_
        refine wpL_value rfl x_move ?_
        refine wpL_ex rfl (x_idx (i) Tryz.underlying117 I154 rfl (h.p.sl) rfl rfl (by first | rfl | omega) (hil)) ?_
        rintro _ ⟨b3, o3, rfl, he3, hb3⟩
        refine wpL_value rfl (x_fieldAddr Tryz.underlying154 rfl I9 rfl rfl) ?_
        have hat3 := h.p.sl.at he3 (M.at hil)
        rw [← hg] at hat3
        refine wpL_value rfl (x_load Tryz.underlying9 rfl rfl ((hat3.cell (i := 4) rfl : _ = some (str gb)))) ?_
        refine wpL_value rfl x_assign (wpL_value rfl x_assign ?_)
        refine wpL_nil (thenE_norm ?_)
        refine wpE_ret (fin_ret ?_)
        have hr : readM M i = (gb, 0) := by unfold readM; rw [← hg, if_pos ⟨hil, rfl, rfl⟩]
        rw [hr]
        exact ⟨rfl, rfl⟩
  · skip
    refine wpL_value rfl (x_to (x_geq rfl rfl) (congrArg Value.bool (decide_eq_true (by omega)))) ?_
    refine wpL_value rfl (x_pick_f rfl) (wpL_value rfl x_move (wpL_no rfl rfl (wpL_no rfl rfl (wpL_no rfl rfl (wpL_no rfl rfl (wpL_no rfl rfl (wpL_no rfl rfl (wpL_no rfl rfl (wpL_no rfl rfl (wpL_no rfl rfl (wpL_value rfl (x_pick_t rfl) (wpL_value rfl x_move (wpL_no rfl rfl (wpL_no rfl rfl (wpL_no rfl rfl (wpL_no rfl rfl (wpL_no rfl rfl (wpL_no rfl rfl (wpL_no rfl rfl (wpL_no rfl rfl (wpL_no rfl rfl (wpL_value rfl (x_pick_t rfl) ?_))))))))))))))))))))))
    refine wpL_nil (thenE_norm ?_)
    refine wpE_cond_t (rfl) ?_
    refine wpE_seq ?_
    refine wpE_region ?_
    refine wpL_value rfl x_assign (wpL_value rfl x_assign ?_)
    refine wpL_nil (thenE_norm ?_)
    refine wpE_ret (thenE_ret (fin_ret ?_))
    have hr : readM M i = ([], 71) := if_neg (fun h => hil h.1)
    rw [hr]
    exact ⟨rfl, rfl⟩
theorem mRoom_ok (w : World) (mb : Nat) (pv ov : Value) (M : Mdl) (h : MAt w mb pv ov M) (hl : M.p.length ≤ 1000) :
    Ret Tryz.prog 92 #[.pointer (some ⟨mb, 0, none⟩)] w fun v w' => v = .int .i64 (roomM M M.p.length) ∧ Hp w' w := by
  have hfm := h.p.form rfl
  obtain ⟨pp, pc, rfl⟩ := hfm
  refine enter [2] Tryz.func92 rfl rfl (Nat.le_of_ble_eq_true rfl) ?_
  refine wpE_seq ?_
  refine wpE_region ?_
  refine wpL_value rfl x_assign ?_
  refine wpL_nil (thenE_norm ?_)
  refine wpE_seq ?_
  refine wpE_region ?_
  refine wpL_value rfl x_assign ?_
  refine wpL_nil (thenE_norm ?_)
  refine wpE_seq ?_
  refine wpE_seq ?_
  refine wpE_region ?_
  refine wpL_value rfl x_assign ?_
  refine wpL_nil (thenE_norm ?_)
  refine wpE_block ?_
  refine wpE_loopF [0, 3, 4] (fun n vs w' => ∃ i : Nat, vs = [.pointer (some ⟨mb, 0, none⟩), .int .i64 (roomM M i), .int .i64 i] ∧ i + n = M.p.length ∧ w' = w) (M.p.length) ?_ ?_
  · exact ⟨0, rfl, by omega, rfl⟩
  · rintro n vs J w1 ⟨i, rfl, hi, rfl⟩
    refine wpE_seq ?_
    refine wpE_seq ?_
    refine wpE_region ?_
    refine wpL_value rfl x_move (wpL_value rfl x_move (wpL_value rfl (x_nil rfl) (wpL_value rfl (x_fieldAddr Tryz.underlying119 rfl I117 rfl rfl) ?_)))
    have hrl := roomM_le M i
    have hrs := roomM_succ M i
    refine wpL_value rfl (x_load Tryz.underlying117 rfl rfl (h.blk.c (off := 0) rfl)) ?_
    refine wpL_value rfl (x_len_slice rfl Tryz.underlying117) (wpL_value rfl (x_lss rfl rfl) ?_)
    refine wpL_nil (thenE_norm ?_)
    refine wpE_cond_d rfl (fun hlt => ?_) (fun hlt => ?_)
    · skip
      refine wpE_skip (thenE_norm ?_)
      refine wpE_seq ?_
      refine wpE_block ?_
      refine wpE_seq ?_
      refine wpE_region ?_
      refine wpL_value rfl x_move (wpL_value rfl (x_nil rfl) (wpL_value rfl (x_fieldAddr Tryz.underlying119 rfl I117 rfl rfl) ?_))
      have hob1 : ∃ q, n = q + 1 := ⟨n - 1, by omega⟩
      obtain ⟨n, rfl⟩ := hob1
      have hil : i < M.p.length := by omega
      refine wpL_value rfl (x_load Tryz.underlying117 rfl rfl (h.blk.c (off := 0) rfl)) ?_
      refine wpL_value rfl x_move ?_
      refine wpL_ex rfl (x_idx (i) Tryz.underlying117 I154 rfl (h.p.sl) rfl rfl (by first | rfl | omega) (hil)) ?_
      rintro _ ⟨b1, o1, rfl, he1, hb1⟩
      refine wpL_value rfl (x_fieldAddr Tryz.underlying154 rfl I4 rfl rfl) ?_
      have hat := h.p.sl.at he1 (M.at hil)
      have hg : ∃ g, g = M.get i := ⟨_, rfl⟩
      obtain ⟨g, hg⟩ := hg
      rw [← hg] at hat
      obtain ⟨gu, gf, gw, gs, gb⟩ := g
      cases gu
      · skip
        refine wpL_value rfl (x_load Tryz.underlying4 rfl rfl ((hat.c0 rfl : _ = some (.bool false)))) ?_
        refine wpL_value rfl (x_not rfl) (wpL_value rfl x_move (wpL_yes rfl (wpL_value rfl x_move (wpL_yes rfl (wpL_value rfl (x_nil rfl) (wpL_yes rfl (wpL_value rfl (x_fieldAddr Tryz.underlying119 rfl I117 rfl rfl) (wpL_yes rfl ?_))))))))
        refine wpL_value rfl (x_load Tryz.underlying117 rfl rfl (h.blk.c (off := 0) rfl)) ?_
        refine wpL_yes rfl (wpL_value rfl x_move (wpL_yes rfl ?_))
        refine wpL_ex rfl (x_idx (i) Tryz.underlying117 I154 rfl (h.p.sl) rfl rfl (by first | rfl | omega) (hil)) ?_
        rintro _ ⟨b2, o2, rfl, he2, hb2⟩
        refine wpL_yes rfl (wpL_value rfl (x_fieldAddr Tryz.underlying154 rfl I4 rfl rfl) (wpL_yes rfl ?_))
        have hat2 := h.p.sl.at he2 (M.at hil)
        rw [← hg] at hat2
        cases gs
        · skip
          refine wpL_value rfl (x_load Tryz.underlying4 rfl rfl ((hat2.cell (i := 3) rfl : _ = some (.bool false)))) ?_
          refine wpL_yes rfl (wpL_value rfl (x_not rfl) (wpL_value rfl (x_pick_t rfl) ?_))
          refine wpL_nil (thenE_norm ?_)
          refine wpE_cond_t (rfl) ?_
          refine wpE_region ?_
          refine wpL_value rfl x_move (wpL_value rfl (x_add64 rfl rfl (by omega)) (wpL_value rfl x_assign ?_))
          refine wpL_nil (blockE_norm (thenE_norm ?_))
          refine wpE_region ?_
          refine wpL_value rfl x_move (wpL_value rfl (x_add64 rfl rfl (by omega)) (wpL_value rfl x_assign ?_))
          refine wpL_nil (thenE_norm ?_)
          have hyes : M.free i = true := by unfold Mdl.free; rw [← hg]; rfl
          rw [hyes, if_pos rfl] at hrs
          refine Exists.intro (n) (And.intro (by omega) ?_)
          exact ⟨i + 1, vs_cons rfl (vs_cons (int_eq (by omega)) (vs_cons rfl vs_nil)), by omega, rfl⟩
        · skip
          refine wpL_value rfl (x_load Tryz.underlying4 rfl rfl ((hat2.cell (i := 3) rfl : _ = some (.bool true)))) ?_
          refine wpL_yes rfl (wpL_value rfl (x_not rfl) (wpL_value rfl (x_pick_t rfl) ?_))
          refine wpL_nil (thenE_norm ?_)
          refine wpE_cond_f (rfl) ?_
          refine wpE_skip (blockE_norm (thenE_norm ?_))
          refine wpE_region ?_
          refine wpL_value rfl x_move (wpL_value rfl (x_add64 rfl rfl (by omega)) (wpL_value rfl x_assign ?_))
          refine wpL_nil (thenE_norm ?_)
          have hno : M.free i = false := by unfold Mdl.free; rw [← hg]; rfl
          refine Exists.intro (n) (And.intro (by omega) ?_)
          rw [hno, if_neg (by decide)] at hrs
          exact ⟨i + 1, vs_cons rfl (vs_cons (int_eq (by omega)) (vs_cons rfl vs_nil)), by omega, rfl⟩
      · skip
        refine wpL_value rfl (x_load Tryz.underlying4 rfl rfl ((hat.c0 rfl : _ = some (.bool true)))) ?_
        refine wpL_value rfl (x_not rfl) (wpL_value rfl x_move (wpL_no rfl rfl (wpL_no rfl rfl (wpL_no rfl rfl (wpL_no rfl rfl (wpL_no rfl rfl (wpL_no rfl rfl (wpL_no rfl rfl (wpL_no rfl rfl (wpL_no rfl rfl (wpL_value rfl (x_pick_f rfl) ?_)))))))))))
        refine wpL_nil (thenE_norm ?_)
        refine wpE_cond_f (rfl) ?_
        refine wpE_skip (blockE_norm (thenE_norm ?_))
        refine wpE_region ?_
        refine wpL_value rfl x_move (wpL_value rfl (x_add64 rfl rfl (by omega)) (wpL_value rfl x_assign ?_))
        refine wpL_nil (thenE_norm ?_)
        have hno : M.free i = false := by unfold Mdl.free; rw [← hg]; rfl
        refine Exists.intro (n) (And.intro (by omega) ?_)
        rw [hno, if_neg (by decide)] at hrs
        exact ⟨i + 1, vs_cons rfl (vs_cons (int_eq (by omega)) (vs_cons rfl vs_nil)), by omega, rfl⟩
    · skip
      refine wpE_exit (thenE_exit (thenE_exit (blockE_exit (thenE_norm ?_))))
      refine wpE_seq ?_
      refine wpE_region ?_
      refine wpL_value rfl x_move (wpL_value rfl x_assign ?_)
      refine wpL_nil (thenE_norm ?_)
      refine wpE_ret (fin_ret ?_)
      have hil : i = M.p.length := by omega
      subst hil
      exact ⟨rfl, rfl⟩
theorem mWrite_ok (w : World) (mb : Nat) (pv ov : Value) (M : Mdl) (h : MAt w mb pv ov M) (hl : M.p.length ≤ 1000) (i : Nat) (hi : i ≤ 1000) (bv : Value) (l : List UInt8) (hb : SlE w bv l) (hbl : l.length ≤ 100000) (hbp : l ≠ [] → ∀ x ∈ blkOf bv, x ∉ blkOf pv) :
    Ret Tryz.prog 89 #[.pointer (some ⟨mb, 0, none⟩), .int .i64 i, bv] w fun v w' => v = .int .i64 (writeM M i l).2 ∧ MAt w' mb pv ov (writeM M i l).1 ∧ Chg (blkOf pv) w w' := by
  have hfm := h.p.form rfl
  obtain ⟨pp, pc, rfl⟩ := hfm
  have hfb := hb.form
  obtain ⟨pb, cb, rfl⟩ := hfb
  refine enter [6] Tryz.func89 rfl rfl (Nat.le_of_ble_eq_true rfl) ?_
  refine wpE_seq ?_
  refine wpE_region ?_
  refine wpL_value rfl x_assign ?_
  refine wpL_nil (thenE_norm ?_)
  refine wpE_seq ?_
  refine wpE_seq ?_
  refine wpE_region ?_
  refine wpL_value rfl x_move ?_
  refine wpL_value rfl (x_to (x_lss rfl rfl) (congrArg Value.bool (decide_eq_false (by omega)))) ?_
  refine wpL_value rfl x_move (wpL_yes rfl (wpL_value rfl x_move (wpL_yes rfl (wpL_value rfl x_move (wpL_yes rfl (wpL_value rfl (x_nil rfl) (wpL_yes rfl (wpL_value rfl (x_fieldAddr Tryz.underlying119 rfl I117 rfl rfl) (wpL_yes rfl ?_)))))))))
  refine wpL_value rfl (x_load Tryz.underlying117 rfl rfl (h.blk.c (off := 0) rfl)) ?_
  refine wpL_yes rfl (wpL_value rfl (x_len_slice rfl Tryz.underlying117) (wpL_yes rfl ?_))
  by_cases hil : i < M.p.length
  · skip
    refine wpL_value rfl (x_to (x_geq rfl rfl) (congrArg Value.bool (decide_eq_false (by omega)))) ?_
    refine wpL_value rfl (x_pick_f rfl) (wpL_value rfl x_move (wpL_yes rfl (wpL_value rfl x_move (wpL_yes rfl (wpL_value rfl (x_nil rfl) (wpL_yes rfl (wpL_value rfl (x_fieldAddr Tryz.underlying119 rfl I117 rfl rfl) (wpL_yes rfl ?_))))))))
    refine wpL_value rfl (x_load Tryz.underlying117 rfl rfl (h.blk.c (off := 0) rfl)) ?_
    refine wpL_yes rfl (wpL_value rfl x_move (wpL_yes rfl ?_))
    refine wpL_ex rfl (x_idx (i) Tryz.underlying117 I154 rfl (h.p.sl) rfl rfl (by first | rfl | omega) (hil)) ?_
    rintro _ ⟨b1, o1, rfl, he1, hb1⟩
    refine wpL_yes rfl (wpL_value rfl (x_fieldAddr Tryz.underlying154 rfl I4 rfl rfl) (wpL_yes rfl ?_))
    have hat := h.p.sl.at he1 (M.at hil)
    have hg : ∃ g, g = M.get i := ⟨_, rfl⟩
    obtain ⟨g, hg⟩ := hg
    rw [← hg] at hat
    obtain ⟨gu, gf, gw, gs, gb⟩ := g
    cases gu
    · skip
      refine wpL_value rfl (x_load Tryz.underlying4 rfl rfl ((hat.c0 rfl : _ = some (.bool false)))) ?_
      refine wpL_yes rfl ?_
      refine wpL_value rfl (x_not rfl) (wpL_value rfl (x_pick_f rfl) (wpL_value rfl x_move (wpL_no rfl rfl (wpL_no rfl rfl (wpL_no rfl rfl (wpL_no rfl rfl (wpL_no rfl rfl (wpL_no rfl rfl (wpL_no rfl rfl (wpL_no rfl rfl (wpL_no rfl rfl (wpL_value rfl (x_pick_t rfl) ?_))))))))))))
      refine wpL_nil (thenE_norm ?_)
      refine wpE_cond_t (rfl) ?_
      refine wpE_seq ?_
      refine wpE_region ?_
      refine wpL_value rfl x_assign ?_
      refine wpL_nil (thenE_norm ?_)
      refine wpE_ret (thenE_ret (fin_ret ?_))
      have hr : writeM M i l = (M, 71) := if_neg (by rw [← hg]; simp)
      rw [hr]
      exact ⟨rfl, h, Chg.refl' _ _⟩
    · skip
      refine wpL_value rfl (x_load Tryz.underlying4 rfl rfl ((hat.c0 rfl : _ = some (.bool true)))) ?_
      refine wpL_yes rfl ?_
      refine wpL_value rfl (x_not rfl) (wpL_value rfl (x_pick_f rfl) (wpL_value rfl x_move (wpL_yes rfl (wpL_value rfl x_move (wpL_yes rfl (wpL_value rfl (x_nil rfl) (wpL_yes rfl (wpL_value rfl (x_fieldAddr Tryz.underlying119 rfl I117 rfl rfl) (wpL_yes rfl ?_)))))))))
      refine wpL_value rfl (x_load Tryz.underlying117 rfl rfl (h.blk.c (off := 0) rfl)) ?_
      refine wpL_yes rfl (wpL_value rfl x_move (wpL_yes rfl ?_))
      refine wpL_ex rfl (x_idx (i) Tryz.underlying117 I154 rfl (h.p.sl) rfl rfl (by first | rfl | omega) (hil)) ?_
      rintro _ ⟨b2, o2, rfl, he2, hb2⟩
      refine wpL_yes rfl (wpL_value rfl (x_fieldAddr Tryz.underlying154 rfl I4 rfl rfl) (wpL_yes rfl ?_))
      have hat2 := h.p.sl.at he2 (M.at hil)
      rw [← hg] at hat2
      cases gf
      · skip
        refine wpL_value rfl (x_load Tryz.underlying4 rfl rfl ((hat2.cell (i := 1) rfl : _ = some (.bool false)))) ?_
        refine wpL_yes rfl (wpL_value rfl (x_not rfl) (wpL_value rfl (x_pick_f rfl) ?_))
        refine wpL_nil (thenE_norm ?_)
        refine wpE_cond_t (rfl) ?_
        refine wpE_seq ?_
        refine wpE_region ?_
        refine wpL_value rfl x_assign ?_
        refine wpL_nil (thenE_norm ?_)
        refine wpE_ret (thenE_ret (fin_ret ?_))
        have hr : writeM M i l = (M, 71) := if_neg (by rw [← hg]; simp)
        rw [hr]
        exact ⟨rfl, h, Chg.refl' _ _⟩
      · skip
        refine wpL_value rfl (x_load Tryz.underlying4 rfl rfl ((hat2.cell (i := 1) rfl : _ = some (.bool true)))) ?_
        refine wpL_yes rfl (wpL_value rfl (x_not rfl) (wpL_value rfl (x_pick_f rfl) ?_))
        refine wpL_nil (thenE_norm ?_)
        refine wpE_cond_f (rfl) ?_
        refine wpE_skip (thenE_norm ?_)
        refine wpE_seq ?_
        refine wpE_seq ?_
        refine wpE_region ?_
        refine wpL_value rfl x_move (wpL_value rfl (x_len_slice rfl Tryz.underlying41) (wpL_value rfl (x_gtr rfl rfl) ?_))
        refine wpL_nil (thenE_norm ?_)
        refine wpE_cond_d rfl (fun h480 => ?_) (fun h480 => ?_)
        · skip
          refine wpE_seq ?_
          refine wpE_region ?_
          refine wpL_value rfl x_assign ?_
          refine wpL_nil (thenE_norm ?_)
          refine wpE_ret (thenE_ret (fin_ret ?_))
          have hr : writeM M i l = (M, 11) := by unfold writeM; rw [← hg, if_pos ⟨hil, rfl, rfl⟩, if_neg (by omega)]
          rw [hr]
          exact ⟨rfl, h, Chg.refl' _ _⟩
        · skip
          refine wpE_skip (thenE_norm ?_)
          refine wpE_seq ?_
          have hr : writeM M i l = ({ M with p := M.p.set i ⟨true, true, true, gs, l⟩ }, 0) := by unfold writeM; rw [← hg, if_pos ⟨hil, rfl, rfl⟩, if_pos (by omega)]
          rw [hr]
          have hgi : M.p[i]? = some ⟨true, true, gw, gs, gb⟩ := by rw [M.at hil, ← hg]
          refine wpE_draw mixed (.pure 0 (.pure 1 (.pure 2 (.read 3 (.pure 4 (.pure 5 (.pure 6 (.pure 7 (.read 8 (.pure 9 (.pure 10 (.read 11 (.pure 12 (.pure 13 (.eff 14 [] (.pure 15 (.pure 16 (.eff 17 [] .nil)))))))))))))))))) (by kernel_rfl) ?_
          refine wpP_pure rfl rfl rfl (fun _ => x_move) ?_
          refine wpP_pure rfl rfl rfl (fun _ => (x_nil rfl)) ?_
          refine wpP_pure rfl rfl rfl (fun _ => (x_fieldAddr Tryz.underlying119 rfl I117 rfl rfl)) ?_
          refine wpP_rd rfl rfl rfl Tryz.underlying117 rfl rfl (h.blk.c (off := 0) rfl) ?_
          refine wpP_pure rfl rfl rfl (fun _ => x_move) ?_
          refine wpP_pure rfl rfl rfl (fun _ => x_move) ?_
          refine wpP_pure rfl rfl rfl (fun _ => (x_nil rfl)) ?_
          refine wpP_pure rfl rfl rfl (fun _ => (x_fieldAddr Tryz.underlying119 rfl I117 rfl rfl)) ?_
          refine wpP_rd rfl rfl rfl Tryz.underlying117 rfl rfl (h.blk.c (off := 0) rfl) ?_
          refine wpP_pure rfl rfl rfl (fun _ => x_move) ?_
          refine wpP_pure rfl rfl rfl (fun _ => x_move) ?_
          refine wpP_read rfl rfl rfl (fun w' => SlE w' (.slice pb l.length cb) l) (hb) (fun w1 h1 => x_b2sE Tryz.underlying41 Tryz.underlying5 Tryz.underlying9 h1 rfl) ?_
          refine wpP_ex rfl rfl rfl (x_idx (i) Tryz.underlying117 I154 rfl (h.p.sl) rfl rfl (by first | rfl | omega) (hil)) ?_
          rintro _ ⟨b3, o3, rfl, he3, hb3⟩
          refine wpP_pure rfl rfl rfl (fun _ => (x_fieldAddr Tryz.underlying154 rfl I4 rfl rfl)) ?_
          refine wpP_exs rfl rfl rfl (x_storeOF 2 (a' := (⟨true, true, true, gs, gb⟩ : MPg)) I4 rfl (h.p.mod0 (drw _)) rfl he3 rfl rfl rfl rfl hgi (by decide) rfl) ?_
          rintro w4 ⟨ho4, hc4, hs4⟩
          refine ⟨trivial, ?_⟩
          refine wpP_ex rfl rfl rfl (x_idx (i) Tryz.underlying117 I154 rfl (ho4.sl) rfl rfl (by first | rfl | omega) (by rw [List.length_set]; exact hil)) ?_
          rintro _ ⟨b5, o5, rfl, he5, hb5⟩
          refine wpP_pure rfl rfl rfl (fun _ => (x_fieldAddr Tryz.underlying154 rfl I9 rfl rfl)) ?_
          refine wpP_exs rfl rfl rfl (x_storeOF 4 (a' := (⟨true, true, true, gs, l⟩ : MPg)) I9 rfl ho4 rfl he5 rfl rfl rfl rfl (List.getElem?_set_self hil) (by decide) rfl) ?_
          rintro w6 ⟨ho6, hc6, hs6⟩
          refine ⟨trivial, ?_⟩
          refine wpP_nil (thenE_norm ?_)
          refine wpE_seq ?_
          refine wpE_region ?_
          refine wpL_value rfl x_assign ?_
          refine wpL_nil (thenE_norm ?_)
          refine wpE_ret (fin_ret ?_)
          rw [List.set_set] at ho6
          have hc06 : Chg (blkOf (.slice pp M.p.length pc)) w w6 := (show Chg _ w w4 from ((drw w).mono (fun x hx => by simp at hx)).tr hc4).tr hc6
          exact ⟨rfl, h.upP ho6 hc06, hc06⟩
  · skip
    refine wpL_value rfl (x_to (x_geq rfl rfl) (congrArg Value.bool (decide_eq_true (by omega)))) ?_
    refine wpL_value rfl (x_pick_f rfl) (wpL_value rfl x_move (wpL_no rfl rfl (wpL_no rfl rfl (wpL_no rfl rfl (wpL_no rfl rfl (wpL_no rfl rfl (wpL_no rfl rfl (wpL_no rfl rfl (wpL_no rfl rfl (wpL_no rfl rfl (wpL_value rfl (x_pick_t rfl) (wpL_value rfl x_move (wpL_no rfl rfl (wpL_no rfl rfl (wpL_no rfl rfl (wpL_no rfl rfl (wpL_no rfl rfl (wpL_no rfl rfl (wpL_no rfl rfl (wpL_no rfl rfl (wpL_no rfl rfl (wpL_value rfl (x_pick_t rfl) ?_))))))))))))))))))))))
    refine wpL_nil (thenE_norm ?_)
    refine wpE_cond_t (rfl) ?_
    refine wpE_seq ?_
    refine wpE_region ?_
    refine wpL_value rfl x_assign ?_
    refine wpL_nil (thenE_norm ?_)
    refine wpE_ret (thenE_ret (fin_ret ?_))
    have hr : writeM M i l = (M, 71) := if_neg (fun h => hil h.1)
    rw [hr]
    exact ⟨rfl, h, Chg.refl' _ _⟩
theorem mFree_ok (w : World) (mb : Nat) (pv ov : Value) (M : Mdl) (h : MAt w mb pv ov M) (hl : M.p.length ≤ 1000) (i : Nat) (hi : i ≤ 1000) :
    Ret Tryz.prog 91 #[.pointer (some ⟨mb, 0, none⟩), .int .i64 i] w fun v w' => v = .int .i64 (freeM M i).2 ∧ MAt w' mb pv ov (freeM M i).1 ∧ Chg (blkOf pv) w w' := by
  have hfm := h.p.form rfl
  obtain ⟨pp, pc, rfl⟩ := hfm
  refine enter [4] Tryz.func91 rfl rfl (Nat.le_of_ble_eq_true rfl) ?_
  refine wpE_seq ?_
  refine wpE_region ?_
  refine wpL_value rfl x_assign ?_
  refine wpL_nil (thenE_norm ?_)
  refine wpE_seq ?_
  refine wpE_seq ?_
  refine wpE_region ?_
  refine wpL_value rfl x_move ?_
  refine wpL_value rfl (x_to (x_lss rfl rfl) (congrArg Value.bool (decide_eq_false (by omega)))) ?_
  refine wpL_value rfl x_move (wpL_yes rfl (wpL_value rfl x_move (wpL_yes rfl (wpL_value rfl x_move (wpL_yes rfl (wpL_value rfl (x_nil rfl) (wpL_yes rfl (wpL_value rfl (x_fieldAddr Tryz.underlying119 rfl I117 rfl rfl) (wpL_yes rfl ?_)))))))))
  refine wpL_value rfl (x_load Tryz.underlying117 rfl rfl (h.blk.c (off := 0) rfl)) ?_
  refine wpL_yes rfl (wpL_value rfl (x_len_slice rfl Tryz.underlying117) (wpL_yes rfl ?_))
  by_cases hil : i < M.p.length
  · skip
    refine wpL_value rfl (x_to (x_geq rfl rfl) (congrArg Value.bool (decide_eq_false (by omega)))) ?_
    refine wpL_value rfl (x_pick_f rfl) (wpL_value rfl x_move (wpL_yes rfl (wpL_value rfl x_move (wpL_yes rfl (wpL_value rfl (x_nil rfl) (wpL_yes rfl (wpL_value rfl (x_fieldAddr Tryz.underlying119 rfl I117 rfl rfl) (wpL_yes rfl ?_))))))))
    refine wpL_value rfl (x_load Tryz.underlying117 rfl rfl (h.blk.c (off := 0) rfl)) ?_
    refine wpL_yes rfl (wpL_value rfl x_move (wpL_yes rfl ?_))
    refine wpL_ex rfl (x_idx (i) Tryz.underlying117 I154 rfl (h.p.sl) rfl rfl (by first | rfl | omega) (hil)) ?_
    rintro _ ⟨b1, o1, rfl, he1, hb1⟩
    refine wpL_yes rfl (wpL_value rfl (x_fieldAddr Tryz.underlying154 rfl I4 rfl rfl) (wpL_yes rfl ?_))
    have hat := h.p.sl.at he1 (M.at hil)
    have hg : ∃ g, g = M.get i := ⟨_, rfl⟩
    obtain ⟨g, hg⟩ := hg
    rw [← hg] at hat
    obtain ⟨gu, gf, gw, gs, gb⟩ := g
    cases gu
    · skip
      refine wpL_value rfl (x_load Tryz.underlying4 rfl rfl ((hat.c0 rfl : _ = some (.bool false)))) ?_
      refine wpL_yes rfl (wpL_value rfl (x_not rfl) (wpL_value rfl (x_pick_f rfl) ?_))
      refine wpL_nil (thenE_norm ?_)
      refine wpE_cond_t (rfl) ?_
      refine wpE_seq ?_
      refine wpE_region ?_
      refine wpL_value rfl x_assign ?_
      refine wpL_nil (thenE_norm ?_)
      refine wpE_ret (thenE_ret (fin_ret ?_))
      have hr : freeM M i = (M, 71) := if_neg (by rw [← hg]; simp)
      rw [hr]
      exact ⟨rfl, h, Chg.refl' _ _⟩
    · skip
      refine wpL_value rfl (x_load Tryz.underlying4 rfl rfl ((hat.c0 rfl : _ = some (.bool true)))) ?_
      refine wpL_yes rfl (wpL_value rfl (x_not rfl) (wpL_value rfl (x_pick_f rfl) ?_))
      refine wpL_nil (thenE_norm ?_)
      refine wpE_cond_f (rfl) ?_
      refine wpE_skip (thenE_norm ?_)
      refine wpE_seq ?_
      have hr : freeM M i = ({ M with p := M.p.set i ⟨false, false, false, gs, []⟩ }, 0) := by unfold freeM; rw [← hg, if_pos ⟨hil, rfl⟩]
      rw [hr]
      refine wpE_draw mixed (.pure 0 (.pure 1 (.pure 2 (.read 3 (.pure 4 (.pure 5 (.pure 6 (.pure 7 (.read 8 (.pure 9 (.pure 10 (.pure 11 (.read 12 (.pure 13 (.pure 14 (.eff 15 [] .nil)))))))))))))))) (by kernel_rfl) ?_
      refine wpP_pure rfl rfl rfl (fun _ => x_move) ?_
      refine wpP_pure rfl rfl rfl (fun _ => (x_nil rfl)) ?_
      refine wpP_pure rfl rfl rfl (fun _ => (x_fieldAddr Tryz.underlying119 rfl I117 rfl rfl)) ?_
      refine wpP_rd rfl rfl rfl Tryz.underlying117 rfl rfl (h.blk.c (off := 0) rfl) ?_
      refine wpP_pure rfl rfl rfl (fun _ => x_move) ?_
      refine wpP_pure rfl rfl rfl (fun _ => x_move) ?_
      refine wpP_pure rfl rfl rfl (fun _ => (x_nil rfl)) ?_
      refine wpP_pure rfl rfl rfl (fun _ => (x_fieldAddr Tryz.underlying119 rfl I117 rfl rfl)) ?_
      refine wpP_rd rfl rfl rfl Tryz.underlying117 rfl rfl (h.blk.c (off := 0) rfl) ?_
      refine wpP_pure rfl rfl rfl (fun _ => x_move) ?_
      refine wpP_ex rfl rfl rfl (x_idx (i) Tryz.underlying117 I154 rfl (h.p.sl) rfl rfl (by first | rfl | omega) (hil)) ?_
      rintro _ ⟨b2, o2, rfl, he2, hb2⟩
      refine wpP_pure rfl rfl rfl (fun _ => (x_fieldAddr Tryz.underlying154 rfl I4 rfl rfl)) ?_
      have hat2 := h.p.sl.at he2 (M.at hil)
      rw [← hg] at hat2
      refine wpP_rd rfl rfl rfl Tryz.underlying4 rfl rfl ((hat2.cell (i := 3) rfl : _ = some (.bool gs))) ?_
      refine wpP_pure rfl rfl rfl (fun _ => x_buildL Tryz.underlying154 I154 rfl (zs := [.bool false, .bool false, .bool false, .bool false, str []]) rfl rfl (fill1 rfl rfl rfl (Nat.le_of_ble_eq_true rfl) (fill0 (cs' := Flat.enc (⟨false, false, false, gs, []⟩ : MPg)) rfl))) ?_
      refine wpP_ex rfl rfl rfl (x_idx (i) Tryz.underlying117 I154 rfl (h.p.sl) rfl rfl (by first | rfl | omega) (hil)) ?_
      rintro _ ⟨b3, o3, rfl, he3, hb3⟩
      refine wpP_exs rfl rfl rfl (x_storeO (a := (⟨false, false, false, gs, []⟩ : MPg)) I154 rfl (h.p.mod0 (drw _)) rfl (he3) rfl rfl (hil)) ?_
      rintro w4 ⟨ho4, hc4, hs4⟩
      refine ⟨trivial, ?_⟩
      refine wpP_nil (thenE_norm ?_)
      refine wpE_seq ?_
      refine wpE_region ?_
      refine wpL_value rfl x_assign ?_
      refine wpL_nil (thenE_norm ?_)
      refine wpE_ret (fin_ret ?_)
      have hc04 : Chg (blkOf (.slice pp M.p.length pc)) w w4 := ((drw w).mono (fun x hx => by simp at hx)).tr hc4
      exact ⟨rfl, h.upP ho4 hc04, hc04⟩
  · skip
    refine wpL_value rfl (x_to (x_geq rfl rfl) (congrArg Value.bool (decide_eq_true (by omega)))) ?_
    refine wpL_value rfl (x_pick_f rfl) (wpL_value rfl x_move (wpL_no rfl rfl (wpL_no rfl rfl (wpL_no rfl rfl (wpL_no rfl rfl (wpL_no rfl rfl (wpL_no rfl rfl (wpL_no rfl rfl (wpL_no rfl rfl (wpL_no rfl rfl (wpL_value rfl (x_pick_t rfl) ?_)))))))))))
    refine wpL_nil (thenE_norm ?_)
    refine wpE_cond_t (rfl) ?_
    refine wpE_seq ?_
    refine wpE_region ?_
    refine wpL_value rfl x_assign ?_
    refine wpL_nil (thenE_norm ?_)
    refine wpE_ret (thenE_ret (fin_ret ?_))
    have hr : freeM M i = (M, 71) := if_neg (fun h => hil h.1)
    rw [hr]
    exact ⟨rfl, h, Chg.refl' _ _⟩
end Go.Proofs.YtenhmbhflgnhlaaGreat

