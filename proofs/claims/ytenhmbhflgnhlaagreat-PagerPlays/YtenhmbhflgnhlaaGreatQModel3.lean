/- every row of calls, crashes, the power going within a commit: what each tells -/
import Derived.Test.YtenhmbhflgnhlaaGreatQModel2
namespace Go.Proofs.YtenhmbhflgnhlaaGreat
open Go Go.Sac
set_option maxRecDepth 100000
set_option maxHeartbeats 4000000
theorem mUndo_ok (w : World) (mb : Nat) (pv ov : Value) (M : Mdl) (h : MAt w mb pv ov M) (hl : M.old.length ≤ 1000) :
    Ret Tryz.prog 45 #[.pointer (some ⟨mb, 0, none⟩)] w fun _ w' => ∃ pv', MAt w' mb pv' ov M.undo ∧ (∀ x ∈ blkOf pv', w.heap.size ≤ x) ∧ Chg [mb] w w' := by
  refine enter [] Tryz.func45 rfl rfl (Nat.le_of_ble_eq_true rfl) ?_
  refine wpE_draw mixed (.pure 0 (.pure 1 (.pure 2 (.pure 3 (.pure 4 (.pure 5 (.read 6 (.pure 8 (.pure 9 (.pure 10 (.read 11 (.pure 12 (.pure 13 (.pure 14 (.read 15 (.eff 7 [11, 15] (.pure 16 (.pure 17 (.eff 18 [] (.pure 19 (.pure 20 (.eff 21 [] (.pure 22 (.pure 23 (.eff 24 [] .nil))))))))))))))))))))))))) (by kernel_rfl) ?_
  refine wpP_pure rfl rfl rfl (fun _ => x_move) ?_
  refine wpP_pure rfl rfl rfl (fun _ => x_move) ?_
  refine wpP_pure rfl rfl rfl (fun _ => x_move) ?_
  refine wpP_pure rfl rfl rfl (fun _ => x_move) ?_
  refine wpP_pure rfl rfl rfl (fun _ => (x_nil rfl)) ?_
  refine wpP_pure rfl rfl rfl (fun _ => (x_fieldAddr Tryz.underlying119 rfl I117 rfl rfl)) ?_
  refine wpP_rd rfl rfl rfl Tryz.underlying117 rfl rfl (h.blk.c (off := 1) rfl) ?_
  refine wpP_pure rfl rfl rfl (fun _ => x_move) ?_
  refine wpP_pure rfl rfl rfl (fun _ => (x_nil rfl)) ?_
  refine wpP_pure rfl rfl rfl (fun _ => (x_fieldAddr Tryz.underlying119 rfl I34 rfl rfl)) ?_
  refine wpP_rd rfl rfl rfl Tryz.underlying34 rfl rfl (h.blk.c (off := 3) rfl) ?_
  refine wpP_pure rfl rfl rfl (fun _ => x_move) ?_
  refine wpP_pure rfl rfl rfl (fun _ => (x_nil rfl)) ?_
  refine wpP_pure rfl rfl rfl (fun _ => (x_fieldAddr Tryz.underlying119 rfl I9 rfl rfl)) ?_
  refine wpP_rd rfl rfl rfl Tryz.underlying9 rfl rfl (h.blk.c (off := 5) rfl) ?_
  refine wpP_exw rfl rfl rfl (x_app Tryz.underlying117 Tryz.underlying117 I154 (.inr ⟨_, rfl⟩) rfl rfl rfl (by decide) (Own.nil _) ((h.old.mod0 (drw _)).sl.src) rfl rfl (by simp; omega)) ?_
  rintro v7 w7 h7
  have hc7 : Chg [] w w7 := (drw w).tr h7.mod
  have hB7 : Blk w7 mb (mdC M pv ov) := h.blk.chg hc7 (by simp)
  have ho7 : Own w7 v7 M.old := h7.own
  have hf7 := ho7.form rfl
  obtain ⟨p7, c7, hf7⟩ := hf7
  subst hf7
  have hi7 : ∀ x ∈ blkOf (.slice p7 M.old.length c7), w.heap.size ≤ x := fun x hx => h7.inn.ge x hx
  refine ⟨⟨hB7.c (off := 3) rfl, hB7.c (off := 5) rfl, trivial⟩, ?_⟩
  have hlt := h.blk.lt
  have hn7 : mb ∉ blkOf (.slice p7 M.old.length c7) := fun hx => by have := hi7 _ hx; omega
  have hov := h.old.sl.lt
  refine wpP_pure rfl rfl rfl (fun _ => (x_nil rfl)) ?_
  refine wpP_pure rfl rfl rfl (fun _ => (x_fieldAddr Tryz.underlying119 rfl I117 rfl rfl)) ?_
  refine wpP_exs rfl rfl rfl (x_storeB1 I117 rfl rfl (hB7) rfl rfl ((by decide : 0 < 6)) rfl (rfl)) ?_
  rintro w8 ⟨hB8, hc8, hs8⟩
  refine ⟨trivial, ?_⟩
  refine wpP_pure rfl rfl rfl (fun _ => (x_nil rfl)) ?_
  refine wpP_pure rfl rfl rfl (fun _ => (x_fieldAddr Tryz.underlying119 rfl I34 rfl rfl)) ?_
  refine wpP_exs rfl rfl rfl (x_storeB1 I34 rfl rfl (hB8) rfl rfl ((by decide : 2 < 6)) rfl (rfl)) ?_
  rintro w9 ⟨hB9, hc9, hs9⟩
  refine ⟨trivial, ?_⟩
  refine wpP_pure rfl rfl rfl (fun _ => (x_nil rfl)) ?_
  refine wpP_pure rfl rfl rfl (fun _ => (x_fieldAddr Tryz.underlying119 rfl I9 rfl rfl)) ?_
  refine wpP_exs rfl rfl rfl (x_storeB1 I9 rfl rfl (hB9) rfl rfl ((by decide : 4 < 6)) rfl (rfl)) ?_
  rintro w10 ⟨hB10, hc10, hs10⟩
  refine ⟨trivial, ?_⟩
  refine wpP_nil (fin_end ?_)
  have hB10 : Blk w10 mb (mdC M.undo (.slice p7 M.old.length c7) ov) := hB10
  have hc : Chg [mb] w7 w10 := (hc8.tr hc9).tr hc10
  have hne : ∀ x ∈ blkOf (.slice p7 M.old.length c7), x ∉ [mb] := fun x hx hh => by simp at hh; subst hh; exact hn7 hx
  have hno : ∀ x ∈ blkOf ov, x ∉ [mb] := fun x hx hh => by simp at hh; subst hh; exact h.no hx
  exact ⟨.slice p7 M.old.length c7, ⟨hB10, ho7.mod hc hne, (h.old.mod0 hc7).mod hc hno, hn7, h.no, fun x hx hh => by have := hi7 x hx; have := hov x hh; omega⟩, hi7, hc7.mono (fun x hx => by simp at hx) |>.tr hc⟩
theorem mCopy_ok (w : World) (mb : Nat) (pv ov : Value) (M : Mdl) (h : MAt w mb pv ov M) (hl : M.old.length ≤ 1000) (hl2 : M.p.length ≤ 1000) :
    Ret Tryz.prog 41 #[.pointer (some ⟨mb, 0, none⟩)] w fun v w' => ∃ nb pv' ov', v = .pointer (some ⟨nb, 0, none⟩) ∧ MAt w' nb pv' ov' M ∧ (∀ x ∈ MF nb pv' ov', w.heap.size ≤ x) ∧ Chg [] w w' := by
  refine enter [2] Tryz.func41 rfl rfl (Nat.le_of_ble_eq_true rfl) ?_
  refine wpE_seq ?_
  refine wpE_region ?_
  refine wpL_value rfl x_assign ?_
  refine wpL_nil (thenE_norm ?_)
  refine wpE_seq ?_
  refine wpE_region ?_
  refine wpL_value rfl x_move (wpL_value rfl (x_nil rfl) ?_)
  refine wpL_value rfl (x_loadBA (mdC M pv ov) Tryz.underlying119 rfl I119 rfl h.blk rfl rfl) ?_
  refine wpL_exw rfl (x_allocB (l := mdC (Mdl.zero 0) (.slice none 0 0) (.slice none 0 0)) I119 rfl rfl) ?_
  rintro _ w1 ⟨nb, rfl, hn1, hB1, hc1, hl1⟩
  have hmc : ∀ q ∈ mdC M pv ov, isCell q = true := fun q hq => by
    have hp := h.p.form rfl
    have ho := h.old.form rfl
    obtain ⟨p1, c1, rfl⟩ := hp
    obtain ⟨p2, c2, rfl⟩ := ho
    simp only [mdC, List.mem_cons, List.not_mem_nil, or_false] at hq
    rcases hq with rfl | rfl | rfl | rfl | rfl | rfl <;> rfl
  refine wpL_exs rfl (x_storeB (l := mdC M pv ov) I119 rfl rfl hB1 rfl rfl (by decide : 0 + 6 ≤ 6) hmc (spl_all rfl)) ?_
  rintro w2 ⟨hB2, hc2, hs2⟩
  refine wpL_nil (thenE_norm ?_)
  refine wpE_seq ?_
  refine wpE_region ?_
  refine wpL_value rfl x_move (wpL_value rfl (x_nil rfl) (wpL_value rfl (x_fieldAddr Tryz.underlying119 rfl I117 rfl rfl) ?_))
  have hc02 : Chg [] w w2 := hc1.t1 hc2 hn1
  refine wpL_value rfl (x_load Tryz.underlying117 rfl rfl ((h.blk.chg hc02 (by simp)).c (off := 0) rfl)) ?_
  refine wpL_append Tryz.underlying117 Tryz.underlying117 I154 (.inr ⟨_, rfl⟩) rfl rfl rfl (by decide) rfl (Own.nil _) ((h.p.mod0 hc02).sl.src) rfl rfl (by simp; omega) ?_
  rintro v3 w3 h3
  refine wpL_value rfl (x_fieldAddr Tryz.underlying119 rfl I117 rfl rfl) ?_
  have hB3 : Blk w3 nb (mdC M pv ov) := hB2.chg h3.mod (by exact List.not_mem_nil)
  have hc03 : Chg [] w w3 := hc02.tr h3.mod
  have ho3 : Own w3 v3 M.p := h3.own
  have hf3 := ho3.form rfl
  obtain ⟨p3, c3, hf3⟩ := hf3
  subst hf3
  refine wpL_exs rfl (x_storeB1 I117 rfl rfl (hB3) rfl rfl ((by decide : 0 < 6)) rfl (rfl)) ?_
  rintro w4 ⟨hB4, hc4, hs4⟩
  refine wpL_nil (thenE_norm ?_)
  refine wpE_seq ?_
  refine wpE_region ?_
  refine wpL_value rfl x_move (wpL_value rfl (x_nil rfl) (wpL_value rfl (x_fieldAddr Tryz.underlying119 rfl I117 rfl rfl) ?_))
  have hc04 : Chg [] w w4 := hc03.t1 hc4 hn1
  refine wpL_value rfl (x_load Tryz.underlying117 rfl rfl ((h.blk.chg hc04 (by simp)).c (off := 1) rfl)) ?_
  refine wpL_append Tryz.underlying117 Tryz.underlying117 I154 (.inr ⟨_, rfl⟩) rfl rfl rfl (by decide) rfl (Own.nil _) ((h.old.mod0 hc04).sl.src) rfl rfl (by simp; omega) ?_
  rintro v5 w5 h5
  refine wpL_value rfl (x_fieldAddr Tryz.underlying119 rfl I117 rfl rfl) ?_
  have hB5 := hB4.chg h5.mod (by exact List.not_mem_nil)
  have hc05 : Chg [] w w5 := hc04.tr h5.mod
  have ho5 : Own w5 v5 M.old := h5.own
  have hf5 := ho5.form rfl
  obtain ⟨p5, c5, hf5⟩ := hf5
  subst hf5
  refine wpL_exs rfl (x_storeB1 I117 rfl rfl (hB5) rfl rfl ((by decide : 1 < 6)) rfl (rfl)) ?_
  rintro w6 ⟨hB6, hc6, hs6⟩
  refine wpL_nil (thenE_norm ?_)
  refine wpE_seq ?_
  refine wpE_region ?_
  refine wpL_value rfl x_assign ?_
  refine wpL_nil (thenE_norm ?_)
  refine wpE_ret (fin_ret ?_)
  have hB6 : Blk w6 nb (mdC M (.slice p3 M.p.length c3) (.slice p5 M.old.length c5)) := hB6
  have k1 : ∀ x ∈ blkOf (.slice p3 M.p.length c3), w2.heap.size ≤ x := fun x hx => h3.inn.ge x hx
  have k2 : ∀ x ∈ blkOf (.slice p5 M.old.length c5), w4.heap.size ≤ x := fun x hx => h5.inn.ge x hx
  have k3 := ho3.sl.lt
  have hs24 : w3.heap.size ≤ w4.heap.size := hc4.1
  have hk2 : w.heap.size ≤ w2.heap.size := hc02.1
  have hk4 : w.heap.size ≤ w4.heap.size := hc04.1
  have hn3 : nb ∉ blkOf (.slice p3 M.p.length c3) := fun hx => by have := k1 _ hx; omega
  have hn5 : nb ∉ blkOf (.slice p5 M.old.length c5) := fun hx => by have := k2 _ hx; have := hB3.lt; omega
  have ho36 : Own w6 (.slice p3 M.p.length c3) M.p := ((ho3.mod hc4 (fun x hx hh => by simp at hh; subst hh; exact hn3 hx)).mod h5.mod (fun x hx hh => by simp [blkOf] at hh)).mod hc6 (fun x hx hh => by simp at hh; subst hh; exact hn3 hx)
  have ho56 : Own w6 (.slice p5 M.old.length c5) M.old := ho5.mod hc6 (fun x hx hh => by simp at hh; subst hh; exact hn5 hx)
  refine ⟨nb, _, _, rfl, ⟨hB6, ho36, ho56, hn3, hn5, fun x hx hh => by have := k3 x hx; have := k2 x hh; omega⟩, fun x hx => ?_, hc05.t1 hc6 hn1⟩
  simp only [MF, List.mem_cons, List.mem_append] at hx
  rcases hx with rfl | hx | hx
  · exact hn1
  · have := k1 x hx; omega
  · have := k2 x hx; omega
theorem mCommit_ok (w : World) (mb : Nat) (pv ov : Value) (M : Mdl) (h : MAt w mb pv ov M) (hl : M.p.length ≤ 1000) (root : UInt32) (txt : List UInt8) :
    Ret Tryz.prog 43 #[.pointer (some ⟨mb, 0, none⟩), .int .u32 root.toNat, str txt] w fun v w' => (∃ M' e ov', CommitM M root txt M' e ∧ v = .int .i64 e ∧ MAt w' mb pv ov' M' ∧ (∀ x ∈ blkOf ov', x ∈ blkOf ov ∨ w.heap.size ≤ x)) ∧ Chg (mb :: blkOf pv) w w' := by
  have hfm := h.p.form rfl
  obtain ⟨pp, pc, rfl⟩ := hfm
  refine enter [6] Tryz.func43 rfl rfl (Nat.le_of_ble_eq_true rfl) ?_
  refine wpE_seq ?_
  refine wpE_region ?_
  refine wpL_value rfl x_assign ?_
  refine wpL_nil (thenE_norm ?_)
  refine wpE_seq ?_
  refine wpE_seq ?_
  refine wpE_region ?_
  refine wpL_value rfl x_move (wpL_value rfl (x_lenS rfl Tryz.underlying9) (wpL_value rfl (x_gtr rfl rfl) ?_))
  refine wpL_nil (thenE_norm ?_)
  refine wpE_cond_d rfl (fun h200 => ?_) (fun h200 => ?_)
  · skip
    refine wpE_seq ?_
    refine wpE_region ?_
    refine wpL_value rfl x_assign ?_
    refine wpL_nil (thenE_norm ?_)
    refine wpE_ret (thenE_ret (fin_ret ?_))
    exact ⟨⟨M, 11, ov, .inl ⟨by omega, rfl, rfl⟩, rfl, h, fun x hx => .inl hx⟩, Chg.refl' _ _⟩
  · skip
    refine wpE_skip (thenE_norm ?_)
    refine wpE_seq ?_
    refine wpE_seq ?_
    refine wpE_region ?_
    refine wpL_value rfl x_assign ?_
    refine wpL_nil (thenE_norm ?_)
    refine wpE_block ?_
    have h200 : txt.length ≤ 200 := by omega
    refine wpE_loopF [0, 1, 2, 7] (fun n vs w' => ∃ i : Nat, vs = [.pointer (some ⟨mb, 0, none⟩), .int .u32 root.toNat, str txt, .int .i64 i] ∧ i + n = M.p.length ∧ (∀ j, j < i → M.bad j = false) ∧ w' = w) (M.p.length) ?_ ?_
    · exact ⟨0, rfl, by omega, fun j hj => by omega, rfl⟩
    · rintro n vs J w1 ⟨i, rfl, hi, hbad, rfl⟩
      refine wpE_seq ?_
      refine wpE_seq ?_
      refine wpE_region ?_
      refine wpL_value rfl x_move (wpL_value rfl x_move (wpL_value rfl (x_nil rfl) (wpL_value rfl (x_fieldAddr Tryz.underlying119 rfl I117 rfl rfl) ?_)))
      refine wpL_value rfl (x_load Tryz.underlying117 rfl rfl (h.blk.c (off := 0) rfl)) ?_
      refine wpL_value rfl (x_len_slice rfl Tryz.underlying117) (wpL_value rfl (x_lss rfl rfl) ?_)
      refine wpL_nil (thenE_norm ?_)
      refine wpE_cond_d rfl (fun hlt => ?_) (fun hlt => ?_)
      · skip
        refine wpE_skip (thenE_norm ?_)
        refine wpE_seq ?_
        refine wpE_block ?_
        refine wpE_seq ?_
        refine wpE_region ?_
        refine wpL_value rfl x_move (wpL_value rfl (x_nil rfl) (wpL_value rfl (x_fieldAddr Tryz.underlying119 rfl I117 rfl rfl) ?_))
        have hob1 : ∃ q, n = q + 1 := ⟨n - 1, by omega⟩
        obtain ⟨n, rfl⟩ := hob1
        have hil : i < M.p.length := by omega
        refine wpL_value rfl (x_load Tryz.underlying117 rfl rfl (h.blk.c (off := 0) rfl)) ?_
        refine wpL_value rfl x_move ?_
        refine wpL_ex rfl (x_idx (i) Tryz.underlying117 I154 rfl (h.p.sl) rfl rfl (by first | rfl | omega) (hil)) ?_
        rintro _ ⟨b1, o1, rfl, he1, hb1⟩
        refine wpL_value rfl (x_fieldAddr Tryz.underlying154 rfl I4 rfl rfl) ?_
        have hat := h.p.sl.at he1 (M.at hil)
        have hg : ∃ g, g = M.get i := ⟨_, rfl⟩
        obtain ⟨g, hg⟩ := hg
        rw [← hg] at hat
        obtain ⟨gu, gf, gw, gs, gb⟩ := g
        cases gf
        · skip
          refine wpL_value rfl (x_load Tryz.underlying4 rfl rfl ((hat.cell (i := 1) rfl : _ = some (.bool false)))) ?_
          refine wpL_value rfl x_move ?_
          refine wpL_no rfl rfl (wpL_no rfl rfl (wpL_no rfl rfl (wpL_no rfl rfl (wpL_no rfl rfl (wpL_no rfl rfl (wpL_no rfl rfl (wpL_no rfl rfl (wpL_no rfl rfl (wpL_value rfl (x_pick_f rfl) ?_)))))))))
          refine wpL_nil (thenE_norm ?_)
          refine wpE_cond_f (rfl) ?_
          refine wpE_skip (blockE_norm (thenE_norm ?_))
          refine wpE_region ?_
          refine wpL_value rfl x_move (wpL_value rfl (x_add64 rfl rfl (by omega)) (wpL_value rfl x_assign ?_))
          refine wpL_nil (thenE_norm ?_)
          have hno : M.bad i = false := by unfold Mdl.bad; rw [← hg]; rfl
          refine Exists.intro (n) (And.intro (by omega) ?_)
          refine ⟨i + 1, rfl, by omega, fun j hj => ?_, rfl⟩
          rcases (by omega : j < i ∨ j = i) with hji | hji
          · exact hbad j hji
          · rw [hji]; exact hno
        · skip
          refine wpL_value rfl (x_load Tryz.underlying4 rfl rfl ((hat.cell (i := 1) rfl : _ = some (.bool true)))) ?_
          refine wpL_value rfl x_move ?_
          refine wpL_yes rfl (wpL_value rfl x_move (wpL_yes rfl (wpL_value rfl (x_nil rfl) (wpL_yes rfl (wpL_value rfl (x_fieldAddr Tryz.underlying119 rfl I117 rfl rfl) (wpL_yes rfl ?_))))))
          refine wpL_value rfl (x_load Tryz.underlying117 rfl rfl (h.blk.c (off := 0) rfl)) ?_
          refine wpL_yes rfl (wpL_value rfl x_move (wpL_yes rfl ?_))
          refine wpL_ex rfl (x_idx (i) Tryz.underlying117 I154 rfl (h.p.sl) rfl rfl (by first | rfl | omega) (hil)) ?_
          rintro _ ⟨b2, o2, rfl, he2, hb2⟩
          refine wpL_yes rfl (wpL_value rfl (x_fieldAddr Tryz.underlying154 rfl I4 rfl rfl) (wpL_yes rfl ?_))
          have hat2 := h.p.sl.at he2 (M.at hil)
          rw [← hg] at hat2
          cases gw
          · skip
            refine wpL_value rfl (x_load Tryz.underlying4 rfl rfl ((hat2.cell (i := 2) rfl : _ = some (.bool false)))) ?_
            refine wpL_yes rfl (wpL_value rfl (x_not rfl) (wpL_value rfl (x_pick_t rfl) ?_))
            refine wpL_nil (thenE_norm ?_)
            refine wpE_cond_t (rfl) ?_
            refine wpE_seq ?_
            refine wpE_region ?_
            refine wpL_value rfl x_assign ?_
            refine wpL_nil (thenE_norm ?_)
            refine wpE_ret (blockE_ret (thenE_ret (thenE_ret (blockE_ret (thenE_ret (fin_ret ?_))))))
            exact ⟨⟨M, 71, ov, .inr (.inl ⟨h200, ⟨i, hil, by unfold Mdl.bad; rw [← hg]; rfl⟩, rfl, rfl⟩), rfl, h, fun x hx => .inl hx⟩, Chg.refl' _ _⟩
          · skip
            refine wpL_value rfl (x_load Tryz.underlying4 rfl rfl ((hat2.cell (i := 2) rfl : _ = some (.bool true)))) ?_
            refine wpL_yes rfl (wpL_value rfl (x_not rfl) (wpL_value rfl (x_pick_t rfl) ?_))
            refine wpL_nil (thenE_norm ?_)
            refine wpE_cond_f (rfl) ?_
            refine wpE_skip (blockE_norm (thenE_norm ?_))
            refine wpE_region ?_
            refine wpL_value rfl x_move (wpL_value rfl (x_add64 rfl rfl (by omega)) (wpL_value rfl x_assign ?_))
            refine wpL_nil (thenE_norm ?_)
            have hno : M.bad i = false := by unfold Mdl.bad; rw [← hg]; rfl
            refine Exists.intro (n) (And.intro (by omega) ?_)
            refine ⟨i + 1, rfl, by omega, fun j hj => ?_, rfl⟩
            rcases (by omega : j < i ∨ j = i) with hji | hji
            · exact hbad j hji
            · rw [hji]; exact hno
      · skip
        refine wpE_exit (thenE_exit (thenE_exit (blockE_exit (thenE_norm ?_))))
        refine wpE_seq ?_
        refine wpE_seq ?_
        refine wpE_region ?_
        refine wpL_value rfl x_assign ?_
        refine wpL_nil (thenE_norm ?_)
        refine wpE_block ?_
        have hbad : ∀ j, j < M.p.length → M.bad j = false := fun j hj => hbad j (by omega)
        refine wpE_loopF [0, 1, 2, 8] (fun n vs w' => ∃ i : Nat, vs = [.pointer (some ⟨mb, 0, none⟩), .int .u32 root.toNat, str txt, .int .i64 i] ∧ i + n = M.p.length ∧ MAt w' mb (.slice pp M.p.length pc) ov { M with p := (M.p.map cmP).take i ++ M.p.drop i } ∧ Chg (blkOf (.slice pp M.p.length pc)) w1 w') (M.p.length) ?_ ?_
        · exact ⟨0, rfl, by omega, by simpa using h, Chg.refl' _ _⟩
        · rintro n vs J2 w2 ⟨i2, rfl, hi2, h2, hc2⟩
          refine wpE_seq ?_
          refine wpE_seq ?_
          refine wpE_region ?_
          refine wpL_value rfl x_move (wpL_value rfl x_move (wpL_value rfl (x_nil rfl) (wpL_value rfl (x_fieldAddr Tryz.underlying119 rfl I117 rfl rfl) ?_)))
          refine wpL_value rfl (x_load Tryz.underlying117 rfl rfl (h2.blk.c (off := 0) rfl)) ?_
          refine wpL_value rfl (x_len_slice rfl Tryz.underlying117) (wpL_value rfl (x_lss rfl rfl) ?_)
          refine wpL_nil (thenE_norm ?_)
          refine wpE_cond_d rfl (fun hlt2 => ?_) (fun hlt2 => ?_)
          · skip
            refine wpE_skip (thenE_norm ?_)
            refine wpE_seq ?_
            refine wpE_block ?_
            have hob2 : ∃ q, n = q + 1 := ⟨n - 1, by omega⟩
            obtain ⟨n, rfl⟩ := hob2
            have hil : i2 < M.p.length := by omega
            have hgi := mapTake_get hil
            have hln := mapTake_len (l := M.p) (Nat.le_of_lt hil)
            have hms := mapTake_set hil (cmP (M.p.getD i2 pg0))
            rw [mapTake_step hil] at hms
            have hp2 : Own w2 (.slice pp M.p.length pc) ((M.p.map cmP).take i2 ++ M.p.drop i2) := h2.p
            have hob3 : ∃ g, g = M.p.getD i2 pg0 := ⟨_, rfl⟩
            obtain ⟨g, hg⟩ := hob3
            rw [← hg] at hgi hms
            obtain ⟨gu, gf, gw, gs, gb⟩ := g
            refine wpE_draw mixed (.pure 0 (.pure 1 (.pure 2 (.read 3 (.pure 4 (.pure 5 (.pure 6 (.pure 7 (.read 8 (.pure 9 (.pure 10 (.pure 11 (.pure 12 (.read 13 (.pure 14 (.pure 15 (.pure 16 (.read 17 (.pure 18 (.pure 19 (.eff 20 [] (.pure 21 (.pure 22 (.eff 23 [] .nil)))))))))))))))))))))))) (by kernel_rfl) ?_
            refine wpP_pure rfl rfl rfl (fun _ => x_move) ?_
            refine wpP_pure rfl rfl rfl (fun _ => (x_nil rfl)) ?_
            refine wpP_pure rfl rfl rfl (fun _ => (x_fieldAddr Tryz.underlying119 rfl I117 rfl rfl)) ?_
            refine wpP_rd rfl rfl rfl Tryz.underlying117 rfl rfl (h2.blk.c (off := 0) rfl) ?_
            refine wpP_pure rfl rfl rfl (fun _ => x_move) ?_
            refine wpP_pure rfl rfl rfl (fun _ => x_move) ?_
            refine wpP_pure rfl rfl rfl (fun _ => (x_nil rfl)) ?_
            refine wpP_pure rfl rfl rfl (fun _ => (x_fieldAddr Tryz.underlying119 rfl I117 rfl rfl)) ?_
            refine wpP_rd rfl rfl rfl Tryz.underlying117 rfl rfl (h2.blk.c (off := 0) rfl) ?_
            refine wpP_pure rfl rfl rfl (fun _ => x_move) ?_
            refine wpP_pure rfl rfl rfl (fun _ => x_move) ?_
            refine wpP_pure rfl rfl rfl (fun _ => (x_nil rfl)) ?_
            refine wpP_pure rfl rfl rfl (fun _ => (x_fieldAddr Tryz.underlying119 rfl I117 rfl rfl)) ?_
            refine wpP_rd rfl rfl rfl Tryz.underlying117 rfl rfl (h2.blk.c (off := 0) rfl) ?_
            refine wpP_pure rfl rfl rfl (fun _ => x_move) ?_
            refine wpP_ex rfl rfl rfl (x_idx (i2) Tryz.underlying117 I154 rfl (hp2.sl) rfl rfl (by first | rfl | omega) (by rw [hln]; exact hil)) ?_
            rintro _ ⟨b3, o3, rfl, he3, hb3⟩
            refine wpP_pure rfl rfl rfl (fun _ => (x_fieldAddr Tryz.underlying154 rfl I4 rfl rfl)) ?_
            have hat3 := hp2.sl.at he3 hgi
            refine wpP_rd rfl rfl rfl Tryz.underlying4 rfl rfl ((hat3.c0 rfl : _ = some (.bool gu))) ?_
            refine wpP_ex rfl rfl rfl (x_idx (i2) Tryz.underlying117 I154 rfl (hp2.sl) rfl rfl (by first | rfl | omega) (by rw [hln]; exact hil)) ?_
            rintro _ ⟨b4, o4, rfl, he4, hb4⟩
            refine wpP_pure rfl rfl rfl (fun _ => (x_fieldAddr Tryz.underlying154 rfl I4 rfl rfl)) ?_
            refine wpP_exs rfl rfl rfl (x_storeOF 1 (a' := (⟨gu, false, gw, gs, gb⟩ : MPg)) I4 rfl (hp2.mod0 (drw _)) rfl he4 rfl rfl rfl rfl hgi (by decide) rfl) ?_
            rintro w5 ⟨ho5, hc5, hs5⟩
            refine ⟨trivial, ?_⟩
            refine wpP_ex rfl rfl rfl (x_idx (i2) Tryz.underlying117 I154 rfl (ho5.sl) rfl rfl (by first | rfl | omega) (by rw [List.length_set, hln]; exact hil)) ?_
            rintro _ ⟨b6, o6, rfl, he6, hb6⟩
            refine wpP_pure rfl rfl rfl (fun _ => (x_fieldAddr Tryz.underlying154 rfl I4 rfl rfl)) ?_
            refine wpP_exs rfl rfl rfl (x_storeOF 3 (a' := (⟨gu, false, gw, gu, gb⟩ : MPg)) I4 rfl ho5 rfl he6 rfl rfl rfl rfl (List.getElem?_set_self (by rw [hln]; exact hil)) (by decide) rfl) ?_
            rintro w7 ⟨ho7, hc7, hs7⟩
            refine ⟨trivial, ?_⟩
            refine wpP_nil (blockE_norm (thenE_norm ?_))
            refine wpE_region ?_
            refine wpL_value rfl x_move (wpL_value rfl (x_add64 rfl rfl (by omega)) (wpL_value rfl x_assign ?_))
            refine wpL_nil (thenE_norm ?_)
            have ho7 : Own w7 (.slice pp M.p.length pc) ((M.p.map cmP).take (i2 + 1) ++ M.p.drop (i2 + 1)) := by
              rw [List.set_set] at ho7
              rw [← hms]
              exact ho7
            have hc27 : Chg (blkOf (.slice pp M.p.length pc)) w2 w7 := (show Chg _ w2 w5 from ((drw w2).mono (fun x hx => by simp at hx)).tr hc5).tr hc7
            refine Exists.intro (n) (And.intro (by omega) ?_)
            exact ⟨i2 + 1, rfl, by omega, h2.upP ho7 hc27, hc2.tr hc27⟩
          · skip
            refine wpE_exit (thenE_exit (thenE_exit (blockE_exit (thenE_norm ?_))))
            refine wpE_seq ?_
            refine wpE_region ?_
            refine wpL_value rfl x_move (wpL_value rfl x_move (wpL_value rfl x_move (wpL_value rfl x_move (wpL_value rfl (x_nil rfl) (wpL_value rfl (x_fieldAddr Tryz.underlying119 rfl I34 rfl rfl) ?_)))))
            have hi3 : i2 = M.p.length := by omega
            rw [hi3] at h2
            have e9 : (M.p.map cmP).take M.p.length ++ M.p.drop M.p.length = M.p.map cmP := by rw [List.drop_length, List.append_nil, List.take_of_length_le (by rw [List.length_map]; exact Nat.le_refl _)]
            rw [e9] at h2
            refine wpL_exs rfl (x_storeB1 I34 rfl rfl (h2.blk) rfl rfl ((by decide : 2 < 6)) rfl (rfl)) ?_
            rintro w3 ⟨hB3, hc3, hs3⟩
            refine wpL_value rfl (x_nil rfl) (wpL_value rfl (x_fieldAddr Tryz.underlying119 rfl I9 rfl rfl) ?_)
            refine wpL_exs rfl (x_storeB1 I9 rfl rfl (hB3) rfl rfl ((by decide : 4 < 6)) rfl (rfl)) ?_
            rintro w4 ⟨hB4, hc4, hs4⟩
            refine wpL_nil (thenE_norm ?_)
            refine wpE_seq ?_
            refine wpE_region ?_
            refine wpL_value rfl x_move (wpL_value rfl x_move (wpL_value rfl x_move (wpL_value rfl x_move (wpL_value rfl (x_nil rfl) (wpL_value rfl (x_fieldAddr Tryz.underlying119 rfl I117 rfl rfl) ?_)))))
            have hB4 : Blk w4 mb (mdC ⟨M.p.map cmP, M.old, root, M.oldRoot, txt, M.oldTxt⟩ (.slice pp M.p.length pc) ov) := hB4
            have hc24 : Chg [mb] w2 w4 := hc3.tr hc4
            have hnp := h2.np
            have hno := h2.no
            have hap := h2.apart
            have hp4 : Own w4 (.slice pp M.p.length pc) (M.p.map cmP) := h2.p.mod hc24 (fun x hx hh => by simp at hh; subst hh; exact hnp hx)
            refine wpL_value rfl (x_load Tryz.underlying117 rfl rfl (hB4.c (off := 0) rfl)) ?_
            refine wpL_append Tryz.underlying117 Tryz.underlying117 I154 (.inr ⟨_, rfl⟩) rfl rfl rfl (by decide) rfl (Own.nil _) (hp4.sl.src) rfl rfl (by simp; omega) ?_
            rintro v5 w5 h5
            refine wpL_value rfl x_move (wpL_value rfl x_move (wpL_value rfl (x_nil rfl) (wpL_value rfl (x_fieldAddr Tryz.underlying119 rfl I117 rfl rfl) ?_)))
            have ho5 : Own w5 v5 (M.p.map cmP) := h5.own
            have hf5 := ho5.form (n := M.p.length) (by rw [List.length_map])
            obtain ⟨p5, c5, hf5⟩ := hf5
            subst hf5
            have hB5 := hB4.chg h5.mod (by exact List.not_mem_nil)
            refine wpL_exs rfl (x_storeB1 I117 rfl rfl (hB5) rfl rfl ((by decide : 1 < 6)) rfl (rfl)) ?_
            rintro w6 ⟨hB6, hc6, hs6⟩
            refine wpL_value rfl (x_nil rfl) (wpL_value rfl (x_fieldAddr Tryz.underlying119 rfl I34 rfl rfl) ?_)
            refine wpL_exs rfl (x_storeB1 I34 rfl rfl (hB6) rfl rfl ((by decide : 3 < 6)) rfl (rfl)) ?_
            rintro w7 ⟨hB7, hc7, hs7⟩
            refine wpL_value rfl (x_nil rfl) (wpL_value rfl (x_fieldAddr Tryz.underlying119 rfl I9 rfl rfl) ?_)
            refine wpL_exs rfl (x_storeB1 I9 rfl rfl (hB7) rfl rfl ((by decide : 5 < 6)) rfl (rfl)) ?_
            rintro w8 ⟨hB8, hc8, hs8⟩
            refine wpL_nil (thenE_norm ?_)
            refine wpE_seq ?_
            refine wpE_region ?_
            refine wpL_value rfl x_assign ?_
            refine wpL_nil (thenE_norm ?_)
            refine wpE_ret (fin_ret ?_)
            have hB8 : Blk w8 mb (mdC (M.com root txt) (.slice pp M.p.length pc) (.slice p5 M.p.length c5)) := hB8
            have hc58 : Chg [mb] w5 w8 := (hc6.tr hc7).tr hc8
            have k5 : ∀ x ∈ blkOf (.slice p5 M.p.length c5), w4.heap.size ≤ x := fun x hx => h5.inn.ge x hx
            have kp := hp4.sl.lt
            have kb := hB4.lt
            have k24 := hc24.1
            have k2 := hc2.1
            have hp8 : Own w8 (.slice pp M.p.length pc) (M.p.map cmP) := (hp4.mod h5.mod (fun x _ hh => by simp [blkOf] at hh)).mod hc58 (fun x hx hh => by simp at hh; subst hh; exact hnp hx)
            have hn5 : mb ∉ blkOf (.slice p5 M.p.length c5) := fun hx => by have := k5 _ hx; omega
            have ho8 : Own w8 (.slice p5 M.p.length c5) (M.p.map cmP) := ho5.mod hc58 (fun x hx hh => by simp at hh; subst hh; exact hn5 hx)
            refine ⟨⟨M.com root txt, 0, .slice p5 M.p.length c5, .inr (.inr ⟨h200, hbad, rfl, rfl⟩), rfl, ⟨hB8, hp8, ho8, hnp, hn5, fun x hx hh => by have := kp x hx; have := k5 x hh; omega⟩, fun x hx => .inr (by have := k5 x hx; omega)⟩, ?_⟩
            have q1 : Chg (mb :: blkOf (.slice pp M.p.length pc)) w1 w2 := hc2.mono (fun x hx _ => List.mem_cons_of_mem _ hx)
            have q2 : Chg (mb :: blkOf (.slice pp M.p.length pc)) w2 w4 := hc24.mono (fun x hx _ => by simp at hx; subst hx; exact List.mem_cons_self)
            have q3 : Chg (mb :: blkOf (.slice pp M.p.length pc)) w4 w5 := h5.mod.mono (fun x hx _ => by simp [blkOf] at hx)
            have q4 : Chg (mb :: blkOf (.slice pp M.p.length pc)) w5 w8 := hc58.mono (fun x hx _ => by simp at hx; subst hx; exact List.mem_cons_self)
            exact ((q1.tr q2).tr q3).tr q4
end Go.Proofs.YtenhmbhflgnhlaaGreat

