/- every row of calls, crashes, the power going within a commit: what each tells -/
import Derived.Test.YtenhmbhflgnhlaaGreatQLaw7b
import Derived.Test.YtenhmbhflgnhlaaGreatQUsed
import Derived.Test.YtenhmbhflgnhlaaGreatSac1
namespace Go.Proofs.YtenhmbhflgnhlaaGreat
open Go Go.Sac
set_option maxRecDepth 100000
set_option maxHeartbeats 4000000
theorem PS.absP {w0 w : World} {b r n k : Nat} {kv : Value} {R : PR} {key : List UInt8} {ds : DSt} {P : Pg} {V : UInt32 → List UInt8} (h : PS w0 w b kv r R n k key ds P V) :
    ∃ P' V', P' = P ∧ V' = V ∧ PS w0 w b kv r R n k key ds P' V' := ⟨_, _, rfl, rfl, h⟩
theorem used_run {w0 w : World} {b r n k : Nat} {kv : Value} {R : PR} {key : List UInt8} {ds : DSt} {P : Pg} {V : UInt32 → List UInt8} (h : PS w0 w b kv r R n k key ds P V) (hn : n ≤ 12) :
    Ret Tryz.prog 36 #[.pointer (some ⟨R.pb, 0, none⟩)] w fun v w' => Own w' v (pgsL P.now.used n) ∧ PS w0 w' b kv r R n k key ds P V ∧ Chg [] w w' ∧ In v [] w.heap.size := by
  refine (Used_ok w R b key P h.2.1 n hn (fun x hx => h.2.2.2.1.ok.used x hx)).mono ?_
  rintro v w' ⟨h1, h2, h3⟩
  exact ⟨h1, h.chg0 h2, h2, h3⟩
theorem mAlloc_ok (w : World) (mb : Nat) (pv ov : Value) (M : Mdl) (h : MAt w mb pv ov M) (hl : M.p.length ≤ 1000) :
    Ret Tryz.prog 34 #[.pointer (some ⟨mb, 0, none⟩)] w fun v w' => (∃ M' i e, AllocM M M' i e ∧ v = .tuple #[.int .i64 i, .int .i64 e] ∧ MAt w' mb pv ov M') ∧ Chg (blkOf pv) w w' := by
  have hfm := h.p.form rfl
  obtain ⟨pp, pc, rfl⟩ := hfm
  refine enter [2, 3] Tryz.func34 rfl rfl (Nat.le_of_ble_eq_true rfl) ?_
  refine wpE_seq ?_
  refine wpE_region ?_
  refine wpL_value rfl x_assign (wpL_value rfl x_assign ?_)
  refine wpL_nil (thenE_norm ?_)
  refine wpE_seq ?_
  refine wpE_seq ?_
  refine wpE_region ?_
  refine wpL_value rfl x_assign ?_
  refine wpL_nil (thenE_norm ?_)
  refine wpE_block ?_
  refine wpE_loopF [0, 4] (fun n vs w' => ∃ i : Nat, vs = [.pointer (some ⟨mb, 0, none⟩), .int .i64 i] ∧ i + n = M.p.length ∧ (∀ j, j < i → M.free j = false) ∧ w' = w) (M.p.length) ?_ ?_
  · exact ⟨0, rfl, by omega, fun j hj => by omega, rfl⟩
  · rintro n vs J w1 ⟨i, rfl, hi, hf, rfl⟩
    refine wpE_seq ?_
    refine wpE_seq ?_
    refine wpE_region ?_
    refine wpL_value rfl x_move (wpL_value rfl x_move (wpL_value rfl (x_nil rfl) (wpL_value rfl (x_fieldAddr Tryz.underlying119 rfl I117 rfl rfl) ?_)))
    refine wpL_value rfl (x_load Tryz.underlying117 rfl rfl (h.blk.c (off := 0) rfl)) ?_
    refine wpL_value rfl (x_len_slice rfl Tryz.underlying117) (wpL_value rfl (x_lss rfl rfl) ?_)
    refine wpL_nil (thenE_norm ?_)
    refine wpE_cond_d rfl (fun hlt => ?_) (fun hlt => ?_)
    · skip
      refine wpE_skip (thenE_norm ?_)
      refine wpE_seq ?_
      refine wpE_block ?_
      refine wpE_seq ?_
      refine wpE_region ?_
      refine wpL_value rfl x_move (wpL_value rfl (x_nil rfl) (wpL_value rfl (x_fieldAddr Tryz.underlying119 rfl I117 rfl rfl) ?_))
      have hob1 : ∃ q, n = q + 1 := ⟨n - 1, by omega⟩
      obtain ⟨n, rfl⟩ := hob1
      have hil : i < M.p.length := by omega
      refine wpL_value rfl (x_load Tryz.underlying117 rfl rfl (h.blk.c (off := 0) rfl)) ?_
      refine wpL_value rfl x_move ?_
      refine wpL_ex rfl (x_idx (i) Tryz.underlying117 I154 rfl (h.p.sl) rfl rfl (by first | rfl | omega) (hil)) ?_
      rintro _ ⟨b1, o1, rfl, he1, hb1⟩
      refine wpL_value rfl (x_fieldAddr Tryz.underlying154 rfl I4 rfl rfl) ?_
      have hat := h.p.sl.at he1 (M.at hil)
      generalize hg : M.get i = g at hat
      obtain ⟨gu, gf, gw, gs, gb⟩ := g
      cases gu
      · skip
        refine wpL_value rfl (x_load Tryz.underlying4 rfl rfl ((hat.c0 rfl : _ = some (.bool false)))) ?_
        refine wpL_value rfl (x_not rfl) (wpL_value rfl x_move (wpL_yes rfl (wpL_value rfl x_move (wpL_yes rfl (wpL_value rfl (x_nil rfl) (wpL_yes rfl (wpL_value rfl (x_fieldAddr Tryz.underlying119 rfl I117 rfl rfl) (wpL_yes rfl ?_))))))))
        refine wpL_value rfl (x_load Tryz.underlying117 rfl rfl (h.blk.c (off := 0) rfl)) ?_
        refine wpL_yes rfl (wpL_value rfl x_move (wpL_yes rfl ?_))
        refine wpL_ex rfl (x_idx (i) Tryz.underlying117 I154 rfl (h.p.sl) rfl rfl (by first | rfl | omega) (hil)) ?_
        rintro _ ⟨b2, o2, rfl, he2, hb2⟩
        refine wpL_yes rfl (wpL_value rfl (x_fieldAddr Tryz.underlying154 rfl I4 rfl rfl) (wpL_yes rfl ?_))
        have hat2 : At w1 b2 o2 (Flat.enc (M.get i)) := h.p.sl.at he2 (M.at hil)
        rw [hg] at hat2
        cases gs
        · skip
          refine wpL_value rfl (x_load Tryz.underlying4 rfl rfl ((hat2.cell (i := 3) rfl : _ = some (.bool false)))) ?_
          refine wpL_yes rfl (wpL_value rfl (x_not rfl) (wpL_value rfl (x_pick_t rfl) ?_))
          refine wpL_nil (thenE_norm ?_)
          refine wpE_cond_t (rfl) ?_
          refine wpE_seq ?_
          refine wpE_region ?_
          refine wpL_value rfl x_move (wpL_value rfl (x_nil rfl) (wpL_value rfl (x_fieldAddr Tryz.underlying119 rfl I117 rfl rfl) ?_))
          refine wpL_value rfl (x_load Tryz.underlying117 rfl rfl (h.blk.c (off := 0) rfl)) ?_
          refine wpL_value rfl x_move ?_
          refine wpL_value rfl (x_buildL Tryz.underlying154 I154 rfl (zs := [.bool false, .bool false, .bool false, .bool false, str []]) rfl rfl (fill1 rfl rfl rfl (Nat.le_of_ble_eq_true rfl) (fill1 rfl rfl rfl (Nat.le_of_ble_eq_true rfl) (fill0 (cs' := Flat.enc (⟨true, true, false, false, []⟩ : MPg)) rfl)))) ?_
          refine wpL_ex rfl (x_idx (i) Tryz.underlying117 I154 rfl (h.p.sl) rfl rfl (by first | rfl | omega) (hil)) ?_
          rintro _ ⟨b3, o3, rfl, he3, hb3⟩
          refine wpL_exs rfl (x_storeO (a := (⟨true, true, false, false, []⟩ : MPg)) I154 rfl (h.p) rfl (he3) rfl rfl (hil)) ?_
          rintro w4 ⟨ho4, hc4, hs4⟩
          refine wpL_nil (thenE_norm ?_)
          refine wpE_seq ?_
          refine wpE_region ?_
          refine wpL_value rfl x_move (wpL_value rfl x_assign (wpL_value rfl x_assign ?_))
          refine wpL_nil (thenE_norm ?_)
          refine wpE_ret (blockE_ret (thenE_ret (thenE_ret (blockE_ret (thenE_ret (fin_ret ?_))))))
          exact ⟨⟨_, i, 0, .inl ⟨hil, hf, by unfold Mdl.free; rw [hg]; rfl, rfl, rfl⟩, rfl, h.upP ho4 hc4⟩, hc4⟩
        · skip
          refine wpL_value rfl (x_load Tryz.underlying4 rfl rfl ((hat2.cell (i := 3) rfl : _ = some (.bool true)))) ?_
          refine wpL_yes rfl (wpL_value rfl (x_not rfl) (wpL_value rfl (x_pick_t rfl) ?_))
          refine wpL_nil (thenE_norm ?_)
          refine wpE_cond_f (rfl) ?_
          refine wpE_skip (blockE_norm (thenE_norm ?_))
          refine wpE_region ?_
          refine wpL_value rfl x_move (wpL_value rfl (x_add64 rfl rfl (by omega)) (wpL_value rfl x_assign ?_))
          refine wpL_nil (thenE_norm ?_)
          have hno : M.free i = false := by unfold Mdl.free; rw [hg]; rfl
          refine Exists.intro (n) (And.intro (by omega) ?_)
          refine ⟨i + 1, rfl, by omega, fun j hj => ?_, rfl⟩
          rcases (by omega : j < i ∨ j = i) with hji | rfl
          · exact hf j hji
          · exact hno
      · skip
        refine wpL_value rfl (x_load Tryz.underlying4 rfl rfl ((hat.c0 rfl : _ = some (.bool true)))) ?_
        refine wpL_value rfl (x_not rfl) (wpL_value rfl x_move (wpL_no rfl rfl (wpL_no rfl rfl (wpL_no rfl rfl (wpL_no rfl rfl (wpL_no rfl rfl (wpL_no rfl rfl (wpL_no rfl rfl (wpL_no rfl rfl (wpL_no rfl rfl (wpL_value rfl (x_pick_f rfl) ?_)))))))))))
        refine wpL_nil (thenE_norm ?_)
        refine wpE_cond_f (rfl) ?_
        refine wpE_skip (blockE_norm (thenE_norm ?_))
        refine wpE_region ?_
        refine wpL_value rfl x_move (wpL_value rfl (x_add64 rfl rfl (by omega)) (wpL_value rfl x_assign ?_))
        refine wpL_nil (thenE_norm ?_)
        have hno : M.free i = false := by unfold Mdl.free; rw [hg]; rfl
        refine Exists.intro (n) (And.intro (by omega) ?_)
        refine ⟨i + 1, rfl, by omega, fun j hj => ?_, rfl⟩
        rcases (by omega : j < i ∨ j = i) with hji | rfl
        · exact hf j hji
        · exact hno
    · skip
      refine wpE_exit (thenE_exit (thenE_exit (blockE_exit (thenE_norm ?_))))
      refine wpE_seq ?_
      refine wpE_region ?_
      refine wpL_value rfl x_assign (wpL_value rfl x_assign ?_)
      refine wpL_nil (thenE_norm ?_)
      refine wpE_ret (fin_ret ?_)
      exact ⟨⟨M, 0, 70, .inr ⟨fun j hj => hf j (by omega), rfl, rfl, rfl⟩, rfl, h⟩, Chg.refl' _ _⟩
end Go.Proofs.YtenhmbhflgnhlaaGreat

