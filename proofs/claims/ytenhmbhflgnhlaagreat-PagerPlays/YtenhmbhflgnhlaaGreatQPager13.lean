/- every row of calls, crashes, the power going within a commit: what each tells -/
import Derived.Test.YtenhmbhflgnhlaaGreatQPager12
namespace Go.Proofs.YtenhmbhflgnhlaaGreat
open Go Go.Sac
set_option maxRecDepth 100000
set_option maxHeartbeats 4000000
theorem of_ok (w : World) (b : Nat) (k : List UInt8) (hk : k.length = 32) (a : Nat) (s : Sup) (u rr : Nat) (hu : SetAt w u s.used) (hr : SetAt w rr s.written) (hne : u ≠ rr) :
    Ret Tryz.prog 94 #[.pointer (some ⟨b, 0, none⟩), arrV k, .int .i64 a, supV s u rr] w fun v w' => ∃ R : PR, v = .pointer (some ⟨R.pb, 0, none⟩) ∧ (∀ x ∈ PF R, x = u ∨ x = rr ∨ w.heap.size ≤ x) ∧ PagerAt w' R b k ⟨s.st, s, a, 0, fun _ => none, false⟩ ∧ Chg [] w w' := by
  have hpk := deriveL_length k tPage 0
  refine enter [8] Tryz.func94 rfl rfl (Nat.le_of_ble_eq_true rfl) ?_
  refine wpE_seq ?_
  refine wpE_region ?_
  refine wpL_boxA (l := k) rfl rfl ?_
  rintro w1 b1 hn1 ha1 hc1 hl1
  refine wpL_exw rfl (x_boxB (l := supC s u rr) rfl rfl) ?_
  rintro _ w2 ⟨b2, rfl, hn2, hB2, hc2, hl2⟩
  refine wpL_value rfl x_assign ?_
  refine wpL_nil (thenE_norm ?_)
  refine wpE_seq ?_
  have ha2 := ha1.chg0 hc2
  have hc02 := hc1.tr hc2
  have hu2 := hu.chg0 hc02
  have hr2 := hr.chg0 hc02
  refine wpE_draw mixed (.pure 0 (.read 1 (.pure 3 (.read 4 (.read 5 (.read 7 (.pure 8 (.alt (.eff 2 [4, 5, 7] (.alt (.eff 6 [4, 7] (.eff 9 [1, 4, 5, 7] (.pure 10 (.eff 11 [] (.pure 12 .nil))))) (.eff 9 [1, 4, 5, 7] (.eff 6 [4, 7] (.pure 10 (.eff 11 [] (.pure 12 .nil))))))) (.eff 9 [1, 4, 5, 7] (.eff 2 [4, 5, 7] (.eff 6 [4, 7] (.pure 10 (.eff 11 [] (.pure 12 .nil)))))))))))))) (by kernel_rfl) ?_
  refine wpP_pure rfl rfl rfl (fun _ => (x_fieldAddr Tryz.underlying125 rfl I123 rfl rfl)) ?_
  refine wpP_read rfl rfl rfl (fun w' => Blk w' b2 (supC s u rr)) (hB2) (fun w1 h1 => x_loadA Tryz.underlying123 rfl I123 rfl (h1.at (l := stC s.st u rr) (off := 0) rfl) rfl) ?_
  refine wpP_pure rfl rfl rfl (fun _ => x_move) ?_
  refine wpP_rdA 32 rfl rfl rfl Tryz.underlying23 rfl I23 rfl rfl (ha2) (hk) ?_
  refine wpP_rdA 32 rfl rfl rfl Tryz.underlying23 rfl I23 rfl rfl (ha2) (hk) ?_
  refine wpP_read rfl rfl rfl (fun w' => Blk w' b2 (supC s u rr)) (hB2) (fun w1 h1 => x_loadA Tryz.underlying125 rfl I125 rfl (h1.at (l := supC s u rr) (off := 0) rfl) rfl) ?_
  refine wpP_pure rfl rfl rfl (fun _ => x_move) ?_
  have hcum : Chg [] w2 { w2 with drawn := w2.drawn + 1 } := Chg.heap rfl
  have hBo : ∀ {w' : World}, Chg [] w2 w' → Blk w' b2 (supC s u rr) := fun hc => hB2.chg0 hc
  have hao : ∀ {w' : World}, Chg [] w2 w' → Arr w' b1 k := fun hc => ha2.chg0 hc
  refine wpP_alt ?_ ?_
  · skip
    refine wpP_call rfl rfl rfl C73 (copied_ok _ s.st u rr (hu2.chg0 hcum) (hr2.chg0 hcum)) ?_
    rintro _ wq2 ⟨u', r', rfl, hu', hr', hcq2, hnu, hnr, hnur⟩
    have hnu2 : w2.heap.size ≤ u' := Nat.le_trans hcum.1 hnu
    have hnr2 : w2.heap.size ≤ r' := Nat.le_trans hcum.1 hnr
    have hc2 := hcq2
    have hcum := hcum.tr hc2
    refine ⟨⟨hao hcum, hao hcum, hBo hcum, trivial⟩, ?_⟩
    refine wpP_alt ?_ ?_
    · skip
      refine wpP_call rfl rfl rfl C117 (Derive_ok k hk tPage 0 0 rfl _ (by decide)) ?_
      rintro _ wq6 ⟨rfl, hc6⟩
      have hcum := hcum.tr hc6
      have hu' := hu'.chg0 hc6
      have hr' := hr'.chg0 hc6
      refine ⟨⟨hao hcum, hBo hcum, trivial⟩, ?_⟩
      refine wpP_exw rfl rfl rfl (x_mkM UInt32) ?_
      rintro _ wq9 ⟨g, rfl, hg, hm9, hc9, hl9⟩
      have hng : w2.heap.size ≤ g := Nat.le_trans hcum.1 hg
      have hcum := hcum.tr hc9
      have hgu : u' ≠ g := by have := hu'.lt; omega
      have hgr : r' ≠ g := by have := hr'.lt; omega
      have hu' := hu'.chg0 hc9
      have hr' := hr'.chg0 hc9
      refine ⟨⟨hBo hcum, hao hcum, hao hcum, hBo hcum, trivial⟩, ?_⟩
      refine wpP_pure rfl rfl rfl (fun _ => x_buildL Tryz.underlying128 I128 rfl (zs := pgL z32 z32 pgA0 pgC0) rfl rfl (pager_fill hk hpk s s.st b u' r' u rr g a rfl rfl rfl rfl rfl rfl rfl)) ?_
      refine wpP_exw rfl rfl rfl (x_boxB (l := pgL k (deriveL k tPage 0) (pgA ⟨s.st, s, a, 0, fun _ => none, false⟩ ⟨0, u', r', u, rr, g⟩ b) (pgC ⟨s.st, s, a, 0, fun _ => none, false⟩ ⟨0, u', r', u, rr, g⟩)) rfl rfl) ?_
      rintro _ wqx ⟨pb, rfl, hnp, hBp, hcx, hlx⟩
      refine ⟨trivial, ?_⟩
      refine wpP_pure rfl rfl rfl (fun _ => x_assign) ?_
      refine wpP_nil (thenE_norm ?_)
      refine wpE_ret (fin_ret ?_)
      have k1 := hcum.1
      have q1 := hu.lt
      have q2 := hr.lt
      have q3 := hu'.lt
      have q4 := hr'.lt
      have q5 := hm9.lt
      have q6 := hc02.1
      refine ⟨⟨pb, u', r', u, rr, g⟩, rfl, ?_, ⟨hBp, hu'.chg0 hcx, hr'.chg0 hcx, (hu2.chg0 hcum).chg0 hcx, (hr2.chg0 hcum).chg0 hcx, ⟨[], hm9.mod hcx (by simp), fun _ => rfl⟩, ?_⟩, (hc02.tr hcum).tr hcx⟩
      · intro x hx
        simp only [PF, List.mem_cons, List.not_mem_nil, or_false] at hx
        rcases hx with rfl | rfl | rfl | rfl | rfl | rfl <;> omega
      · simp only [PF, List.nodup_cons, List.mem_cons, List.not_mem_nil, or_false, not_or, List.nodup_nil, and_true, not_false_eq_true]
        omega
    · skip
      refine wpP_exw rfl rfl rfl (x_mkM UInt32) ?_
      rintro _ wq9 ⟨g, rfl, hg, hm9, hc9, hl9⟩
      have hng : w2.heap.size ≤ g := Nat.le_trans hcum.1 hg
      have hcum := hcum.tr hc9
      have hgu : u' ≠ g := by have := hu'.lt; omega
      have hgr : r' ≠ g := by have := hr'.lt; omega
      have hu' := hu'.chg0 hc9
      have hr' := hr'.chg0 hc9
      refine ⟨⟨hBo hcum, hao hcum, hao hcum, hBo hcum, trivial⟩, ?_⟩
      refine wpP_call rfl rfl rfl C117 (Derive_ok k hk tPage 0 0 rfl _ (by decide)) ?_
      rintro _ wq6 ⟨rfl, hc6⟩
      have hcum := hcum.tr hc6
      have hu' := hu'.chg0 hc6
      have hr' := hr'.chg0 hc6
      have hm9 := hm9.mod hc6 (by simp)
      refine ⟨⟨hao hcum, hBo hcum, trivial⟩, ?_⟩
      refine wpP_pure rfl rfl rfl (fun _ => x_buildL Tryz.underlying128 I128 rfl (zs := pgL z32 z32 pgA0 pgC0) rfl rfl (pager_fill hk hpk s s.st b u' r' u rr g a rfl rfl rfl rfl rfl rfl rfl)) ?_
      refine wpP_exw rfl rfl rfl (x_boxB (l := pgL k (deriveL k tPage 0) (pgA ⟨s.st, s, a, 0, fun _ => none, false⟩ ⟨0, u', r', u, rr, g⟩ b) (pgC ⟨s.st, s, a, 0, fun _ => none, false⟩ ⟨0, u', r', u, rr, g⟩)) rfl rfl) ?_
      rintro _ wqx ⟨pb, rfl, hnp, hBp, hcx, hlx⟩
      refine ⟨trivial, ?_⟩
      refine wpP_pure rfl rfl rfl (fun _ => x_assign) ?_
      refine wpP_nil (thenE_norm ?_)
      refine wpE_ret (fin_ret ?_)
      have k1 := hcum.1
      have q1 := hu.lt
      have q2 := hr.lt
      have q3 := hu'.lt
      have q4 := hr'.lt
      have q5 := hm9.lt
      have q6 := hc02.1
      refine ⟨⟨pb, u', r', u, rr, g⟩, rfl, ?_, ⟨hBp, hu'.chg0 hcx, hr'.chg0 hcx, (hu2.chg0 hcum).chg0 hcx, (hr2.chg0 hcum).chg0 hcx, ⟨[], hm9.mod hcx (by simp), fun _ => rfl⟩, ?_⟩, (hc02.tr hcum).tr hcx⟩
      · intro x hx
        simp only [PF, List.mem_cons, List.not_mem_nil, or_false] at hx
        rcases hx with rfl | rfl | rfl | rfl | rfl | rfl <;> omega
      · simp only [PF, List.nodup_cons, List.mem_cons, List.not_mem_nil, or_false, not_or, List.nodup_nil, and_true, not_false_eq_true]
        omega
  · skip
    refine wpP_exw rfl rfl rfl (x_mkM UInt32) ?_
    rintro _ wq9 ⟨g, rfl, hg, hm9, hc9, hl9⟩
    have hng : w2.heap.size ≤ g := Nat.le_trans hcum.1 hg
    have hcum := hcum.tr hc9
    refine ⟨⟨hBo hcum, hao hcum, hao hcum, hBo hcum, trivial⟩, ?_⟩
    refine wpP_call rfl rfl rfl C73 (copied_ok _ s.st u rr (hu2.chg0 hcum) (hr2.chg0 hcum)) ?_
    rintro _ wq2 ⟨u', r', rfl, hu', hr', hcq2, hnu, hnr, hnur⟩
    have hnu2 : w2.heap.size ≤ u' := Nat.le_trans hcum.1 hnu
    have hnr2 : w2.heap.size ≤ r' := Nat.le_trans hcum.1 hnr
    have hc2 := hcq2
    have hcum := hcum.tr hc2
    have hgu : u' ≠ g := by have := hm9.lt; omega
    have hgr : r' ≠ g := by have := hm9.lt; omega
    have hm9 := hm9.mod hc2 (by simp)
    refine ⟨⟨hao hcum, hao hcum, hBo hcum, trivial⟩, ?_⟩
    refine wpP_call rfl rfl rfl C117 (Derive_ok k hk tPage 0 0 rfl _ (by decide)) ?_
    rintro _ wq6 ⟨rfl, hc6⟩
    have hcum := hcum.tr hc6
    have hm9 := hm9.mod hc6 (by simp)
    have hu' := hu'.chg0 hc6
    have hr' := hr'.chg0 hc6
    refine ⟨⟨hao hcum, hBo hcum, trivial⟩, ?_⟩
    refine wpP_pure rfl rfl rfl (fun _ => x_buildL Tryz.underlying128 I128 rfl (zs := pgL z32 z32 pgA0 pgC0) rfl rfl (pager_fill hk hpk s s.st b u' r' u rr g a rfl rfl rfl rfl rfl rfl rfl)) ?_
    refine wpP_exw rfl rfl rfl (x_boxB (l := pgL k (deriveL k tPage 0) (pgA ⟨s.st, s, a, 0, fun _ => none, false⟩ ⟨0, u', r', u, rr, g⟩ b) (pgC ⟨s.st, s, a, 0, fun _ => none, false⟩ ⟨0, u', r', u, rr, g⟩)) rfl rfl) ?_
    rintro _ wqx ⟨pb, rfl, hnp, hBp, hcx, hlx⟩
    refine ⟨trivial, ?_⟩
    refine wpP_pure rfl rfl rfl (fun _ => x_assign) ?_
    refine wpP_nil (thenE_norm ?_)
    refine wpE_ret (fin_ret ?_)
    have k1 := hcum.1
    have q1 := hu.lt
    have q2 := hr.lt
    have q3 := hu'.lt
    have q4 := hr'.lt
    have q5 := hm9.lt
    have q6 := hc02.1
    refine ⟨⟨pb, u', r', u, rr, g⟩, rfl, ?_, ⟨hBp, hu'.chg0 hcx, hr'.chg0 hcx, (hu2.chg0 hcum).chg0 hcx, (hr2.chg0 hcum).chg0 hcx, ⟨[], hm9.mod hcx (by simp), fun _ => rfl⟩, ?_⟩, (hc02.tr hcum).tr hcx⟩
    · intro x hx
      simp only [PF, List.mem_cons, List.not_mem_nil, or_false] at hx
      rcases hx with rfl | rfl | rfl | rfl | rfl | rfl <;> omega
    · simp only [PF, List.nodup_cons, List.mem_cons, List.not_mem_nil, or_false, not_or, List.nodup_nil, and_true, not_false_eq_true]
      omega
end Go.Proofs.YtenhmbhflgnhlaaGreat

