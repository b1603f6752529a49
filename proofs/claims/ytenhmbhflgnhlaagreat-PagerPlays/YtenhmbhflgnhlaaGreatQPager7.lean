/- every row of calls, crashes, the power going within a commit: what each tells -/
import Derived.Test.YtenhmbhflgnhlaaGreatQPager6
import Derived.Test.YtenhmbhflgnhlaaGreatSac1
namespace Go.Proofs.YtenhmbhflgnhlaaGreat
open Go Go.Sac
set_option maxRecDepth 100000
set_option maxHeartbeats 4000000
theorem copied_ok (w : World) (s : Pst) (u r : Nat) (hu : SetAt w u s.used) (hr : SetAt w r s.written) :
    Ret Tryz.prog 73 #[stV s u r] w fun v w' => ∃ u' r', v = stV s u' r' ∧ SetAt w' u' s.used ∧ SetAt w' r' s.written ∧ Chg [] w w' ∧ w.heap.size ≤ u' ∧ w.heap.size ≤ r' ∧ u' ≠ r' := by
  refine enterR [.cell 2 123] Tryz.func73 rfl rfl (Nat.le_of_ble_eq_true rfl) ?_
  refine wpE_seq ?_
  refine wpE_region ?_
  refine wpL_exw rfl (x_boxB (l := stC s u r) rfl rfl) ?_
  rintro _ w1 ⟨b1, rfl, hn1, hB1, hc1, hl1⟩
  refine wpL_exw rfl (x_allocB (l := [.int .u32 0, str [], .map none, .map none]) I123 rfl rfl) ?_
  rintro _ w2 ⟨b2, rfl, hn2, hB2, hc2, hl2⟩
  refine wpL_nil (thenE_norm ?_)
  refine wpE_seq ?_
  have hB12 := hB1.chg0 hc2
  have hu2 := (hu.chg0 hc1).chg0 hc2
  have hr2 := (hr.chg0 hc1).chg0 hc2
  refine wpE_draw mixed (.pure 0 (.read 1 (.pure 3 (.read 4 (.eff 2 [4] (.pure 6 (.eff 5 [] (.eff 7 [] (.pure 8 (.eff 9 [] .nil)))))))))) (by kernel_rfl) ?_
  refine wpP_pure rfl rfl rfl (fun _ => (x_fieldAddr Tryz.underlying123 rfl I121 rfl rfl)) ?_
  refine wpP_rd rfl rfl rfl Tryz.underlying121 rfl rfl (hB12.c (off := 2) rfl) ?_
  refine wpP_pure rfl rfl rfl (fun _ => (x_fieldAddr Tryz.underlying123 rfl I121 rfl rfl)) ?_
  refine wpP_rd rfl rfl rfl Tryz.underlying121 rfl rfl (hB12.c (off := 3) rfl) ?_
  refine wpP_call rfl rfl rfl C71 (CloneS_ok _ u s.used (hu2.chg0 (drw _))) ?_
  rintro _ w3 ⟨u', rfl, hu3, hc3, hnu⟩
  have hc3 : Chg [] w2 w3 := (drw w2).tr hc3
  have hnu : w2.heap.size ≤ u' := hnu
  refine ⟨⟨(hB12.chg0 hc3).c (off := 3) rfl, trivial⟩, ?_⟩
  refine wpP_pure rfl rfl rfl (fun _ => (x_fieldAddr Tryz.underlying123 rfl I121 rfl rfl)) ?_
  refine wpP_call rfl rfl rfl C71 (CloneS_ok w3 r s.written (hr2.chg0 hc3)) ?_
  rintro _ w4 ⟨r', rfl, hr4, hc4, hnr⟩
  refine ⟨trivial, ?_⟩
  have hB14 := (hB12.chg0 hc3).chg0 hc4
  refine wpP_exs rfl rfl rfl (x_storeB1 I121 rfl rfl (hB14) rfl rfl ((by decide : 2 < 4)) rfl (rfl)) ?_
  rintro w5 ⟨hB5, hc5, hs5⟩
  refine ⟨trivial, ?_⟩
  refine wpP_pure rfl rfl rfl (fun _ => (x_fieldAddr Tryz.underlying123 rfl I121 rfl rfl)) ?_
  refine wpP_exs rfl rfl rfl (x_storeB1 I121 rfl rfl (hB5) rfl rfl ((by decide : 3 < 4)) rfl (rfl)) ?_
  rintro w6 ⟨hB6, hc6, hs6⟩
  refine ⟨trivial, ?_⟩
  refine wpP_nil (thenE_norm ?_)
  refine wpE_seq ?_
  refine wpE_region ?_
  have hB6 : Blk w6 b1 (stC s u' r') := hB6
  refine wpL_value rfl (x_loadA Tryz.underlying123 rfl I123 rfl (hB6.at (l := stC s u' r') (off := 0) rfl) rfl) ?_
  have k1 := hc1.1
  have k2 := hc2.1
  have k3 := hc3.1
  have k4 := hc4.1
  have hB26 : Blk w6 b2 [.int .u32 0, str [], .map none, .map none] := (((hB2.chg0 hc3).chg0 hc4).nb hc5 (by omega)).nb hc6 (by omega)
  refine wpL_exs rfl (x_storeB (l := stC s u' r') I123 rfl rfl hB26 rfl rfl (Nat.le_refl 4) (stC_cell _ _ _) (spl_all rfl)) ?_
  rintro w7 ⟨hB7, hc7, hs7⟩
  refine wpL_nil (thenE_norm ?_)
  refine wpE_ret (fin_retR ?_)
  have hult := hu3.lt
  have hrlt := hr4.lt
  refine ⟨[stV s u' r'], ⟨⟨_, rfl, run_loadVarA Tryz.underlying123 rfl I123 (hB7.at (l := stC s u' r') (off := 0) rfl) rfl⟩, trivial⟩, u', r', rfl, ?_, ?_, ?_, by omega, by omega, by omega⟩
  · exact (((hu3.chg0 hc4).mod hc5 (by simp; omega)).mod hc6 (by simp; omega)).mod hc7 (by simp; omega)
  · exact ((hr4.mod hc5 (by simp; omega)).mod hc6 (by simp; omega)).mod hc7 (by simp; omega)
  · exact ((((((hc1.tr hc2).tr hc3).tr hc4).t1 hc5 (by omega)).t1 hc6 (by omega))).t1 hc7 (by omega)
theorem lays_ok (w : World) (b r : Nat) (kv : Value) (ds : DSt) (k : List UInt8) (hk : k.length = 32) (a : Nat) (ha : a ≤ 1) (s : Sup) (u rr : Nat) (hs : s.Ok) (hu : SetAt w u s.used) (hr : SetAt w rr s.written) (hd : DiskAt w b kv r ds) (hf : ds.Fine) (hst : ds.steps + 20 ≤ 1000000000000) :
    Ret Tryz.prog 72 #[.pointer (some ⟨b, 0, none⟩), arrV k, .int .i64 a, supV s u rr] w fun v w' => v = .int .i64 (laysD k ds a s).2 ∧ DiskAt w' b kv r (laysD k ds a s).1 ∧ Chg (DF b kv r) w w' := by
  have htx := hs.txt
  have hbl := superB_length k s
  refine enter [8] Tryz.func72 rfl rfl (Nat.le_of_ble_eq_true rfl) ?_
  refine wpE_seq ?_
  refine wpE_region ?_
  refine wpL_boxA (l := k) rfl rfl ?_
  rintro w1 b1 hn1 ha1 hc1 hl1
  refine wpL_exw rfl (x_boxB (l := supC s u rr) rfl rfl) ?_
  rintro _ w2 ⟨b2, rfl, hn2, hB2, hc2, hl2⟩
  refine wpL_value rfl x_assign ?_
  refine wpL_nil (thenE_norm ?_)
  refine wpE_seq ?_
  refine wpE_seq ?_
  have hc02 := hc1.tr hc2
  have ha2 := ha1.chg0 hc2
  refine wpE_draw mixed (.pure 0 (.pure 1 (.pure 2 (.pure 3 (.read 4 (.read 5 (.pure 7 (.read 8 (.eff 6 [8] (.eff 9 [] (.eff 10 [] (.pure 11 .nil)))))))))))) (by kernel_rfl) ?_
  refine wpP_pure rfl rfl rfl (fun _ => x_move) ?_
  refine wpP_pure rfl rfl rfl (fun _ => x_move) ?_
  refine wpP_pure rfl rfl rfl (fun _ => (x_mul64 rfl rfl (by omega))) ?_
  refine wpP_pure rfl rfl rfl (fun _ => x_buildL Tryz.underlying133 I133 rfl (zs := [.pointer none, .int .i64 0]) rfl rfl (fill1 rfl rfl rfl (Nat.le_of_ble_eq_true rfl) (fill1 rfl rfl rfl (Nat.le_of_ble_eq_true rfl) (fill0 (cs' := [.pointer (some ⟨b, 0, none⟩), .int .i64 ((a : Int) * 16)]) rfl)))) ?_
  refine wpP_read rfl rfl rfl (fun w' => Blk w' b2 (supC s u rr)) (hB2) (fun w1 h1 => x_loadA Tryz.underlying125 rfl I125 rfl (h1.at (l := supC s u rr) (off := 0) rfl) rfl) ?_
  refine wpP_rdA 32 rfl rfl rfl Tryz.underlying23 rfl I23 rfl rfl (ha2) (hk) ?_
  refine wpP_pure rfl rfl rfl (fun _ => (x_fieldAddr Tryz.underlying125 rfl I35 rfl rfl)) ?_
  refine wpP_rd rfl rfl rfl Tryz.underlying35 rfl rfl (hB2.c (off := 4) rfl) ?_
  refine wpP_call rfl rfl rfl C105 (bytes_ok _ k hk s u rr hs ((hu.chg0 hc02).chg0 (drw _)) ((hr.chg0 hc02).chg0 (drw _))) ?_
  rintro v3 w3 ⟨ho3, hc3, hi3⟩
  have hc3 : Chg [] w2 w3 := (drw w2).tr hc3
  have hi3 : In v3 [] w2.heap.size := hi3
  refine ⟨⟨(hB2.chg0 hc3).c (off := 4) rfl, trivial⟩, ?_⟩
  refine wpP_call rfl rfl rfl C104 (framed_ok2 w3 v3 _ s.commit ho3.sl (by omega)) ?_
  rintro v4 w4 ⟨ho4, hc4, hi4⟩
  refine ⟨trivial, ?_⟩
  have hfl : (frameL (superB k s) s.commit).length = 64 * ((150 + s.txt.length + 55) / 56) := by rw [frameL_length, hbl]
  have hdlt := hd.lt
  have hc04 : Chg [] w w4 := (hc02.tr hc3).tr hc4
  refine wpP_call rfl rfl rfl C68 (RWrite_ok w4 b r kv v4 _ ds ((a : Int) * 16) (hd.chg0 hc04) hf (by omega) ho4.sl (fun x hx h => by have := hi4.ge x hx; have := hdlt x h; have := hc02.1; have := hc3.1; omega) (by omega) (by omega)) ?_
  rintro _ w5 ⟨rfl, hd5, hc5⟩
  refine ⟨trivial, ?_⟩
  refine wpP_pure rfl rfl rfl (fun _ => x_assign) ?_
  refine wpP_nil (thenE_norm ?_)
  refine wpE_seq ?_
  refine wpE_region ?_
  refine wpL_value rfl x_move (wpL_value rfl (x_neq rfl rfl) ?_)
  refine wpL_nil (thenE_norm ?_)
  have hbn := DSt.wr_bnd (((frameL (superB k s) s.commit).length + 63) / 64) ds ((a : Int) * 16) (frameL (superB k s) s.commit) hf (by omega)
  refine wpE_cond_d rfl (fun hne => ?_) (fun hne => ?_)
  · skip
    refine wpE_seq ?_
    refine wpE_region ?_
    refine wpL_value rfl x_move (wpL_value rfl x_assign ?_)
    refine wpL_nil (thenE_norm ?_)
    refine wpE_ret (thenE_ret (fin_ret ?_))
    have hlay : laysD k ds a s = ds.writes ((a : Int) * 16) (frameL (superB k s) s.commit) := by unfold laysD; rw [if_neg hne]
    rw [hlay]
    exact ⟨rfl, hd5, hc04.tr0' hc5⟩
  · skip
    refine wpE_skip (thenE_norm ?_)
    refine wpE_seq ?_
    refine wpE_region ?_
    refine wpL_value rfl x_move ?_
    have he : (ds.writes ((a : Int) * 16) (frameL (superB k s) s.commit)).2 = 0 := Decidable.not_not.1 hne
    have hlay : laysD k ds a s = (ds.writes ((a : Int) * 16) (frameL (superB k s) s.commit)).1.flush := by unfold laysD; rw [if_pos he]
    rw [hlay]
    refine wpL_call rfl C27 (Flush_ok w5 b r kv _ hd5 hbn.1) ?_
    rintro _ w6 ⟨rfl, hd6, hc6⟩
    refine wpL_value rfl x_assign ?_
    refine wpL_nil (thenE_norm ?_)
    refine wpE_ret (fin_ret ?_)
    exact ⟨rfl, hd6, (hc04.tr0' hc5).tr hc6⟩
end Go.Proofs.YtenhmbhflgnhlaaGreat

