/- every row of calls, crashes, the power going within a commit: what each tells -/
import Derived.Test.YtenhmbhflgnhlaaGreatQSeal
import Derived.Test.YtenhmbhflgnhlaaGreatSac1
namespace Go.Proofs.YtenhmbhflgnhlaaGreat
open Go Go.Sac
set_option maxRecDepth 100000
set_option maxHeartbeats 4000000
theorem off_ok (w : World) (b : Nat) (n m : Nat) (cs : List Value) (hb : Blk w b (.int .i64 n :: .int .i64 m :: cs)) :
    Ret Tryz.prog 74 #[.pointer (some ⟨b, 0, none⟩)] w fun v w' => v = .bool (decide (0 < m) && decide (m ≤ n)) ∧ Hp w' w := by
  refine enter [2] Tryz.func74 rfl rfl (Nat.le_of_ble_eq_true rfl) ?_
  refine wpE_seq ?_
  refine wpE_region ?_
  refine wpL_value rfl x_assign ?_
  refine wpL_nil (thenE_norm ?_)
  refine wpE_seq ?_
  by_cases h : 0 < m
  · skip
    refine wpE_draw mixed (.pure 0 (.pure 1 (.pure 2 (.read 3 (.pure 4 (.pure 5 (.pure 6 (.pure 7 (.pure 8 (.read 9 (.pure 10 (.pure 11 (.pure 12 (.read 13 (.pure 14 (.pure 15 (.pure 16 .nil))))))))))))))))) (by kernel_rfl) ?_
    refine wpP_pure rfl rfl rfl (fun _ => x_move) ?_
    refine wpP_pure rfl rfl rfl (fun _ => (x_nil rfl)) ?_
    refine wpP_pure rfl rfl rfl (fun _ => (x_fieldAddr Tryz.underlying85 rfl I3 rfl rfl)) ?_
    refine wpP_rd rfl rfl rfl Tryz.underlying3 rfl rfl (hb.c (off := 1) rfl) ?_
    refine wpP_pure rfl rfl rfl (fun _ => x_to (x_gtr rfl rfl) (congrArg Value.bool (decide_eq_true (by omega)))) ?_
    refine wpP_pure rfl rfl rfl (fun _ => x_move) ?_
    refine wpP_pure rfl rfl rfl (fun _ => x_move) ?_
    refine wpP_pure rfl rfl rfl (fun _ => (x_nil rfl)) ?_
    refine wpP_pure rfl rfl rfl (fun _ => (x_fieldAddr Tryz.underlying85 rfl I3 rfl rfl)) ?_
    refine wpP_rd rfl rfl rfl Tryz.underlying3 rfl rfl (hb.c (off := 0) rfl) ?_
    refine wpP_pure rfl rfl rfl (fun _ => x_move) ?_
    refine wpP_pure rfl rfl rfl (fun _ => (x_nil rfl)) ?_
    refine wpP_pure rfl rfl rfl (fun _ => (x_fieldAddr Tryz.underlying85 rfl I3 rfl rfl)) ?_
    refine wpP_rd rfl rfl rfl Tryz.underlying3 rfl rfl (hb.c (off := 1) rfl) ?_
    refine wpP_pure rfl rfl rfl (fun _ => (x_geq rfl rfl)) ?_
    refine wpP_pure rfl rfl rfl (fun _ => (x_pick_t rfl)) ?_
    refine wpP_pure rfl rfl rfl (fun _ => x_assign) ?_
    refine wpP_nil (thenE_norm ?_)
    refine wpE_ret (fin_ret ?_)
    refine ⟨?_, rfl⟩
    rw [decide_eq_true h]
    refine bool_eq ?_
    rw [Bool.true_and]
    exact decide_eq_decide.2 (by omega)
  · skip
    refine wpE_draw mixed (.pure 0 (.pure 1 (.pure 2 (.read 3 (.pure 4 (.pure 5 (.pure 6 (.pure 7 (.pure 8 (.read 9 (.pure 10 (.pure 11 (.pure 12 (.read 13 (.pure 14 (.pure 15 (.pure 16 .nil))))))))))))))))) (by kernel_rfl) ?_
    refine wpP_pure rfl rfl rfl (fun _ => x_move) ?_
    refine wpP_pure rfl rfl rfl (fun _ => (x_nil rfl)) ?_
    refine wpP_pure rfl rfl rfl (fun _ => (x_fieldAddr Tryz.underlying85 rfl I3 rfl rfl)) ?_
    refine wpP_rd rfl rfl rfl Tryz.underlying3 rfl rfl (hb.c (off := 1) rfl) ?_
    refine wpP_pure rfl rfl rfl (fun _ => x_to (x_gtr rfl rfl) (congrArg Value.bool (decide_eq_false (by omega)))) ?_
    refine wpP_pure rfl rfl rfl (fun _ => x_move) ?_
    refine wpP_no rfl rfl rfl ?_
    refine wpP_no rfl rfl rfl ?_
    refine wpP_no rfl rfl rfl ?_
    refine wpP_nor rfl rfl rfl ?_
    refine wpP_no rfl rfl rfl ?_
    refine wpP_no rfl rfl rfl ?_
    refine wpP_no rfl rfl rfl ?_
    refine wpP_nor rfl rfl rfl ?_
    refine wpP_no rfl rfl rfl ?_
    refine wpP_pure rfl rfl rfl (fun _ => (x_pick_f rfl)) ?_
    refine wpP_pure rfl rfl rfl (fun _ => x_assign) ?_
    refine wpP_nil (thenE_norm ?_)
    refine wpE_ret (fin_ret ?_)
    refine ⟨?_, rfl⟩
    rw [decide_eq_false h]; rfl
theorem step_ok (w : World) (b : Nat) (n m : Nat) (cs : List Value) (hb : Blk w b (.int .i64 n :: .int .i64 m :: cs)) (hn : n ≤ 1000000000000) :
    Ret Tryz.prog 77 #[.pointer (some ⟨b, 0, none⟩)] w fun v w' => v = .bool (!(decide (0 < m) && decide (m ≤ n + 1))) ∧ Blk w' b (.int .i64 ((n + 1 : Nat) : Int) :: .int .i64 m :: cs) ∧ Chg [b] w w' ∧ w'.heap.size = w.heap.size := by
  refine enter [2] Tryz.func77 rfl rfl (Nat.le_of_ble_eq_true rfl) ?_
  refine wpE_seq ?_
  refine wpE_region ?_
  refine wpL_value rfl x_assign ?_
  refine wpL_nil (thenE_norm ?_)
  refine wpE_seq ?_
  refine wpE_region ?_
  refine wpL_value rfl x_move (wpL_value rfl (x_nil rfl) (wpL_value rfl (x_fieldAddr Tryz.underlying85 rfl I3 rfl rfl) ?_))
  refine wpL_value rfl (x_load Tryz.underlying3 rfl rfl (hb.c (off := 0) rfl)) ?_
  refine wpL_value rfl (x_add64 rfl rfl (by omega)) (wpL_value rfl (x_nil rfl) (wpL_value rfl (x_fieldAddr Tryz.underlying85 rfl I3 rfl rfl) ?_))
  refine wpL_exs rfl (x_storeB1 I3 rfl rfl (hb) rfl rfl (show 0 < _ by simp) rfl (rfl)) ?_
  rintro w1 ⟨hb1, hc1, hs1⟩
  refine wpL_nil (thenE_norm ?_)
  refine wpE_seq ?_
  refine wpE_region ?_
  refine wpL_value rfl x_move ?_
  refine wpL_call rfl C74 (off_ok w1 b (n + 1) m cs hb1) ?_
  rintro _ w2 ⟨rfl, hh⟩
  refine wpL_value rfl (x_not rfl) (wpL_value rfl x_assign ?_)
  refine wpL_nil (thenE_norm ?_)
  refine wpE_ret (fin_ret ?_)
  exact ⟨rfl, hb1.heap hh, hc1.tr0 (Chg.heap hh), by rw [hh.heap]; exact hs1⟩
theorem Power_ok (w : World) (b r : Nat) (kv : Value) (s : DSt) (n : Int) (hd : DiskAt w b kv r s) (hf : s.Fine) (hn : n ≤ 1000000000000) :
    Ret Tryz.prog 42 #[.pointer (some ⟨b, 0, none⟩), .int .i64 n] w fun v w' => DiskAt w' b kv r (s.power n) ∧ Chg [b] w w' ∧ w'.heap.size = w.heap.size := by
  obtain ⟨hb, hk, hm, h1, h2, h3⟩ := hd
  obtain ⟨f1, f2, f3, f4⟩ := hf
  refine enter [] Tryz.func42 rfl rfl (Nat.le_of_ble_eq_true rfl) ?_
  refine wpE_block ?_
  refine wpE_seq ?_
  refine wpE_region ?_
  refine wpL_value rfl x_move ?_
  refine wpL_call rfl C74 (off_ok w b s.steps s.offAt _ hb) ?_
  rintro _ w1 ⟨rfl, hh⟩
  refine wpL_value rfl x_assign ?_
  refine wpL_nil (thenE_norm ?_)
  have hd1 : DiskAt w1 b kv r s := DiskAt.chg0 ⟨hb, hk, hm, h1, h2, h3⟩ (Chg.heap hh)
  have hs0 : s.off = (decide (0 < s.offAt) && decide (s.offAt ≤ s.steps)) := rfl
  rw [← hs0]
  refine wpE_cond rfl (fun h => ?_) (fun h => ?_)
  · skip
    refine wpE_skip (blockE_norm (fin_end ?_))
    refine ⟨?_, Chg.heap hh, by rw [hh.heap]⟩
    rw [DSt.power, if_pos h]; exact hd1
  · skip
    refine wpE_seq ?_
    refine wpE_region ?_
    refine wpL_value rfl x_move (wpL_value rfl (x_leq rfl rfl) (wpL_value rfl x_assign ?_))
    refine wpL_nil (thenE_norm ?_)
    refine wpE_cond_d rfl (fun hn0 => ?_) (fun hn0 => ?_)
    · skip
      refine wpE_region ?_
      refine wpL_value rfl x_move (wpL_value rfl (x_nil rfl) (wpL_value rfl (x_fieldAddr Tryz.underlying85 rfl I3 rfl rfl) ?_))
      refine wpL_exs rfl (x_storeB1 I3 rfl rfl (hb.heap hh) rfl rfl (show 1 < _ by simp) rfl (rfl)) ?_
      rintro w2 ⟨hb2, hc2, hs2⟩
      refine wpL_nil (blockE_norm (fin_end ?_))
      refine ⟨?_, (Chg.heap (S := [b]) hh).tr hc2, by rw [hs2, hh.heap]⟩
      rw [DSt.power, if_neg (by rw [h]; decide), if_pos hn0]
      exact hd1.turn hb2 hc2 rfl rfl
    · skip
      refine wpE_region ?_
      refine wpL_value rfl x_move (wpL_value rfl x_move (wpL_value rfl (x_nil rfl) (wpL_value rfl (x_fieldAddr Tryz.underlying85 rfl I3 rfl rfl) ?_)))
      refine wpL_value rfl (x_load Tryz.underlying3 rfl rfl ((hb.heap hh).c (off := 0) rfl)) ?_
      refine wpL_value rfl x_move (wpL_value rfl (x_min rfl rfl) (wpL_value rfl (x_add64 rfl rfl (by omega)) (wpL_value rfl (x_nil rfl) (wpL_value rfl (x_fieldAddr Tryz.underlying85 rfl I3 rfl rfl) ?_))))
      refine wpL_exs rfl (x_storeB1 I3 rfl rfl (hb.heap hh) rfl rfl (show 1 < _ by simp) rfl (congrArg (fun z => [Value.int .i64 s.steps, Value.int .i64 z, kv, Value.map (some r)]) (show (s.steps : Int) + min n 1099511627776 = ((s.steps + (min n 1099511627776).toNat : Nat) : Int) by omega))) ?_
      rintro w2 ⟨hb2, hc2, hs2⟩
      refine wpL_nil (blockE_norm (fin_end ?_))
      refine ⟨?_, (Chg.heap (S := [b]) hh).tr hc2, by rw [hs2, hh.heap]⟩
      rw [DSt.power, if_neg (by rw [h]; decide), if_neg hn0]
      exact hd1.turn hb2 hc2 rfl rfl
theorem is_ok (w : World) (b r : Nat) (kv : Value) (s : DSt) (i : Int) (hd : DiskAt w b kv r s) :
    Ret Tryz.prog 75 #[.pointer (some ⟨b, 0, none⟩), .int .i64 i] w fun v w' => v = .bool (s.is i) ∧ Hp w' w := by
  obtain ⟨hb, hk, hm, h1, h2, h3⟩ := hd
  have hob1 := hk.form rfl
  obtain ⟨pk, ck, rfl⟩ := hob1
  refine enter [4] Tryz.func75 rfl rfl (Nat.le_of_ble_eq_true rfl) ?_
  refine wpE_seq ?_
  refine wpE_region ?_
  refine wpL_value rfl x_assign ?_
  refine wpL_nil (thenE_norm ?_)
  refine wpE_seq ?_
  refine wpE_region ?_
  refine wpL_value rfl x_move ?_
  by_cases h : 0 ≤ i
  · skip
    refine wpL_value rfl (x_to (x_geq rfl rfl) (congrArg Value.bool (decide_eq_true (h)))) ?_
    refine wpL_value rfl x_move (wpL_yes rfl (wpL_value rfl x_move (wpL_yes rfl (wpL_value rfl x_move (wpL_yes rfl (wpL_value rfl (x_nil rfl) (wpL_yes rfl (wpL_value rfl (x_fieldAddr Tryz.underlying89 rfl I86 rfl rfl) (wpL_yes rfl ?_)))))))))
    refine wpL_value rfl (x_load Tryz.underlying86 rfl rfl (hb.c (off := 2) rfl)) ?_
    refine wpL_yes rfl (wpL_value rfl (x_len_slice rfl Tryz.underlying86) (wpL_yes rfl (wpL_value rfl (x_lss rfl rfl) (wpL_value rfl (x_pick_t rfl) (wpL_value rfl x_assign ?_)))))
    refine wpL_nil (thenE_norm ?_)
    refine wpE_ret (fin_ret ?_)
    refine ⟨?_, rfl⟩
    unfold DSt.is
    rw [decide_eq_true h, Bool.true_and]; rfl
  · skip
    refine wpL_value rfl (x_to (x_geq rfl rfl) (congrArg Value.bool (decide_eq_false (h)))) ?_
    refine wpL_value rfl x_move (wpL_no rfl rfl (wpL_no rfl rfl (wpL_no rfl rfl (wpL_no rfl rfl (wpL_no rfl rfl (wpL_no rfl rfl (wpL_no rfl rfl (wpL_value rfl (x_pick_f rfl) (wpL_value rfl x_assign ?_)))))))))
    refine wpL_nil (thenE_norm ?_)
    refine wpE_ret (fin_ret ?_)
    refine ⟨?_, rfl⟩
    unfold DSt.is
    rw [decide_eq_false h]; rfl
theorem Len_ok (w : World) (b r : Nat) (kv : Value) (s : DSt) (hd : DiskAt w b kv r s) :
    Ret Tryz.prog 51 #[.pointer (some ⟨b, 0, none⟩)] w fun v w' => v = .int .i64 s.kept.length ∧ Hp w' w := by
  obtain ⟨hb, hk, hm, h1, h2, h3⟩ := hd
  have hob2 := hk.form rfl
  obtain ⟨pk, ck, rfl⟩ := hob2
  refine enter [2] Tryz.func51 rfl rfl (Nat.le_of_ble_eq_true rfl) ?_
  refine wpE_seq ?_
  refine wpE_region ?_
  refine wpL_value rfl x_assign ?_
  refine wpL_nil (thenE_norm ?_)
  refine wpE_seq ?_
  refine wpE_region ?_
  refine wpL_value rfl x_move (wpL_value rfl (x_nil rfl) (wpL_value rfl (x_fieldAddr Tryz.underlying89 rfl I86 rfl rfl) ?_))
  refine wpL_value rfl (x_load Tryz.underlying86 rfl rfl (hb.c (off := 2) rfl)) ?_
  refine wpL_value rfl (x_len_slice rfl Tryz.underlying86) (wpL_value rfl x_assign ?_)
  refine wpL_nil (thenE_norm ?_)
  refine wpE_ret (fin_ret ?_)
  exact ⟨rfl, rfl⟩
theorem SNew_ok (w : World) (n : Nat) (hn : n ≤ 4000) :
    Ret Tryz.prog 11 #[.int .i64 n] w fun v w' => ∃ b kv r, v = .pointer (some ⟨b, 0, none⟩) ∧ DiskAt w' b kv r ⟨0, 0, List.replicate n sec0, []⟩ ∧ Chg [] w w' ∧ (∀ x ∈ DF b kv r, w.heap.size ≤ x) := by
  refine enter [2] Tryz.func11 rfl rfl (Nat.le_of_ble_eq_true rfl) ?_
  refine wpE_seq ?_
  refine wpE_region ?_
  refine wpL_value rfl x_assign ?_
  refine wpL_nil (thenE_norm ?_)
  refine wpE_seq ?_
  refine wpE_region ?_
  refine wpL_value rfl x_move (wpL_value rfl (x_max rfl rfl) (wpL_value rfl (x_min rfl rfl) ?_))
  refine wpL_exw rfl (x_mkS (n) (n) (sec0) Tryz.underlying86 I116 rfl rfl rfl (by decide) rfl rfl (by decide) (by first | rfl | omega) (by first | rfl | omega) (by omega) (by omega)) ?_
  rintro _ w1 ⟨⟨p1, c1, rfl⟩, ho1, hc1, hi1⟩
  refine wpL_exw rfl (x_mkM Int) ?_
  rintro _ w2 ⟨r, rfl, hr, hm2, hc2, hl2⟩
  refine wpL_value rfl (x_buildL Tryz.underlying89 I89 rfl (zs := [.int .i64 0, .int .i64 0, .slice none 0 0, .map none]) rfl rfl (fill1 rfl rfl rfl (Nat.le_of_ble_eq_true rfl) (fill1 rfl rfl rfl (Nat.le_of_ble_eq_true rfl) (fill0 (cs' := [.int .i64 0, .int .i64 0, .slice p1 n c1, .map (some r)]) rfl)))) ?_
  refine wpL_exw rfl (x_boxB rfl rfl) ?_
  rintro _ w3 ⟨b, rfl, hb, hB, hc3, hl3⟩
  refine wpL_value rfl x_assign ?_
  refine wpL_nil (thenE_norm ?_)
  refine wpE_ret (fin_ret ?_)
  have hlt := ho1.sl.lt
  refine ⟨b, .slice p1 n c1, r, rfl, ⟨hB, (ho1.mod0 hc2).mod0 hc3, hm2.mod hc3 (by simp), by omega, fun h => ?_, fun h => ?_⟩, (hc1.tr hc2).tr hc3, fun x hx => ?_⟩
  · have := hlt b h; have := hc2.1; omega
  · have := hlt r h; omega
  · have k1 := hc1.1
    have k2 := hc2.1
    simp only [DF, List.mem_cons] at hx
    rcases hx with rfl | rfl | hx
    · omega
    · omega
    · exact hi1.ge x hx
theorem now_ok (w : World) (b r : Nat) (kv : Value) (s : DSt) (i : Int) (hd : DiskAt w b kv r s) (hi : s.is i = true) :
    Ret Tryz.prog 76 #[.pointer (some ⟨b, 0, none⟩), .int .i64 i] w fun v w' => v = arrV (s.now i).1 ∧ Chg [] w w' := by
  obtain ⟨hb, hk, hm, h1, h2, h3⟩ := hd
  have hob3 := DSt.is_iff.1 hi
  obtain ⟨hi0, hi1⟩ := hob3
  refine enterR [.cell 4 116] Tryz.func76 rfl rfl (Nat.le_of_ble_eq_true rfl) ?_
  refine wpE_seq ?_
  refine wpE_region ?_
  refine wpL_allocA (List.replicate 64 (0 : UInt8)) I116 rfl rfl rfl ?_
  rintro w1 b1 hn1 ha1 hc1 hl1
  refine wpL_nil (thenE_norm ?_)
  refine wpE_seq ?_
  refine wpE_seq ?_
  refine wpE_region ?_
  refine wpL_value rfl x_move (wpL_value rfl (x_nil rfl) (wpL_value rfl (x_fieldAddr Tryz.underlying89 rfl I87 rfl rfl) ?_))
  refine wpL_value rfl (x_load Tryz.underlying87 rfl rfl ((hb.chg0 hc1).c (off := 3) rfl)) ?_
  refine wpL_value rfl x_move ?_
  refine wpL_value rfl (x_to (x_lookup2 Tryz.underlying87 (keyOk_int Tryz.underlying3) I116 rfl rfl rfl (hm.mod hc1 (by simp))) (lookP i s.pend)) ?_
  refine wpL_value rfl x_move (wpL_value rfl (x_extract rfl rfl) (wpL_value rfl (x_extract rfl rfl) ?_))
  refine wpL_allocA (List.replicate 64 (0 : UInt8)) I116 rfl rfl rfl ?_
  rintro w2 b2 hn2 ha2 hc2 hl2
  refine wpL_exs rfl (x_storeN 64 I116 rfl (ha2) rfl rfl (rfl) (((mget i s.pend).getD sec0).2)) ?_
  rintro w3 ⟨ha3, hc3, hs3⟩
  refine wpL_value rfl x_assign ?_
  refine wpL_nil (thenE_norm ?_)
  refine wpE_seq ?_
  refine wpE_region ?_
  refine wpL_value rfl x_move ?_
  refine wpL_nil (thenE_norm ?_)
  have hc03 := (hc1.tr hc2).t1 hc3 (by omega)
  have ha1' := (ha1.chg0 hc2).nb hc3 (by omega)
  refine wpE_cond rfl (fun h => ?_) (fun h => ?_)
  · skip
    refine wpE_seq ?_
    refine wpE_region ?_
    refine wpL_value rfl (x_loadN 64 Tryz.underlying116 rfl I116 rfl rfl (ha3) (((mget i s.pend).getD sec0).2)) ?_
    refine wpL_exs rfl (x_storeN 64 I116 rfl (ha1') rfl rfl (rfl) (((mget i s.pend).getD sec0).2)) ?_
    rintro w4 ⟨ha4, hc4, hs4⟩
    refine wpL_nil (thenE_norm ?_)
    refine wpE_ret (thenE_ret (fin_retR ?_))
    have he : (mget i s.pend).getD sec0 = s.now i := by
      unfold DSt.now
      have hob4 := Option.isSome_iff_exists.1 h
      obtain ⟨c, hc⟩ := hob4
      rw [hc]; rfl
    rw [he] at ha4
    exact ⟨[arrV (s.now i).1], ⟨⟨_, rfl, run_loadN 64 Tryz.underlying116 rfl I116 rfl ha4 (s.now i).2⟩, trivial⟩, rfl, hc03.t1 hc4 (by omega)⟩
  · skip
    refine wpE_skip (thenE_norm ?_)
    refine wpE_seq ?_
    refine wpE_region ?_
    refine wpL_value rfl x_move (wpL_value rfl (x_nil rfl) (wpL_value rfl (x_fieldAddr Tryz.underlying89 rfl I86 rfl rfl) ?_))
    have hob5 := hk.form rfl
    obtain ⟨pk, ck, rfl⟩ := hob5
    refine wpL_value rfl (x_load Tryz.underlying86 rfl rfl ((hb.chg0 hc03).c (off := 2) rfl)) ?_
    refine wpL_value rfl x_move ?_
    refine wpL_ex rfl (x_idx (i.toNat) Tryz.underlying86 I116 rfl ((hk.mod0 hc03).sl) rfl rfl (by first | rfl | omega) (by omega)) ?_
    rintro _ ⟨bi, oi, rfl, hei, hbi⟩
    refine wpL_value rfl (x_loadAt 64 Tryz.underlying116 rfl I116 rfl ((hk.mod0 hc03).sl.at hei (getD_some (d := sec0) (by omega))) ((s.kept.getD i.toNat sec0).2) rfl) ?_
    refine wpL_exs rfl (x_storeN 64 I116 rfl (ha1') rfl rfl (rfl) ((s.kept.getD i.toNat sec0).2)) ?_
    rintro w4 ⟨ha4, hc4, hs4⟩
    refine wpL_nil (thenE_norm ?_)
    refine wpE_ret (fin_retR ?_)
    have he : s.kept.getD i.toNat sec0 = s.now i := by
      unfold DSt.now
      cases hm : mget i s.pend with
      | none => rfl
      | some c => rw [hm] at h; cases h
    rw [he] at ha4
    exact ⟨[arrV (s.now i).1], ⟨⟨_, rfl, run_loadN 64 Tryz.underlying116 rfl I116 rfl ha4 (s.now i).2⟩, trivial⟩, rfl, hc03.t1 hc4 (by omega)⟩
theorem Write2_ok (w : World) (b r : Nat) (kv bv : Value) (l : List UInt8) (s : DSt) (i : Int) (hd : DiskAt w b kv r s) (hf : s.Fine) (hb : Sl w bv l) (hbb : b ∉ blkOf bv) :
    Ret Tryz.prog 26 #[.pointer (some ⟨b, 0, none⟩), .int .i64 i, bv] w fun v w' => v = .int .i64 (s.write i l).2 ∧ DiskAt w' b kv r (s.write i l).1 ∧ Chg (DF b kv r) w w' := by
  have hob6 := hb.form rfl
  obtain ⟨pb, cb, rfl⟩ := hob6
  obtain ⟨hB, hk, hm, h1, h2, h3⟩ := id hd
  refine enter [6] Tryz.func26 rfl rfl (Nat.le_of_ble_eq_true rfl) ?_
  refine wpE_seq ?_
  refine wpE_region ?_
  refine wpL_value rfl x_assign ?_
  refine wpL_nil (thenE_norm ?_)
  refine wpE_seq ?_
  refine wpE_block ?_
  refine wpE_seq ?_
  refine wpE_region ?_
  refine wpL_value rfl x_move (wpL_value rfl (x_nil rfl) (wpL_value rfl (x_fieldAddr Tryz.underlying89 rfl I85 rfl rfl) ?_))
  refine wpL_call rfl C77 (step_ok w b s.steps s.offAt _ hB hf.steps) ?_
  rintro _ w1 ⟨rfl, hb1, hc1, hs1⟩
  refine wpL_value rfl (x_not rfl) (wpL_value rfl x_assign ?_)
  refine wpL_nil (thenE_norm ?_)
  have hd1 : DiskAt w1 b kv r s.step := hd.turn hb1 hc1 rfl rfl
  have hs0 : s.step.off = (decide (0 < s.offAt) && decide (s.offAt ≤ s.steps + 1)) := rfl
  rw [← hs0]
  refine wpE_cond rfl (fun h => ?_) (fun h => ?_)
  · skip
    refine wpE_seq ?_
    refine wpE_region ?_
    refine wpL_value rfl x_assign ?_
    refine wpL_nil (thenE_norm ?_)
    refine wpE_ret (blockE_ret (thenE_ret (fin_ret ?_)))
    have h : s.step.off = true := by simpa using h
    refine ⟨?_, ?_, DF_sub hc1⟩
    · unfold DSt.write; rw [if_pos h]; rfl
    · unfold DSt.write; rw [if_pos h]; exact hd1
  · skip
    refine wpE_seq ?_
    refine wpE_region ?_
    refine wpL_value rfl x_move (wpL_value rfl x_move ?_)
    have h : s.step.off = false := by simpa using h
    refine wpL_call rfl C75 (is_ok w1 b r kv s.step i hd1) ?_
    rintro _ w2 ⟨rfl, hh2⟩
    have hd2 : DiskAt w2 b kv r s.step := hd1.chg0 (Chg.heap hh2)
    have hc2 : Chg [b] w w2 := hc1.tr0 (Chg.heap hh2)
    have k2 : w2.heap.size = w.heap.size := by rw [hh2.heap]; exact hs1
    have hsi : s.step.is i = s.is i := rfl
    have hsn : s.step.now i = s.now i := rfl
    by_cases hi : s.is i = true
    · skip
      refine wpL_value rfl (x_to (x_not rfl) (congrArg Value.bool (show (!s.step.is i) = false by rw [hsi, hi]; rfl))) ?_
      refine wpL_value rfl x_move (wpL_yes rfl (wpL_value rfl x_move (wpL_yes rfl (wpL_value rfl (x_len_slice rfl Tryz.underlying41) (wpL_yes rfl (wpL_value rfl (x_gtr rfl rfl) (wpL_value rfl (x_pick_f rfl) (wpL_value rfl x_assign ?_))))))))
      refine wpL_nil (thenE_norm ?_)
      refine wpE_cond_d rfl (fun h64 => ?_) (fun h64 => ?_)
      · skip
        refine wpE_seq ?_
        refine wpE_region ?_
        refine wpL_value rfl x_assign ?_
        refine wpL_nil (thenE_norm ?_)
        refine wpE_ret (blockE_ret (thenE_ret (fin_ret ?_)))
        refine ⟨?_, ?_, DF_sub hc2⟩
        · unfold DSt.write; rw [if_neg (by rw [h]; decide), if_pos (by rw [hi, decide_eq_true (by omega)]; rfl)]; rfl
        · unfold DSt.write; rw [if_neg (by rw [h]; decide), if_pos (by rw [hi, decide_eq_true (by omega)]; rfl)]; exact hd2
      · skip
        refine wpE_skip (blockE_norm (thenE_norm ?_))
        refine wpE_seq ?_
        refine wpE_region ?_
        refine wpL_value rfl x_move (wpL_value rfl x_move ?_)
        have hl64 : l.length ≤ 64 := by omega
        refine wpL_call rfl C76 (now_ok w2 b r kv s.step i hd2 (by rw [hsi, hi])) ?_
        rintro _ w3 ⟨rfl, hc3⟩
        rw [hsn]
        refine wpL_allocA (List.replicate 64 (0 : UInt8)) I116 rfl rfl rfl ?_
        rintro w4 b4 hn4 ha4 hc4 hl4
        refine wpL_exs rfl (x_storeN 64 I116 rfl (ha4) rfl rfl (rfl) ((s.now i).2)) ?_
        rintro w5 ⟨ha5, hc5, hs5⟩
        refine wpL_nil (thenE_norm ?_)
        refine wpE_seq ?_
        refine wpE_region ?_
        refine wpL_value rfl (x_arr_full Tryz.underlying116 I5 rfl) ?_
        refine wpL_value rfl x_move ?_
        have hc25 : Chg [] w2 w5 := (hc3.tr hc4).t1 hc5 (by have := hc3.1; omega)
        have hblt := hb.lt
        have hdlt := hd.lt
        have hd5 := hd2.chg0 hc25
        obtain ⟨hB5, hk5, hm5, _⟩ := id hd5
        have hb4 : w2.heap.size ≤ b4 := Nat.le_trans hc3.1 hn4
        have hb5 : Sl w5 (.slice pb l.length cb) l := (hb.mod hc2 (nb1 hbb)).mod0 hc25
        refine wpL_exv rfl (x_copyArr (k := 0) Tryz.underlying41 I5 rfl rfl rfl rfl (hb5.src) (ha5) (by have := (s.now i).2; omega)) ?_
        rintro w6 ⟨ha6, hc6, hs6⟩
        refine wpL_nil (thenE_norm ?_)
        refine wpE_seq ?_
        rw [Nat.min_eq_left hl64, List.take_of_length_le (Nat.le_refl _), spl0, ← putS_eq _ _ hl64] at ha6
        have hbn : ∀ x ∈ DF b kv r, x ∉ [b4] := fun x hx h => by
          have := hdlt x hx
          simp only [List.mem_singleton] at h
          omega
        have hd6 := hd5.chg hc6 hbn
        obtain ⟨hB6, hk6, hm6, _⟩ := id hd6
        refine wpE_draw mixed (.pure 0 (.pure 1 (.pure 2 (.read 3 (.pure 4 (.read 5 (.eff 6 [] .nil))))))) (by kernel_rfl) ?_
        refine wpP_pure rfl rfl rfl (fun _ => x_move) ?_
        refine wpP_pure rfl rfl rfl (fun _ => (x_nil rfl)) ?_
        refine wpP_pure rfl rfl rfl (fun _ => (x_fieldAddr Tryz.underlying89 rfl I87 rfl rfl)) ?_
        refine wpP_rd rfl rfl rfl Tryz.underlying87 rfl rfl (hB6.c (off := 3) rfl) ?_
        refine wpP_pure rfl rfl rfl (fun _ => x_move) ?_
        refine wpP_rdA 64 rfl rfl rfl Tryz.underlying116 rfl I116 rfl rfl (ha6) ((DSt.putS (s.now i) l).2) ?_
        refine wpP_exs rfl rfl rfl (x_mapUpdate (k := i) (v := arrV (DSt.putS (s.now i) l).1) Tryz.underlying87 (keyOk_int Tryz.underlying3) rfl rfl rfl hm6) ?_
        rintro w7 ⟨hm7, hc7, hs7⟩
        refine ⟨trivial, ?_⟩
        refine wpP_nil (thenE_norm ?_)
        refine wpE_seq ?_
        refine wpE_region ?_
        refine wpL_value rfl x_assign ?_
        refine wpL_nil (thenE_norm ?_)
        refine wpE_ret (fin_ret ?_)
        have hc7 : Chg [r] w6 w7 := hc7
        have hw : s.write i l = ({ s.step with pend := msetL i (DSt.putS (s.now i) l) s.pend }, 0) := by
          unfold DSt.write; rw [if_neg (by rw [h]; decide), if_neg (by rw [hi, decide_eq_false (by omega)]; decide)]
        rw [hw]
        rw [msetL_vPend] at hm7
        refine ⟨rfl, ⟨hB6.nb hc7 h1, hk6.mod hc7 (nb1 h3), hm7, h1, h2, h3⟩, ?_⟩
        exact (((DF_sub hc2).tr0 hc25).tn hc6 (by omega)).tr (hc7.mono (fun x hx _ => by simp at hx; subst hx; simp [DF]))
    · skip
      have hi : s.is i = false := by simpa using hi
      refine wpL_value rfl (x_to (x_not rfl) (congrArg Value.bool (show (!s.step.is i) = true by rw [hsi, hi]; rfl))) ?_
      refine wpL_value rfl x_move (wpL_no rfl rfl (wpL_no rfl rfl (wpL_no rfl rfl (wpL_value rfl (x_pick_t rfl) (wpL_value rfl x_assign ?_)))))
      refine wpL_nil (thenE_norm ?_)
      refine wpE_cond_t (rfl) ?_
      refine wpE_seq ?_
      refine wpE_region ?_
      refine wpL_value rfl x_assign ?_
      refine wpL_nil (thenE_norm ?_)
      refine wpE_ret (blockE_ret (thenE_ret (fin_ret ?_)))
      refine ⟨?_, ?_, DF_sub hc2⟩
      · unfold DSt.write; rw [if_neg (by rw [h]; decide), if_pos (by rw [hi]; rfl)]; rfl
      · unfold DSt.write; rw [if_neg (by rw [h]; decide), if_pos (by rw [hi]; rfl)]; exact hd2
theorem Read_ok (w : World) (b r : Nat) (kv : Value) (s : DSt) (i : Int) (hd : DiskAt w b kv r s) :
    Ret Tryz.prog 25 #[.pointer (some ⟨b, 0, none⟩), .int .i64 i] w fun v w' => Chg [] w w' ∧ (if s.off then v = .tuple #[.slice none 0 0, .int .i64 61] else if s.is i then ∃ p, v = .tuple #[p, .int .i64 0] ∧ Sl w' p (s.now i).1 ∧ In p [] w.heap.size else v = .tuple #[.slice none 0 0, .int .i64 60]) := by
  obtain ⟨hB, hk, hm, h1, h2, h3⟩ := id hd
  refine enter [4, 5] Tryz.func25 rfl rfl (Nat.le_of_ble_eq_true rfl) ?_
  refine wpE_seq ?_
  refine wpE_region ?_
  refine wpL_value rfl x_assign (wpL_value rfl x_assign ?_)
  refine wpL_nil (thenE_norm ?_)
  refine wpE_seq ?_
  refine wpE_block ?_
  refine wpE_seq ?_
  refine wpE_region ?_
  refine wpL_value rfl x_move (wpL_value rfl (x_nil rfl) (wpL_value rfl (x_fieldAddr Tryz.underlying89 rfl I85 rfl rfl) ?_))
  refine wpL_call rfl C74 (off_ok w b s.steps s.offAt _ hB) ?_
  rintro _ w1 ⟨rfl, hh⟩
  refine wpL_value rfl x_assign ?_
  refine wpL_nil (thenE_norm ?_)
  have hs0 : s.off = (decide (0 < s.offAt) && decide (s.offAt ≤ s.steps)) := rfl
  rw [← hs0]
  have hd1 : DiskAt w1 b kv r s := hd.chg0 (Chg.heap hh)
  refine wpE_cond rfl (fun h => ?_) (fun h => ?_)
  · skip
    refine wpE_seq ?_
    refine wpE_region ?_
    refine wpL_value rfl x_assign (wpL_value rfl x_assign ?_)
    refine wpL_nil (thenE_norm ?_)
    refine wpE_ret (blockE_ret (thenE_ret (fin_ret ?_)))
    refine ⟨Chg.heap hh, ?_⟩
    rw [if_pos h]; rfl
  · skip
    refine wpE_seq ?_
    refine wpE_region ?_
    refine wpL_value rfl x_move (wpL_value rfl x_move ?_)
    refine wpL_call rfl C75 (is_ok w1 b r kv s i hd1) ?_
    rintro _ w2 ⟨rfl, hh2⟩
    refine wpL_value rfl (x_not rfl) (wpL_value rfl x_assign ?_)
    refine wpL_nil (thenE_norm ?_)
    have hd2 : DiskAt w2 b kv r s := hd1.chg0 (Chg.heap hh2)
    have hc2 : Chg [] w w2 := (Chg.heap hh).tr (Chg.heap hh2)
    refine wpE_cond rfl (fun hi => ?_) (fun hi => ?_)
    · skip
      refine wpE_seq ?_
      refine wpE_region ?_
      refine wpL_value rfl x_assign (wpL_value rfl x_assign ?_)
      refine wpL_nil (thenE_norm ?_)
      refine wpE_ret (blockE_ret (thenE_ret (fin_ret ?_)))
      have hi : s.is i = false := by simpa using hi
      refine ⟨hc2, ?_⟩
      rw [if_neg (by rw [h]; decide), if_neg (by rw [hi]; decide)]; rfl
    · skip
      refine wpE_skip (blockE_norm (thenE_norm ?_))
      refine wpE_seq ?_
      refine wpE_region ?_
      refine wpL_value rfl x_move (wpL_value rfl x_move ?_)
      have hi : s.is i = true := by simpa using hi
      refine wpL_call rfl C76 (now_ok w2 b r kv s i hd2 hi) ?_
      rintro _ w3 ⟨rfl, hc3⟩
      refine wpL_allocA (List.replicate 64 (0 : UInt8)) I116 rfl rfl rfl ?_
      rintro w4 b4 hn4 ha4 hc4 hl4
      refine wpL_exs rfl (x_storeN 64 I116 rfl (ha4) rfl rfl (rfl) ((s.now i).2)) ?_
      rintro w5 ⟨ha5, hc5, hs5⟩
      refine wpL_nil (thenE_norm ?_)
      refine wpE_seq ?_
      refine wpE_region ?_
      refine wpL_value rfl (x_arr_full Tryz.underlying116 I5 rfl) ?_
      refine wpL_value rfl x_assign (wpL_value rfl x_assign ?_)
      refine wpL_nil (thenE_norm ?_)
      refine wpE_ret (fin_ret ?_)
      refine ⟨((hc2.tr hc3).tr hc4).t1 hc5 (by have := hc2.1; have := hc3.1; omega), ?_⟩
      rw [if_neg (by rw [h]; decide), if_pos hi]
      exact ⟨_, rfl, ha5.sl (s.now i).2 (Nat.le_refl _), In.of_ge (by have := hc2.1; have := hc3.1; omega)⟩
theorem Flush_ok (w : World) (b r : Nat) (kv : Value) (s : DSt) (hd : DiskAt w b kv r s) (hf : s.Fine) :
    Ret Tryz.prog 27 #[.pointer (some ⟨b, 0, none⟩)] w fun v w' => v = .int .i64 s.flush.2 ∧ DiskAt w' b kv r s.flush.1 ∧ Chg (DF b kv r) w w' := by
  obtain ⟨hB, hk, hm, h1, h2, h3⟩ := id hd
  have hob7 := hk.form rfl
  obtain ⟨pk, ck, hkv⟩ := hob7
  refine enter [2] Tryz.func27 rfl rfl (Nat.le_of_ble_eq_true rfl) ?_
  refine wpE_seq ?_
  refine wpE_region ?_
  refine wpL_value rfl x_assign ?_
  refine wpL_nil (thenE_norm ?_)
  refine wpE_seq ?_
  refine wpE_seq ?_
  refine wpE_region ?_
  refine wpL_value rfl x_move (wpL_value rfl (x_nil rfl) (wpL_value rfl (x_fieldAddr Tryz.underlying89 rfl I85 rfl rfl) ?_))
  refine wpL_call rfl C77 (step_ok w b s.steps s.offAt _ hB hf.steps) ?_
  rintro _ w1 ⟨rfl, hb1, hc1, hs1⟩
  refine wpL_value rfl (x_not rfl) ?_
  refine wpL_nil (thenE_norm ?_)
  have hd1 : DiskAt w1 b kv r s.step := hd.turn hb1 hc1 rfl rfl
  have hs0 : s.step.off = (decide (0 < s.offAt) && decide (s.offAt ≤ s.steps + 1)) := rfl
  rw [← hs0]
  refine wpE_cond rfl (fun h => ?_) (fun h => ?_)
  · skip
    refine wpE_seq ?_
    refine wpE_region ?_
    refine wpL_value rfl x_assign ?_
    refine wpL_nil (thenE_norm ?_)
    refine wpE_ret (thenE_ret (fin_ret ?_))
    have h : s.step.off = true := by simpa using h
    refine ⟨?_, ?_, DF_sub hc1⟩
    · unfold DSt.flush; rw [if_pos h]; rfl
    · unfold DSt.flush; rw [if_pos h]; exact hd1
  · skip
    refine wpE_skip (thenE_norm ?_)
    refine wpE_seq ?_
    refine wpE_seq ?_
    refine wpE_region ?_
    refine wpL_value rfl x_move (wpL_value rfl (x_nil rfl) (wpL_value rfl (x_fieldAddr Tryz.underlying89 rfl I87 rfl rfl) ?_))
    have h : s.step.off = false := by simpa using h
    refine wpL_value rfl (x_load Tryz.underlying87 rfl rfl (hb1.c (off := 3) rfl)) ?_
    obtain ⟨hB1, hk1, hm1, _⟩ := id hd1
    have hdlt := hd1.lt
    refine wpL_exv rfl (x_range Tryz.underlying87 rfl hm1) ?_
    rintro w2 ⟨hit, hc2, hs2⟩
    refine wpL_nil (thenE_norm ?_)
    refine wpE_block ?_
    have hq : w1.heap.size ∉ DF b kv r := fun h => by have := hdlt _ h; omega
    generalize hqq : w1.heap.size = q at *
    have hnd : (s.pend.map (·.1)).Nodup := by have := hm1.nodup; rwa [vPend_keys] at this
    refine wpE_loop [] [3, 4, 15, 16, 17, 18, 19, 20, 21, 22, 23, 24, 25, 26] (fun n vs w' => ∃ (done left : List (Int × Sec)), vs = [] ∧ left.length = n ∧ (done ++ left).Perm s.pend ∧ IterAt w' q r (vPend s.pend) (vPend left) ∧ Own w' kv (DSt.apply s.kept done) ∧ Chg (q :: blkOf kv) w2 w') (s.pend.length) (by kernel_rfl) ?_ ?_
    · exact ⟨[], s.pend, rfl, rfl, List.Perm.refl _, hit, by rw [apply_nil]; exact hk1.mod0 hc2, Chg.refl' _ _⟩
    · rintro n vs J w3 ⟨done, left, rfl, hln, hperm, hit3, ho3, hc3⟩
      refine wpE_seq ?_
      refine wpE_region ?_
      refine wpL_next rfl (hit3) rfl ?_ ?_
      · rintro h0
        refine wpL_value rfl (x_extract rfl rfl) ?_
        refine wpL_nil (thenE_norm ?_)
        refine wpE_seq ?_
        refine wpE_cond_f (rfl) ?_
        refine wpE_exit (thenE_exit (thenE_exit (blockE_exit (thenE_norm ?_))))
        refine wpE_seq ?_
        refine wpE_region ?_
        refine wpL_value rfl x_move (wpL_value rfl (x_nil rfl) (wpL_value rfl (x_fieldAddr Tryz.underlying89 rfl I87 rfl rfl) ?_))
        have hle : left = [] := by
          cases left with
          | nil => rfl
          | cons _ _ => simp [vPend] at h0
        subst hle
        rw [List.append_nil] at hperm
        have hap := apply_perm hperm (by exact (hperm.map _).nodup_iff.2 hnd) s.kept
        rw [hap] at ho3
        have hB3 : Blk w3 b [.int .i64 s.step.steps, .int .i64 s.step.offAt, kv, .map (some r)] := (hB1.chg0 hc2).chg hc3 (by
          simp only [List.mem_cons, not_or]
          exact ⟨fun h => hq (by simp [DF, ← h]), h2⟩)
        refine wpL_value rfl (x_load Tryz.underlying87 rfl rfl (hB3.c (off := 3) rfl)) ?_
        refine wpL_exv rfl (x_clear_map (κ := Int) Tryz.underlying87 rfl hit3.map) ?_
        rintro w4 ⟨hm4, hc4, hs4⟩
        refine wpL_nil (thenE_norm ?_)
        refine wpE_seq ?_
        refine wpE_region ?_
        refine wpL_value rfl x_assign ?_
        refine wpL_nil (thenE_norm ?_)
        refine wpE_ret (fin_ret ?_)
        have hw : s.flush = ({ s.step with kept := DSt.apply s.kept s.pend, pend := [] }, 0) := by
          unfold DSt.flush; rw [if_neg (by rw [h]; decide)]
        rw [hw]
        refine ⟨rfl, ⟨hB3.nb hc4 h1, ho3.mod hc4 (nb1 h3), hm4, h1, h2, h3⟩, ?_⟩
        have k1 : Chg (DF b kv r) w w2 := (DF_sub hc1).tr0 hc2
        have k2 : Chg (DF b kv r) w w3 := k1.trans hc3 (fun _ h _ => h) (fun x hx hl => by
          simp only [List.mem_cons] at hx
          rcases hx with rfl | hx
          · omega
          · simp [DF, hx])
        exact k2.tr (hc4.mono (fun x hx _ => by simp at hx; subst hx; simp [DF]))
      · rintro a k v b' w4 hsp hit4 hcur hc4 hs4
        refine wpL_value rfl (x_extract rfl rfl) ?_
        refine wpL_nil (thenE_norm ?_)
        refine wpE_seq ?_
        refine wpE_cond_t (rfl) ?_
        refine wpE_skip (thenE_norm ?_)
        refine wpE_block ?_
        refine wpE_seq ?_
        refine wpE_region ?_
        have hob8 := vPend_split _ _ _ _ _ hsp
        obtain ⟨a', c, b'', rfl, rfl, rfl, rfl⟩ := hob8
        rw [← vPend_append] at hit4
        have hmem : (k, c) ∈ s.pend := hperm.mem_iff.1 (by simp)
        have hob9 := hf.keys _ hmem
        obtain ⟨hk0, hkl⟩ := hob9
        simp only at hk0 hkl
        have hal := apply_length s.kept done
        have hkn : k ∉ done.map (·.1) := by
          have h1 := (hperm.map (·.1)).nodup_iff.2 hnd
          rw [List.map_append, List.nodup_append] at h1
          intro hk
          exact h1.2.2 k hk k (by simp) rfl
        have hB3 : Blk w3 b [.int .i64 s.step.steps, .int .i64 s.step.offAt, kv, .map (some r)] := (hB1.chg0 hc2).chg hc3 (by
          simp only [List.mem_cons, not_or]
          exact ⟨fun h => hq (by simp [DF, ← h]), h2⟩)
        have hqv : q ∉ blkOf kv := fun h => hq (by simp [DF, h])
        have hqr : r ≠ q := fun h => hq (by simp [DF, ← h])
        have hB4 := hB3.nb hc4 (fun h => hq (by simp [DF, ← h]))
        have ho4 := ho3.mod hc4 (nb1 hqv)
        subst hkv
        refine wpL_value rfl (x_entry rfl hcur) ?_
        refine wpL_value rfl (x_extract rfl rfl) (wpL_value rfl (x_extract rfl rfl) ?_)
        refine wpL_allocA (List.replicate 64 (0 : UInt8)) I116 rfl rfl rfl ?_
        rintro w5 b5 hn5 ha5 hc5 hl5
        refine wpL_value rfl x_assign ?_
        refine wpL_exs rfl (x_storeN 64 I116 rfl (ha5) rfl rfl (rfl) (c.2)) ?_
        rintro w6 ⟨ha6, hc6, hs6⟩
        refine wpL_nil (thenE_norm ?_)
        have hc46 : Chg [] w4 w6 := hc5.t1 hc6 hn5
        have hB6 := hB4.chg0 hc46
        have ho6 := ho4.mod0 hc46
        refine wpE_draw mixed (.pure 0 (.pure 1 (.pure 2 (.read 3 (.pure 4 (.read 5 (.pure 6 (.eff 7 [] .nil)))))))) (by kernel_rfl) ?_
        refine wpP_pure rfl rfl rfl (fun _ => x_move) ?_
        refine wpP_pure rfl rfl rfl (fun _ => (x_nil rfl)) ?_
        refine wpP_pure rfl rfl rfl (fun _ => (x_fieldAddr Tryz.underlying89 rfl I86 rfl rfl)) ?_
        refine wpP_rd rfl rfl rfl Tryz.underlying86 rfl rfl (hB6.c (off := 2) rfl) ?_
        refine wpP_pure rfl rfl rfl (fun _ => x_move) ?_
        refine wpP_rdA 64 rfl rfl rfl Tryz.underlying116 rfl I116 rfl rfl (ha6) (c.2) ?_
        refine wpP_ex rfl rfl rfl (x_idx (k.toNat) Tryz.underlying86 I116 rfl (ho6.sl) rfl rfl (by first | rfl | omega) (by omega)) ?_
        rintro _ ⟨bi, oi, rfl, hei, hbi⟩
        refine wpP_exs rfl rfl rfl (x_storeO (a := c) I116 rfl (ho6) rfl (hei) rfl rfl (by omega)) ?_
        rintro w7 ⟨ho7, hc7, hs7⟩
        refine ⟨trivial, ?_⟩
        refine wpP_nil (blockE_norm (thenE_norm ?_))
        have hc7 : Chg (blkOf (.slice pk s.kept.length ck)) w6 w7 := hc7
        rw [← apply_snoc _ _ _ _ hk0 hkn] at ho7
        have hll : (a' ++ (k, c) :: b'').length = (a' ++ b'').length + 1 := by simp; omega
        refine Exists.intro ((a' ++ b'').length) (And.intro (by omega) ?_)
        refine ⟨done ++ [(k, c)], a' ++ b'', rfl, rfl, ?_, ?_, ho7, ?_⟩
        · refine List.Perm.trans ?_ hperm
          rw [List.append_assoc]
          exact List.Perm.append_left _ (by simpa using List.perm_middle.symm)
        · exact (hit4.mod hc46 (by simp) (by simp)).mod hc7 hqv h3
        · have k1 : Chg (q :: blkOf (.slice pk s.kept.length ck)) w2 w4 := hc3.trans hc4 (fun _ h _ => h) (fun x hx _ => by simp at hx; subst hx; simp)
          exact (k1.tr0 hc46).trans hc7 (fun _ h _ => h) (fun x hx _ => by simp [hx])
theorem torn_ok (was now : Sec) (c : UInt8) (w : World) :
    Ret Tryz.prog 85 #[arrV was.1, arrV now.1, .int .u8 c.toNat] w fun v w' => v = arrV (tornS was now c).1 ∧ Chg [] w w' := by
  have hc64 : (c % 64).toNat = c.toNat % 64 := by rw [UInt8.toNat_mod]; rfl
  have hwl := was.2
  have hnl := now.2
  have htl := tornN_le c
  refine enterR [.cell 6 116] Tryz.func85 rfl rfl (Nat.le_of_ble_eq_true rfl) ?_
  refine wpE_seq ?_
  refine wpE_region ?_
  refine wpL_boxA (l := was.1) rfl rfl ?_
  rintro w1 b1 hn1 ha1 hc1 hl1
  refine wpL_boxA (l := now.1) rfl rfl ?_
  rintro w2 b2 hn2 ha2 hc2 hl2
  refine wpL_allocA (List.replicate 64 (0 : UInt8)) I116 rfl rfl rfl ?_
  rintro w3 b3 hn3 ha3 hc3 hl3
  refine wpL_nil (thenE_norm ?_)
  refine wpE_seq ?_
  refine wpE_region ?_
  refine wpL_value rfl x_move (wpL_value rfl (x_rem8u (b := 64) rfl rfl (by decide)) (wpL_value rfl (x_convI rfl Tryz.underlying5 Tryz.underlying3 (by omega)) (wpL_value rfl x_assign ?_)))
  refine wpL_nil (thenE_norm ?_)
  refine wpE_seq ?_
  refine wpE_seq ?_
  refine wpE_region ?_
  refine wpL_value rfl x_move (wpL_value rfl (x_eql8u (b := 255) rfl rfl) ?_)
  refine wpL_nil (thenE_norm ?_)
  refine wpE_cond_d rfl (fun h => ?_) (fun h => ?_)
  · skip
    refine wpE_region ?_
    refine wpL_value rfl x_assign ?_
    refine wpL_nil (thenE_norm ?_)
    refine wpE_seq ?_
    have hN : tornN c = 64 := by unfold tornN; rw [if_pos h]
    refine wpE_draw mixed (.pure 0 (.pure 1 (.pure 2 (.pure 3 (.eff 4 [] .nil))))) (by kernel_rfl) ?_
    refine wpP_pure rfl rfl rfl (fun _ => x_move) ?_
    refine wpP_pure rfl rfl rfl (fun _ => x_arr_to (tornN c) Tryz.underlying116 I5 rfl rfl (by first | rfl | omega) (by omega)) ?_
    refine wpP_pure rfl rfl rfl (fun _ => x_move) ?_
    refine wpP_pure rfl rfl rfl (fun _ => x_arr_to (tornN c) Tryz.underlying116 I5 rfl rfl (by first | rfl | omega) (by omega)) ?_
    refine wpP_exv rfl rfl rfl (x_copyArr (k := 0) Tryz.underlying41 I5 rfl rfl rfl rfl ((((ha2.chg0 hc3).slc (i := 0) (n := tornN c) (c := 64) rfl (by omega) htl)).srcH rfl) (((ha1.chg0 hc2).chg0 hc3)) (by omega)) ?_
    rintro w4 ⟨ha4, hc4, hs4⟩
    refine ⟨trivial, ?_⟩
    refine wpP_nil (thenE_norm ?_)
    refine wpE_seq ?_
    refine wpE_region ?_
    have hc4 : Chg [b1] w3 w4 := hc4
    have htk : ((now.1.drop 0).take (tornN c)).length = tornN c := by rw [List.drop_zero, List.length_take]; omega
    rw [htk, Nat.min_self, List.take_of_length_le (Nat.le_of_eq htk), spl0, htk, List.drop_zero] at ha4
    have ha4 : Arr w4 b1 (tornS was now c).1 := ha4
    refine wpL_value rfl (x_loadN 64 Tryz.underlying116 rfl I116 rfl rfl (ha4) ((tornS was now c).2)) ?_
    refine wpL_exs rfl (x_storeN 64 I116 rfl (ha3.nb hc4 (by omega)) rfl rfl (rfl) ((tornS was now c).2)) ?_
    rintro w5 ⟨ha5, hc5, hs5⟩
    refine wpL_nil (thenE_norm ?_)
    refine wpE_ret (fin_retR ?_)
    exact ⟨[arrV (tornS was now c).1], ⟨⟨_, rfl, run_loadN 64 Tryz.underlying116 rfl I116 rfl ha5 (tornS was now c).2⟩, trivial⟩, rfl, (((hc1.tr hc2).tr hc3).t1 hc4 hn1).t1 hc5 (by omega)⟩
  · skip
    refine wpE_skip (thenE_norm ?_)
    refine wpE_seq ?_
    have hN : tornN c = c.toNat % 64 := by unfold tornN; rw [if_neg h]
    refine wpE_draw mixed (.pure 0 (.pure 1 (.pure 2 (.pure 3 (.eff 4 [] .nil))))) (by kernel_rfl) ?_
    refine wpP_pure rfl rfl rfl (fun _ => x_move) ?_
    refine wpP_pure rfl rfl rfl (fun _ => x_arr_to (tornN c) Tryz.underlying116 I5 rfl rfl (by first | rfl | omega) (by omega)) ?_
    refine wpP_pure rfl rfl rfl (fun _ => x_move) ?_
    refine wpP_pure rfl rfl rfl (fun _ => x_arr_to (tornN c) Tryz.underlying116 I5 rfl rfl (by first | rfl | omega) (by omega)) ?_
    refine wpP_exv rfl rfl rfl (x_copyArr (k := 0) Tryz.underlying41 I5 rfl rfl rfl rfl ((((ha2.chg0 hc3).slc (i := 0) (n := tornN c) (c := 64) rfl (by omega) htl)).srcH rfl) (((ha1.chg0 hc2).chg0 hc3)) (by omega)) ?_
    rintro w4 ⟨ha4, hc4, hs4⟩
    refine ⟨trivial, ?_⟩
    refine wpP_nil (thenE_norm ?_)
    refine wpE_seq ?_
    refine wpE_region ?_
    have hc4 : Chg [b1] w3 w4 := hc4
    have htk : ((now.1.drop 0).take (tornN c)).length = tornN c := by rw [List.drop_zero, List.length_take]; omega
    rw [htk, Nat.min_self, List.take_of_length_le (Nat.le_of_eq htk), spl0, htk, List.drop_zero] at ha4
    have ha4 : Arr w4 b1 (tornS was now c).1 := ha4
    refine wpL_value rfl (x_loadN 64 Tryz.underlying116 rfl I116 rfl rfl (ha4) ((tornS was now c).2)) ?_
    refine wpL_exs rfl (x_storeN 64 I116 rfl (ha3.nb hc4 (by omega)) rfl rfl (rfl) ((tornS was now c).2)) ?_
    rintro w5 ⟨ha5, hc5, hs5⟩
    refine wpL_nil (thenE_norm ?_)
    refine wpE_ret (fin_retR ?_)
    exact ⟨[arrV (tornS was now c).1], ⟨⟨_, rfl, run_loadN 64 Tryz.underlying116 rfl I116 rfl ha5 (tornS was now c).2⟩, trivial⟩, rfl, (((hc1.tr hc2).tr hc3).t1 hc4 hn1).t1 hc5 (by omega)⟩
end Go.Proofs.YtenhmbhflgnhlaaGreat

