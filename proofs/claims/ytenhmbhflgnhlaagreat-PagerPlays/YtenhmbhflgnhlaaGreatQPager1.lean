/- every row of calls, crashes, the power going within a commit: what each tells -/
import Derived.Test.YtenhmbhflgnhlaaGreatQSector2
import Derived.Test.YtenhmbhflgnhlaaGreatQSeal
import Derived.Test.YtenhmbhflgnhlaaGreatSac1
namespace Go.Proofs.YtenhmbhflgnhlaaGreat
open Go Go.Sac
set_option maxRecDepth 100000
set_option maxHeartbeats 4000000
theorem RWrite_ok (w : World) (b r : Nat) (kv bv : Value) (l : List UInt8) (ds : DSt) (i : Int) (hd : DiskAt w b kv r ds) (hf : ds.Fine) (hs : ds.steps + (l.length + 63) / 64 ≤ 1000000000000) (hb : Sl w bv l) (hbb : ∀ x ∈ blkOf bv, x ∉ DF b kv r) (hi : 0 ≤ i ∧ i ≤ 100000) (hl : l.length ≤ 100000) :
    Ret Tryz.prog 68 #[.agg #[.pointer (some ⟨b, 0, none⟩), .int .i64 i], bv] w fun v w' => v = .int .i64 (ds.writes i l).2 ∧ DiskAt w' b kv r (ds.writes i l).1 ∧ Chg (DF b kv r) w w' := by
  obtain ⟨pb, cb, rfl⟩ := hb.form rfl
  have hlt := hd.lt
  refine enter [4] Tryz.func68 rfl rfl (Nat.le_of_ble_eq_true rfl) ?_
  refine wpE_seq ?_
  refine wpE_region ?_
  refine wpL_exw rfl (x_boxB (l := [.pointer (some ⟨b, 0, none⟩), .int .i64 i]) rfl rfl) ?_
  rintro _ w1 ⟨q, rfl, hq, hB, hc1, hl1⟩
  refine wpL_value rfl x_assign ?_
  refine wpL_nil (thenE_norm ?_)
  refine wpE_seq ?_
  refine wpE_seq ?_
  refine wpE_region ?_
  refine wpL_value rfl x_assign ?_
  refine wpL_nil (thenE_norm ?_)
  refine wpE_block ?_
  have hqd : q ∉ DF b kv r := fun h => by have := hlt q h; omega
  refine wpE_loop [1, 5] [1, 4, 5, 6, 7, 8, 9, 10, 11, 12, 13, 14, 15, 16, 17, 18, 19, 20, 21, 22, 23, 24, 25, 26, 27, 28, 29, 30, 31] (fun n vs w' => ∃ (k : Nat) (m : List UInt8) (pv : Option Addr) (cv : Nat) (d : DSt), vs = [.slice pv m.length cv, .int .i64 k] ∧ k + n = (l.length + 63) / 64 ∧ n = (m.length + 63) / 64 ∧ Sl w' (.slice pv m.length cv) m ∧ (∀ x ∈ blkOf (.slice pv m.length cv), x ∉ DF b kv r) ∧ DiskAt w' b kv r d ∧ d.Fine ∧ d.steps ≤ ds.steps + k ∧ ds.writes i l = DSt.wr n d (i + k) m ∧ Chg (DF b kv r) w1 w') ((l.length + 63) / 64) (by kernel_rfl) ?_ ?_
  · exact ⟨0, l, _, _, ds, rfl, by omega, rfl, hb.mod0 hc1, hbb, hd.chg0 hc1, hf, by omega, by rw [DSt.writes]; simp, Chg.refl' _ _⟩
  · rintro n vs J w2 ⟨k, m, pv, cv, d, rfl, hk, hn, hs2, hbb2, hd2, hf2, hst, hwr, hc2⟩
    refine wpE_seq ?_
    refine wpE_seq ?_
    refine wpE_region ?_
    refine wpL_value rfl x_move (wpL_value rfl (x_len_slice rfl Tryz.underlying41) (wpL_value rfl (x_gtr rfl rfl) ?_))
    refine wpL_nil (thenE_norm ?_)
    refine wpE_cond_d rfl (fun h => ?_) (fun h => ?_)
    · skip
      refine wpE_skip (thenE_norm ?_)
      refine wpE_seq ?_
      refine wpE_block ?_
      refine wpE_seq ?_
      refine wpE_region ?_
      refine wpL_value rfl x_move (wpL_value rfl (x_len_slice rfl Tryz.underlying41) (wpL_value rfl (x_min rfl rfl) (wpL_value rfl x_assign ?_)))
      refine wpL_nil (thenE_norm ?_)
      refine wpE_seq ?_
      refine wpE_seq ?_
      have hob1 : ∃ q, n = q + 1 := ⟨n - 1, by omega⟩
      obtain ⟨n, rfl⟩ := hob1
      have hB2 := hB.chg hc2 hqd
      have hmin : min (m.length : Int) 64 = ((min m.length 64 : Nat) : Int) := by omega
      rw [hmin]
      refine wpE_draw mixed (.pure 0 (.read 1 (.pure 2 (.read 3 (.pure 4 (.pure 5 (.pure 6 (.pure 7 (.pure 8 (.eff 9 [] (.pure 10 .nil))))))))))) (by kernel_rfl) ?_
      refine wpP_pure rfl rfl rfl (fun _ => (x_fieldAddr Tryz.underlying133 rfl I25 rfl rfl)) ?_
      refine wpP_rd rfl rfl rfl Tryz.underlying25 rfl rfl (hB2.c (off := 0) rfl) ?_
      refine wpP_pure rfl rfl rfl (fun _ => (x_fieldAddr Tryz.underlying133 rfl I3 rfl rfl)) ?_
      refine wpP_rd rfl rfl rfl Tryz.underlying3 rfl rfl (hB2.c (off := 1) rfl) ?_
      refine wpP_pure rfl rfl rfl (fun _ => x_move) ?_
      refine wpP_pure rfl rfl rfl (fun _ => (x_add64 rfl rfl (by omega))) ?_
      refine wpP_pure rfl rfl rfl (fun _ => x_move) ?_
      refine wpP_pure rfl rfl rfl (fun _ => x_move) ?_
      refine wpP_ex rfl rfl rfl (x_upto (min m.length 64) Tryz.underlying41 I5 hs2 rfl rfl rfl (by omega)) ?_
      rintro _ ⟨⟨p4, c4, rfl⟩, hs4, hbl4⟩
      have htk : m.take (min m.length 64) = m.take 64 := by
        rw [Nat.min_comm, ← List.take_take, List.take_length]
      rw [htk] at hs4
      have hdr : m.drop (min m.length 64) = m.drop 64 := by
        by_cases h64 : 64 ≤ m.length
        · rw [Nat.min_eq_right h64]
        · rw [Nat.min_eq_left (by omega), List.drop_length, List.drop_of_length_le (by omega)]
      refine wpP_call rfl rfl rfl C26 (Write2_ok _ b r kv _ (m.take 64) d (i + k) (hd2.chg0 (drw _)) hf2 (hs4.mod0 (drw _)) (fun h => hbb2 b (by rw [← hbl4]; exact h) (by simp [DF]))) ?_
      rintro _ w3 ⟨rfl, hd3, hc3⟩
      refine ⟨trivial, ?_⟩
      refine wpP_pure rfl rfl rfl (fun _ => x_assign) ?_
      refine wpP_nil (thenE_norm ?_)
      refine wpE_seq ?_
      refine wpE_region ?_
      refine wpL_value rfl x_move (wpL_value rfl (x_neq rfl rfl) ?_)
      refine wpL_nil (thenE_norm ?_)
      have hc3 : Chg (DF b kv r) w2 w3 := hc3
      have hwr2 : ds.writes i l = DSt.wr (n + 1) d (i + k) m := hwr
      rw [DSt.wr] at hwr2
      refine wpE_cond_d rfl (fun hne => ?_) (fun hne => ?_)
      · skip
        refine wpE_seq ?_
        refine wpE_region ?_
        refine wpL_value rfl x_move (wpL_value rfl x_assign ?_)
        refine wpL_nil (thenE_norm ?_)
        refine wpE_ret (thenE_ret (blockE_ret (thenE_ret (thenE_ret (blockE_ret (thenE_ret (fin_ret ?_)))))))
        rw [if_neg hne] at hwr2
        exact ⟨by rw [hwr2]; rfl, by rw [hwr2]; exact hd3, hc1.tr0' (hc2.tr hc3)⟩
      · skip
        refine wpE_skip (thenE_norm ?_)
        refine wpE_region ?_
        refine wpL_value rfl x_move (wpL_value rfl x_move ?_)
        have he : (d.write (i + k) (m.take 64)).2 = 0 := Decidable.not_not.1 hne
        rw [if_pos he] at hwr2
        refine wpL_ex rfl (x_from (min m.length 64) Tryz.underlying41 I5 rfl (hs2.mod hc3 hbb2) rfl rfl rfl (by omega)) ?_
        rintro _ ⟨⟨p5, c5, rfl⟩, hs5, hbl5⟩
        refine wpL_value rfl x_assign ?_
        refine wpL_nil (blockE_norm (thenE_norm ?_))
        refine wpE_region ?_
        refine wpL_value rfl x_move (wpL_value rfl (x_add64 rfl rfl (by omega)) (wpL_value rfl x_assign ?_))
        refine wpL_nil (thenE_norm ?_)
        rw [hdr] at hs5
        have hdl : (m.drop 64).length = m.length - min m.length 64 := by rw [List.length_drop]; omega
        rw [← hdl] at hs5
        rw [← hdl]
        refine Exists.intro (n) (And.intro (by omega) ?_)
        refine ⟨k + 1, m.drop 64, _, _, _, vs_cons rfl (vs_cons (int_eq (by omega)) vs_nil), by omega, by rw [List.length_drop]; omega, hs5, fun x hx => hbb2 x (by rw [hdl] at hx; rw [← hbl5]; exact hx), hd3, hf2.write (by omega) _ _, ?_, ?_, hc2.tr hc3⟩
        · have := DSt.write_steps d (i + k) (m.take 64)
          omega
        · rw [hwr2]
          congr 1
          omega
    · skip
      refine wpE_exit (thenE_exit (thenE_exit (blockE_exit (thenE_norm ?_))))
      refine wpE_seq ?_
      refine wpE_region ?_
      refine wpL_value rfl x_assign ?_
      refine wpL_nil (thenE_norm ?_)
      refine wpE_ret (fin_ret ?_)
      have hn0 : n = 0 := by omega
      subst hn0
      rw [DSt.wr] at hwr
      rw [hwr]
      exact ⟨rfl, hd2, hc1.tr0' hc2⟩
theorem RRead_ok (w : World) (b r : Nat) (kv : Value) (ds : DSt) (i : Int) (n : Nat) (hd : DiskAt w b kv r ds) (ho : ds.off = false) (hi : 0 ≤ i ∧ i + n ≤ ds.kept.length) (hk : ds.kept.length ≤ 4000) (hn : n ≤ 1000) :
    Ret Tryz.prog 80 #[.agg #[.pointer (some ⟨b, 0, none⟩), .int .i64 i], .int .i64 n] w fun v w' => ∃ p, v = .tuple #[p, .int .i64 0] ∧ Own w' p (ds.reads i n) ∧ Chg [] w w' ∧ In p [] w.heap.size := by
  refine enter [4, 5] Tryz.func80 rfl rfl (Nat.le_of_ble_eq_true rfl) ?_
  refine wpE_seq ?_
  refine wpE_region ?_
  refine wpL_exw rfl (x_boxB (l := [.pointer (some ⟨b, 0, none⟩), .int .i64 i]) rfl rfl) ?_
  rintro _ w1 ⟨q, rfl, hq, hB, hc1, hl1⟩
  refine wpL_value rfl x_assign (wpL_value rfl x_assign ?_)
  refine wpL_nil (thenE_norm ?_)
  refine wpE_seq ?_
  refine wpE_region ?_
  refine wpL_value rfl x_assign ?_
  refine wpL_nil (thenE_norm ?_)
  refine wpE_seq ?_
  refine wpE_seq ?_
  refine wpE_region ?_
  refine wpL_value rfl x_move (wpL_value rfl x_move ?_)
  refine wpL_nil (thenE_norm ?_)
  refine wpE_block ?_
  refine wpE_loop [6, 11] [4, 5, 6, 7, 8, 9, 11, 12, 13, 14, 15, 16, 17, 18, 19, 20, 21, 22, 23, 24, 25, 26, 27, 28, 29, 30] (fun m vs w' => ∃ (k : Nat) (v : Value), vs = [v, .int .i64 k] ∧ k + m = n ∧ Own w' v (ds.reads i k) ∧ Chg [] w1 w' ∧ In v [] w1.heap.size) (n) (by kernel_rfl) ?_ ?_
  · exact ⟨0, _, rfl, by omega, Own.nil _, Chg.refl _, In.nil⟩
  · rintro m vs J w2 ⟨k, v, rfl, hk2, ho2, hc2, hi2⟩
    refine wpE_seq ?_
    refine wpE_region ?_
    refine wpL_value rfl (x_lss rfl rfl) ?_
    refine wpL_nil (thenE_norm ?_)
    refine wpE_seq ?_
    refine wpE_cond_d rfl (fun h => ?_) (fun h => ?_)
    · skip
      refine wpE_skip (thenE_norm ?_)
      refine wpE_seq ?_
      refine wpE_block ?_
      refine wpE_seq ?_
      refine wpE_region ?_
      refine wpL_value rfl x_move (wpL_value rfl x_assign ?_)
      refine wpL_nil (thenE_norm ?_)
      refine wpE_seq ?_
      refine wpE_region ?_
      refine wpL_value rfl (x_fieldAddr Tryz.underlying133 rfl I25 rfl rfl) ?_
      have hob2 : ∃ q, m = q + 1 := ⟨m - 1, by omega⟩
      obtain ⟨m, rfl⟩ := hob2
      have hB2 := hB.chg0 hc2
      refine wpL_value rfl (x_load Tryz.underlying25 rfl rfl (hB2.c (off := 0) rfl)) ?_
      refine wpL_value rfl (x_fieldAddr Tryz.underlying133 rfl I3 rfl rfl) ?_
      refine wpL_value rfl (x_load Tryz.underlying3 rfl rfl (hB2.c (off := 1) rfl)) ?_
      refine wpL_value rfl x_move (wpL_value rfl (x_add64 rfl rfl (by omega)) ?_)
      refine wpL_call rfl C25 (Read_ok w2 b r kv ds (i + k) ((hd.chg0 hc1).chg0 hc2)) ?_
      rintro v3 w3 ⟨hc3, hv3⟩
      rw [if_neg (by rw [ho]; decide), if_pos (by unfold DSt.is; rw [decide_eq_true (by omega), decide_eq_true (by omega)]; rfl)] at hv3
      obtain ⟨p3, rfl, hs3, hi3⟩ := hv3
      refine wpL_value rfl x_move (wpL_value rfl (x_extract rfl rfl) (wpL_value rfl (x_extract rfl rfl) (wpL_value rfl x_assign (wpL_value rfl x_assign ?_))))
      refine wpL_nil (thenE_norm ?_)
      refine wpE_seq ?_
      refine wpE_seq ?_
      refine wpE_region ?_
      refine wpL_value rfl x_move (wpL_value rfl (x_neq rfl rfl) ?_)
      refine wpL_nil (thenE_norm ?_)
      refine wpE_cond_df rfl (fun h => h rfl) ?_
      refine wpE_skip (thenE_norm ?_)
      refine wpE_region ?_
      refine wpL_value rfl x_move (wpL_value rfl x_move ?_)
      have hl2 := DSt.reads_length ds i k
      have hl3 := (ds.now (i + k)).2
      refine wpL_append Tryz.underlying41 Tryz.underlying41 I5 (.inr ⟨_, rfl⟩) rfl rfl rfl (by decide) rfl (ho2.mod0 hc3) (hs3.src) rfl rfl (by omega) ?_
      rintro v4 w4 h4
      refine wpL_value rfl x_assign ?_
      refine wpL_nil (blockE_norm (thenE_norm ?_))
      refine wpE_region ?_
      refine wpL_value rfl (x_add64 rfl rfl (by omega)) (wpL_value rfl x_move ?_)
      refine wpL_nil (thenE_norm ?_)
      have hob3 := h4.step (hc2.tr hc3) hi2
      obtain ⟨ho4, hc4, hi4⟩ := hob3
      refine Exists.intro (m) (And.intro (by omega) ?_)
      refine ⟨k + 1, v4, vs_cons rfl (vs_cons (int_eq (by omega)) vs_nil), by omega, ?_, hc4, hi4⟩
      rw [DSt.reads_succ]; exact ho4
    · skip
      refine wpE_exit (thenE_exit (thenE_exit (blockE_exit (thenE_norm ?_))))
      refine wpE_seq ?_
      refine wpE_region ?_
      refine wpL_value rfl x_move (wpL_value rfl x_assign (wpL_value rfl x_assign ?_))
      refine wpL_nil (thenE_norm ?_)
      refine wpE_ret (fin_ret ?_)
      have hm : k = n := by omega
      subst hm
      exact ⟨_, rfl, ho2, hc1.tr hc2, hi2.mono (fun _ h => .inl h) hc1.1⟩
theorem many_ok (w : World) (b r : Nat) (kv : Value) (ds : DSt) (hd : DiskAt w b kv r ds) (hk : ds.kept.length ≤ 4000) :
    Ret Tryz.prog 86 #[.pointer (some ⟨b, 0, none⟩)] w fun v w' => v = .int .i64 (manyN ds.kept.length) ∧ Hp w' w := by
  refine enter [2] Tryz.func86 rfl rfl (Nat.le_of_ble_eq_true rfl) ?_
  refine wpE_seq ?_
  refine wpE_region ?_
  refine wpL_value rfl x_assign ?_
  refine wpL_nil (thenE_norm ?_)
  refine wpE_seq ?_
  refine wpE_region ?_
  refine wpL_value rfl x_move ?_
  refine wpL_call rfl C51 (Len_ok w b r kv ds hd) ?_
  rintro _ w1 ⟨rfl, hh1⟩
  refine wpL_value rfl (x_sub64 rfl rfl (by omega)) (wpL_value rfl (x_max rfl rfl) (wpL_value rfl (x_quo64 rfl rfl (by omega)) (wpL_value rfl (x_min rfl rfl) (wpL_value rfl x_assign ?_))))
  refine wpL_nil (thenE_norm ?_)
  refine wpE_ret (fin_ret ?_)
  refine ⟨?_, hh1⟩
  unfold manyN
  rfl
theorem frame_step {n : Nat} {nb m : List UInt8} (hm : 0 < m.length) (hn : n + 1 = (m.length + 55) / 56) : frameN (n + 1) nb m = (nb ++ m.take 56 ++ List.replicate (56 - (m.take 56).length) 0 ++ nb) ++ frameN n nb (m.drop 56) := rfl
theorem framed_ok2 (w : World) (bv : Value) (l : List UInt8) (no : UInt64) (hb : Sl w bv l) (hl : l.length ≤ 100000) :
    Ret Tryz.prog 104 #[bv, .int .u64 no.toNat] w fun v w' => Own w' v (frameL l no) ∧ Chg [] w w' ∧ In v [] w.heap.size := by
  have hob4 := hb.form rfl
  obtain ⟨pb, cb, rfl⟩ := hob4
  refine enter [4] Tryz.func104 rfl rfl (Nat.le_of_ble_eq_true rfl) ?_
  refine wpE_seq ?_
  refine wpE_region ?_
  refine wpL_value rfl x_assign ?_
  refine wpL_nil (thenE_norm ?_)
  refine wpE_seq ?_
  refine wpE_region ?_
  refine wpL_value rfl x_move ?_
  refine wpL_call rfl C64 (Put_ok (.slice none 0 0) [] no 4 w (Own.nil _) (by decide) (by decide)) ?_
  rintro nv w1 ⟨hon, hcn, hin⟩
  refine wpL_value rfl x_assign ?_
  refine wpL_nil (thenE_norm ?_)
  refine wpE_seq ?_
  refine wpE_region ?_
  refine wpL_value rfl x_assign ?_
  refine wpL_nil (thenE_norm ?_)
  refine wpE_seq ?_
  refine wpE_block ?_
  have hcn : Chg [] w w1 := hcn
  have hin : In nv [] w.heap.size := hin
  rw [List.nil_append] at hon
  have hnl : (be 4 no.toNat).length = 4 := be_length _ _
  refine wpE_loop [0, 6] [0, 6, 7, 8, 11, 12, 13, 14, 15, 16, 17, 18, 19, 20, 21, 22, 23, 24, 25, 26, 27, 28, 29, 30, 31, 32, 33, 34] (fun n vs w' => ∃ (k : Nat) (m pre : List UInt8) (pv : Option Addr) (cv : Nat) (v : Value), vs = [.slice pv m.length cv, v] ∧ k + n = (l.length + 55) / 56 ∧ n = (m.length + 55) / 56 ∧ m.length ≤ l.length ∧ Sl w (.slice pv m.length cv) m ∧ Own w' v pre ∧ pre.length = 64 * k ∧ frameL l no = pre ++ frameN n (be 4 no.toNat) m ∧ Chg [] w1 w' ∧ In v [] w1.heap.size) ((l.length + 55) / 56) (by kernel_rfl) ?_ ?_
  · exact ⟨0, l, [], _, _, _, rfl, by omega, rfl, by omega, hb, Own.nil _, rfl, rfl, Chg.refl _, In.nil⟩
  · rintro n vs J w2 ⟨k, m, pre, pv, cv, ov, rfl, hk, hn, hml, hs2, ho2, hpl, hfr, hc2, hi2⟩
    refine wpE_seq ?_
    refine wpE_seq ?_
    refine wpE_region ?_
    refine wpL_value rfl x_move (wpL_value rfl (x_len_slice rfl Tryz.underlying41) (wpL_value rfl (x_gtr rfl rfl) ?_))
    refine wpL_nil (thenE_norm ?_)
    refine wpE_cond_d rfl (fun h => ?_) (fun h => ?_)
    · skip
      refine wpE_skip (thenE_norm ?_)
      refine wpE_block ?_
      refine wpE_seq ?_
      refine wpE_region ?_
      refine wpL_value rfl x_move (wpL_value rfl (x_len_slice rfl Tryz.underlying41) (wpL_value rfl (x_min rfl rfl) (wpL_value rfl x_assign ?_)))
      refine wpL_nil (thenE_norm ?_)
      refine wpE_seq ?_
      have hob5 : ∃ q, n = q + 1 := ⟨n - 1, by omega⟩
      obtain ⟨n, rfl⟩ := hob5
      have hmin : min (m.length : Int) 56 = ((min m.length 56 : Nat) : Int) := by omega
      rw [hmin]
      have hon2 := hon.mod0 hc2
      have htk : m.take (min m.length 56) = m.take 56 := by
        rw [Nat.min_comm, ← List.take_take, List.take_length]
      have htl : (m.take 56).length = min m.length 56 := by rw [List.length_take, Nat.min_comm]
      have hdr : m.drop (min m.length 56) = m.drop 56 := by
        by_cases h64 : 56 ≤ m.length
        · rw [Nat.min_eq_right h64]
        · rw [Nat.min_eq_left (by omega), List.drop_length, List.drop_of_length_le (by omega)]
      refine wpE_draw mixed (.pure 0 (.pure 2 (.pure 3 (.pure 4 (.eff 1 [] (.eff 5 [] (.pure 6 .nil))))))) (by kernel_rfl) ?_
      refine wpP_pure rfl rfl rfl (fun _ => x_move) ?_
      refine wpP_pure rfl rfl rfl (fun _ => x_move) ?_
      refine wpP_pure rfl rfl rfl (fun _ => x_move) ?_
      refine wpP_ex rfl rfl rfl (x_upto (min m.length 56) Tryz.underlying41 I5 hs2 rfl rfl rfl (by omega)) ?_
      rintro _ ⟨⟨p4, c4, rfl⟩, hs4, hbl4⟩
      rw [htk] at hs4
      refine wpP_exw rfl rfl rfl (x_app Tryz.underlying41 Tryz.underlying41 I5 (.inr ⟨_, rfl⟩) rfl rfl rfl (by decide) (Own.nil _) ((hon2.mod0 (drw _)).sl.src) rfl rfl (by simp [hnl])) ?_
      rintro v3 w3 h3
      refine ⟨trivial, ?_⟩
      have hob6 := h3.step (drw w2) In.nil
      obtain ⟨ho3, hc3, hi3⟩ := hob6
      rw [List.nil_append] at ho3
      refine wpP_exw rfl rfl rfl (x_app Tryz.underlying41 Tryz.underlying41 I5 (.inr ⟨_, rfl⟩) rfl rfl rfl (by decide) (ho3) ((hs4.mod0 ((hcn.tr hc2).tr hc3)).src) rfl rfl (by rw [hnl, htl]; omega)) ?_
      rintro v5 w5 h5
      refine ⟨trivial, ?_⟩
      refine wpP_pure rfl rfl rfl (fun _ => x_assign) ?_
      refine wpP_nil (thenE_norm ?_)
      refine wpE_seq ?_
      refine wpE_region ?_
      refine wpL_value rfl x_move (wpL_value rfl x_move (wpL_value rfl (x_sub64 rfl rfl (by omega)) ?_))
      have hob7 := h5.step hc3 hi3
      obtain ⟨ho5, hc5, hi5⟩ := hob7
      refine wpL_exw rfl (x_appz (56 - min m.length 56) Tryz.underlying41 Tryz.underlying3 I5 rfl rfl (by decide) (ho5) rfl rfl (by first | rfl | omega) (by rw [List.length_append, hnl, htl]; omega)) ?_
      rintro v6 w6 h6
      refine wpL_value rfl x_assign ?_
      refine wpL_nil (thenE_norm ?_)
      refine wpE_seq ?_
      refine wpE_region ?_
      refine wpL_value rfl x_move (wpL_value rfl x_move ?_)
      have hob8 := h6.step hc5 hi5
      obtain ⟨ho6, hc6, hi6⟩ := hob8
      refine wpL_append Tryz.underlying41 Tryz.underlying41 I5 (.inr ⟨_, rfl⟩) rfl rfl rfl (by decide) rfl (ho2.mod0 hc6) (ho6.sl.src) rfl rfl (by simp only [List.length_append, List.length_replicate, hnl, htl]; omega) ?_
      rintro v7 w7 h7
      refine wpL_value rfl x_move ?_
      have hob9 := h7.step (hc2.tr hc6) hi2
      obtain ⟨ho7, hc7, hi7⟩ := hob9
      refine wpL_append Tryz.underlying41 Tryz.underlying41 I5 (.inr ⟨_, rfl⟩) rfl rfl rfl (by decide) rfl (ho7) ((hon.mod0 hc7).sl.src) rfl rfl (by simp only [List.length_append, List.length_replicate, hnl, htl]; omega) ?_
      rintro v8 w8 h8
      refine wpL_value rfl x_assign ?_
      refine wpL_nil (thenE_norm ?_)
      refine wpE_region ?_
      refine wpL_value rfl x_move (wpL_value rfl x_move ?_)
      have hob10 := h8.step hc7 hi7
      obtain ⟨ho8, hc8, hi8⟩ := hob10
      refine wpL_ex rfl (x_from (min m.length 56) Tryz.underlying41 I5 rfl hs2 rfl rfl rfl (by omega)) ?_
      rintro _ ⟨⟨p9, c9, rfl⟩, hs9, hbl9⟩
      refine wpL_value rfl x_assign ?_
      refine wpL_nil (blockE_norm (thenE_norm ?_))
      rw [hdr] at hs9
      have hdl : (m.drop 56).length = m.length - min m.length 56 := by rw [List.length_drop]; omega
      rw [← hdl] at hs9
      rw [← hdl]
      rw [frame_step (by omega) hn, htl] at hfr
      refine Exists.intro (n) (And.intro (by omega) ?_)
      refine ⟨k + 1, m.drop 56, _, _, _, _, rfl, by omega, by rw [List.length_drop]; omega, by omega, hs9, ho8, ?_, ?_, hc8, hi8⟩
      · simp only [List.length_append, List.length_replicate, hnl, htl]; omega
      · rw [hfr]; simp only [List.append_assoc]
    · skip
      refine wpE_exit (thenE_exit (thenE_exit (blockE_exit (thenE_norm ?_))))
      refine wpE_seq ?_
      refine wpE_region ?_
      refine wpL_value rfl x_move (wpL_value rfl x_assign ?_)
      refine wpL_nil (thenE_norm ?_)
      refine wpE_ret (fin_ret ?_)
      have hn0 : n = 0 := by omega
      subst hn0
      rw [hfr, frameN, List.append_nil]
      exact ⟨ho2, hcn.tr hc2, hi2.mono (fun _ h => .inl h) hcn.1⟩
theorem numbers_ok (w : World) (bv : Value) (l : List UInt8) (hb : Sl w bv l) (hl : l.length ≤ 100000) :
    Ret Tryz.prog 113 #[bv] w fun v w' => Own w' v (numsL l) ∧ Chg [] w w' ∧ In v [] w.heap.size := by
  have hob11 := hb.form rfl
  obtain ⟨pb, cb, rfl⟩ := hob11
  refine enter [2] Tryz.func113 rfl rfl (Nat.le_of_ble_eq_true rfl) ?_
  refine wpE_seq ?_
  refine wpE_region ?_
  refine wpL_value rfl x_assign ?_
  refine wpL_nil (thenE_norm ?_)
  refine wpE_seq ?_
  refine wpE_region ?_
  refine wpL_value rfl x_assign ?_
  refine wpL_nil (thenE_norm ?_)
  refine wpE_seq ?_
  refine wpE_block ?_
  refine wpE_loop [0, 3] [0, 3, 4, 5, 6, 7, 8, 9, 10, 11, 12, 13, 14, 15, 16, 17, 18, 19, 20, 21, 22, 23, 24, 25, 26, 27, 28, 29, 30, 31, 32] (fun n vs w' => ∃ (k : Nat) (m : List UInt8) (pre : List UInt64) (pv : Option Addr) (cv : Nat) (v : Value), vs = [.slice pv m.length cv, v] ∧ k + n = l.length / 64 ∧ n = m.length / 64 ∧ m.length ≤ l.length ∧ Sl w (.slice pv m.length cv) m ∧ Own w' v pre ∧ pre.length = 2 * k ∧ numsL l = pre ++ numsN n m ∧ Chg [] w w' ∧ In v [] w.heap.size) (l.length / 64) (by kernel_rfl) ?_ ?_
  · exact ⟨0, l, [], _, _, _, rfl, by omega, rfl, by omega, hb, Own.nil _, rfl, rfl, Chg.refl _, In.nil⟩
  · rintro n vs J w2 ⟨k, m, pre, pv, cv, ov, rfl, hk, hn, hml, hs2, ho2, hpl, hfr, hc2, hi2⟩
    refine wpE_seq ?_
    refine wpE_seq ?_
    refine wpE_region ?_
    refine wpL_value rfl x_move (wpL_value rfl (x_len_slice rfl Tryz.underlying41) (wpL_value rfl (x_geq rfl rfl) ?_))
    refine wpL_nil (thenE_norm ?_)
    refine wpE_cond_d rfl (fun h => ?_) (fun h => ?_)
    · skip
      refine wpE_skip (thenE_norm ?_)
      refine wpE_seq ?_
      refine wpE_block ?_
      refine wpE_seq ?_
      refine wpE_region ?_
      refine wpL_value rfl x_move ?_
      have hob12 : ∃ q, n = q + 1 := ⟨n - 1, by omega⟩
      obtain ⟨n, rfl⟩ := hob12
      refine wpL_call rfl C81 (Get_ok _ m 4 w2 (hs2.mod0 hc2) (by decide) (by omega)) ?_
      rintro v3 w3 ⟨hv3, hh3⟩
      unfold getV at hv3
      rw [if_neg (by omega)] at hv3
      obtain ⟨r3, rfl, hs3, hbl3⟩ := hv3
      refine wpL_value rfl x_move (wpL_value rfl (x_extract rfl rfl) (wpL_value rfl (x_extract rfl rfl) (wpL_value rfl (x_extract rfl rfl) (wpL_value rfl x_assign (wpL_value rfl x_assign (wpL_value rfl x_assign ?_))))))
      refine wpL_nil (thenE_norm ?_)
      refine wpE_seq ?_
      refine wpE_region ?_
      refine wpL_value rfl x_move ?_
      refine wpL_ex rfl (x_from 60 Tryz.underlying41 I5 rfl hs2 rfl rfl rfl (by omega)) ?_
      rintro _ ⟨⟨p4, c4, rfl⟩, hs4, hbl4⟩
      have hc3 : Chg [] w w3 := hc2.tr (Chg.heap hh3)
      refine wpL_call rfl C81 (Get_ok _ (m.drop 60) 4 w3 (hs4.mod0 hc3) (by decide) (by rw [List.length_drop]; omega)) ?_
      rintro v5 w5 ⟨hv5, hh5⟩
      unfold getV at hv5
      rw [if_neg (by rw [List.length_drop]; omega)] at hv5
      obtain ⟨r5, rfl, hs5, hbl5⟩ := hv5
      have hc5 : Chg [] w w5 := hc3.tr (Chg.heap hh5)
      refine wpL_value rfl x_move (wpL_value rfl (x_extract rfl rfl) (wpL_value rfl (x_extract rfl rfl) (wpL_value rfl (x_extract rfl rfl) (wpL_value rfl x_assign (wpL_value rfl x_assign (wpL_value rfl x_assign ?_))))))
      refine wpL_nil (thenE_norm ?_)
      refine wpE_region ?_
      refine wpL_value rfl x_move (wpL_value rfl x_move (wpL_value rfl x_move ?_))
      refine wpL_exw rfl (x_bs [.int .u64 (UInt64.ofNat (ofBe (m.take 4))).toNat, .int .u64 (UInt64.ofNat (ofBe ((m.drop 60).take 4))).toNat] [UInt64.ofNat (ofBe (m.take 4)), UInt64.ofNat (ofBe ((m.drop 60).take 4))] Tryz.underlying180 I35 rfl rfl rfl rfl rfl rfl (by decide)) ?_
      rintro v6 w6 ⟨ho6, hc6, hi6⟩
      refine wpL_append Tryz.underlying180 Tryz.underlying180 I35 (.inr ⟨_, rfl⟩) rfl rfl rfl (by decide) rfl ((ho2.mod0 (Chg.heap (S := []) hh3)).mod0 ((Chg.heap (S := []) hh5).tr hc6)) (ho6.sl.src) rfl rfl (by simp only [List.length_cons, List.length_nil]; omega) ?_
      rintro v7 w7 h7
      refine wpL_value rfl x_assign ?_
      refine wpL_nil (blockE_norm (thenE_norm ?_))
      refine wpE_region ?_
      refine wpL_value rfl x_move ?_
      have hob13 := h7.step (hc5.tr hc6) hi2
      obtain ⟨ho7, hc7, hi7⟩ := hob13
      refine wpL_ex rfl (x_from 64 Tryz.underlying41 I5 rfl hs2 rfl rfl rfl (by omega)) ?_
      rintro _ ⟨⟨p8, c8, rfl⟩, hs8, hbl8⟩
      refine wpL_value rfl x_assign ?_
      refine wpL_nil (thenE_norm ?_)
      have hdl : (m.drop 64).length = m.length - 64 := by rw [List.length_drop]
      rw [← hdl] at hs8
      rw [← hdl]
      refine Exists.intro (n) (And.intro (by omega) ?_)
      refine ⟨k + 1, m.drop 64, _, _, _, _, rfl, by omega, by omega, by omega, hs8, ho7, ?_, ?_, hc7, hi7⟩
      · simp only [List.length_append, List.length_cons, List.length_nil]; omega
      · rw [hfr, numsN]; simp
    · skip
      refine wpE_exit (thenE_exit (thenE_exit (blockE_exit (thenE_norm ?_))))
      refine wpE_seq ?_
      refine wpE_region ?_
      refine wpL_value rfl x_move (wpL_value rfl x_assign ?_)
      refine wpL_nil (thenE_norm ?_)
      refine wpE_ret (fin_ret ?_)
      have hn0 : n = 0 := by omega
      subst hn0
      rw [hfr, numsN, List.append_nil]
      exact ⟨ho2, hc2, hi2⟩
end Go.Proofs.YtenhmbhflgnhlaaGreat

