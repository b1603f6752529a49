/- every row of calls, crashes, the power going within a commit: what each tells -/
import Derived.Test.YtenhmbhflgnhlaaGreatQPager1
namespace Go.Proofs.YtenhmbhflgnhlaaGreat
open Go Go.Sac
set_option maxRecDepth 100000
set_option maxHeartbeats 4000000
theorem unframed_ok2 (w : World) (bv : Value) (l : List UInt8) (hb : Sl w bv l) (hl : l.length ≤ 100000) (h64 : l.length % 64 = 0) (h4 : 4 ≤ l.length) :
    Ret Tryz.prog 115 #[bv] w fun v w' => Own w' v (unfrL l) ∧ Chg [] w w' ∧ In v [] w.heap.size := by
  obtain ⟨pb, cb, rfl⟩ := hb.form rfl
  refine enter [2] Tryz.func115 rfl rfl (Nat.le_of_ble_eq_true rfl) ?_
  refine wpE_seq ?_
  refine wpE_region ?_
  refine wpL_value rfl x_assign ?_
  refine wpL_nil (thenE_norm ?_)
  refine wpE_seq ?_
  refine wpE_region ?_
  refine wpL_value rfl x_assign ?_
  refine wpL_nil (thenE_norm ?_)
  refine wpE_seq ?_
  refine wpE_region ?_
  refine wpL_value rfl x_move ?_
  refine wpL_ex rfl (x_upto 4 Tryz.underlying41 I5 hb rfl rfl rfl (by omega)) ?_
  rintro _ ⟨⟨p1, c1, rfl⟩, hs1, hbl1⟩
  refine wpL_value rfl (x_b2s Tryz.underlying41 Tryz.underlying5 Tryz.underlying9 hs1 rfl) ?_
  refine wpL_value rfl x_assign ?_
  refine wpL_nil (thenE_norm ?_)
  refine wpE_seq ?_
  refine wpE_block ?_
  refine wpE_loop [0, 3] [0, 3, 8, 9, 10, 11, 12, 13, 14, 15, 16, 17, 18, 19, 20, 21, 22, 23, 24, 25, 26, 27, 28, 29, 30] (fun n vs w' => ∃ (m pre : List UInt8) (pv : Option Addr) (cv : Nat) (v : Value), vs = [.slice pv m.length cv, v] ∧ m.length = 64 * n ∧ m.length ≤ l.length ∧ Sl w (.slice pv m.length cv) m ∧ Own w' v pre ∧ pre.length + m.length ≤ l.length ∧ unfrL l = pre ++ unfrN (l.take 4) n m ∧ Chg [] w w' ∧ In v [] w.heap.size) (l.length / 64) (by kernel_rfl) ?_ ?_
  · exact ⟨l, [], _, _, _, rfl, by omega, by omega, hb, Own.nil _, by simp, rfl, Chg.refl _, In.nil⟩
  · rintro n vs J w2 ⟨m, pre, pv, cv, ov, rfl, hn, hml, hs2, ho2, hpl, hfr, hc2, hi2⟩
    refine wpE_seq ?_
    refine wpE_seq ?_
    refine wpE_region ?_
    refine wpL_value rfl x_move (wpL_value rfl (x_len_slice rfl Tryz.underlying41) ?_)
    have hend : unfrN (l.take 4) n m = [] → (Own w2 ov (unfrL l) ∧ Chg [] w w2 ∧ In ov [] w.heap.size) := fun h => by
      rw [hfr, h, List.append_nil]; exact ⟨ho2, hc2, hi2⟩
    by_cases h : 0 < m.length
    · skip
      have hob1 : ∃ q, n = q + 1 := ⟨n - 1, by omega⟩
      obtain ⟨n, rfl⟩ := hob1
      refine wpL_value rfl (x_to (x_gtr rfl rfl) (congrArg Value.bool (decide_eq_true (by omega)))) ?_
      refine wpL_value rfl x_move (wpL_yes rfl (wpL_value rfl x_move (wpL_yes rfl ?_)))
      refine wpL_ex rfl (x_upto 4 Tryz.underlying41 I5 hs2 rfl rfl rfl (by omega)) ?_
      rintro _ ⟨⟨p3, c3, rfl⟩, hs3, hbl3⟩
      refine wpL_yes rfl ?_
      refine wpL_value rfl (x_b2s Tryz.underlying41 Tryz.underlying5 Tryz.underlying9 (hs3.mod0 hc2) rfl) ?_
      refine wpL_yes rfl (wpL_value rfl x_move (wpL_yes rfl ?_))
      by_cases h1 : m.take 4 = l.take 4
      · skip
        refine wpL_value rfl (x_to (x_eqS rfl rfl) (congrArg Value.bool (decide_eq_true (h1)))) ?_
        refine wpL_value rfl (x_pick_t rfl) (wpL_value rfl x_move (wpL_yes rfl (wpL_value rfl x_move (wpL_yes rfl ?_))))
        refine wpL_ex rfl (x_fromto 60 64 Tryz.underlying41 I5 rfl hs2 rfl rfl rfl rfl rfl (by omega)) ?_
        rintro _ ⟨⟨p5, c5, rfl⟩, hs5, hbl5⟩
        refine wpL_yes rfl ?_
        refine wpL_value rfl (x_b2s Tryz.underlying41 Tryz.underlying5 Tryz.underlying9 (hs5.mod0 hc2) rfl) ?_
        refine wpL_yes rfl (wpL_value rfl x_move (wpL_yes rfl (wpL_value rfl (x_eqS rfl rfl) (wpL_value rfl (x_pick_t rfl) ?_))))
        refine wpL_nil (thenE_norm ?_)
        refine wpE_cond_d rfl (fun h2 => ?_) (fun h2 => ?_)
        · skip
          refine wpE_skip (thenE_norm ?_)
          refine wpE_block ?_
          refine wpE_seq ?_
          refine wpE_region ?_
          refine wpL_value rfl x_move (wpL_value rfl x_move ?_)
          refine wpL_ex rfl (x_fromto 4 60 Tryz.underlying41 I5 rfl hs2 rfl rfl rfl rfl rfl (by omega)) ?_
          rintro _ ⟨⟨p6, c6, rfl⟩, hs6, hbl6⟩
          have hcl : ((m.drop 4).take 56).length = 56 := by rw [List.length_take, List.length_drop]; omega
          refine wpL_append Tryz.underlying41 Tryz.underlying41 I5 (.inr ⟨_, rfl⟩) rfl rfl rfl (by decide) rfl (ho2) ((hs6.mod0 hc2).src) rfl rfl (by rw [hcl]; omega) ?_
          rintro v7 w7 h7
          refine wpL_value rfl x_assign ?_
          refine wpL_nil (thenE_norm ?_)
          refine wpE_region ?_
          refine wpL_value rfl x_move ?_
          have hob2 := h7.step hc2 hi2
          obtain ⟨ho7, hc7, hi7⟩ := hob2
          refine wpL_ex rfl (x_from 64 Tryz.underlying41 I5 rfl hs2 rfl rfl rfl (by omega)) ?_
          rintro _ ⟨⟨p8, c8, rfl⟩, hs8, hbl8⟩
          refine wpL_value rfl x_assign ?_
          refine wpL_nil (blockE_norm (thenE_norm ?_))
          have hdl : (m.drop 64).length = m.length - 64 := by rw [List.length_drop]
          rw [← hdl] at hs8
          rw [← hdl]
          refine Exists.intro (n) (And.intro (by omega) ?_)
          refine ⟨m.drop 64, _, _, _, _, rfl, by omega, by omega, hs8, ho7, by rw [List.length_append, hcl]; omega, ?_, hc7, hi7⟩
          rw [hfr, unfrN, if_pos ⟨h1, h2⟩]
          exact (List.append_assoc _ _ _).symm
        · skip
          refine wpE_exit (thenE_exit (thenE_exit (blockE_exit (thenE_norm ?_))))
          refine wpE_seq ?_
          refine wpE_region ?_
          refine wpL_value rfl x_move (wpL_value rfl x_assign ?_)
          refine wpL_nil (thenE_norm ?_)
          refine wpE_ret (fin_ret ?_)
          exact hend (by rw [unfrN, if_neg (fun q => h2 q.2)])
      · skip
        refine wpL_value rfl (x_to (x_eqS rfl rfl) (congrArg Value.bool (decide_eq_false (h1)))) ?_
        refine wpL_value rfl (x_pick_t rfl) (wpL_value rfl x_move (wpL_no rfl rfl (wpL_no rfl rfl (wpL_no rfl rfl (wpL_no rfl rfl (wpL_no rfl rfl (wpL_value rfl (x_pick_f rfl) ?_)))))))
        refine wpL_nil (thenE_norm ?_)
        refine wpE_cond_f (rfl) ?_
        refine wpE_exit (thenE_exit (thenE_exit (blockE_exit (thenE_norm ?_))))
        refine wpE_seq ?_
        refine wpE_region ?_
        refine wpL_value rfl x_move (wpL_value rfl x_assign ?_)
        refine wpL_nil (thenE_norm ?_)
        refine wpE_ret (fin_ret ?_)
        exact hend (by rw [unfrN, if_neg (fun q => h1 q.1)])
    · skip
      refine wpL_value rfl (x_to (x_gtr rfl rfl) (congrArg Value.bool (decide_eq_false (by omega)))) ?_
      refine wpL_value rfl x_move (wpL_no rfl rfl (wpL_no rfl rfl (wpL_no rfl rfl (wpL_no rfl rfl (wpL_no rfl rfl (wpL_value rfl (x_pick_f rfl) (wpL_value rfl x_move (wpL_no rfl rfl (wpL_no rfl rfl (wpL_no rfl rfl (wpL_no rfl rfl (wpL_no rfl rfl (wpL_value rfl (x_pick_f rfl) ?_)))))))))))))
      refine wpL_nil (thenE_norm ?_)
      refine wpE_cond_f (rfl) ?_
      refine wpE_exit (thenE_exit (thenE_exit (blockE_exit (thenE_norm ?_))))
      refine wpE_seq ?_
      refine wpE_region ?_
      refine wpL_value rfl x_move (wpL_value rfl x_assign ?_)
      refine wpL_nil (thenE_norm ?_)
      refine wpE_ret (fin_ret ?_)
      have hn0 : n = 0 := by omega
      exact hend (by rw [hn0]; rfl)
theorem next_ok2 (w : World) (a b c d e : Value) (com : UInt64) (tv : Value) (l : List UInt64) (ht : Sl w tv l) (hl : l.length ≤ 100000) (hc : [a, b, c, d, e].all isCell = true) :
    Ret Tryz.prog 116 #[.agg #[a, b, c, d, .int .u64 com.toNat, e], tv] w fun v w' => v = .int .u64 (nextL com l).toNat ∧ Chg [] w w' := by
  have hob3 := ht.form rfl
  obtain ⟨pt, ct, rfl⟩ := hob3
  refine enter [4] Tryz.func116 rfl rfl (Nat.le_of_ble_eq_true rfl) ?_
  refine wpE_seq ?_
  refine wpE_region ?_
  refine wpL_exw rfl (x_boxB (l := [a, b, c, d, .int .u64 com.toNat, e]) rfl rfl) ?_
  rintro _ w1 ⟨q, rfl, hq, hB, hc1, hl1⟩
  refine wpL_value rfl (x_as (v := .int .u64 ((0 : UInt64).toNat : Nat)) rfl) ?_
  refine wpL_nil (thenE_norm ?_)
  refine wpE_seq ?_
  refine wpE_region ?_
  refine wpL_value rfl (x_fieldAddr Tryz.underlying125 rfl I35 rfl rfl) ?_
  refine wpL_value rfl (x_load Tryz.underlying35 rfl rfl (hB.c (off := 4) rfl)) ?_
  refine wpL_value rfl x_assign ?_
  refine wpL_nil (thenE_norm ?_)
  refine wpE_seq ?_
  refine wpE_seq ?_
  refine wpE_region ?_
  refine wpL_value rfl x_move (wpL_value rfl (x_len_slice rfl Tryz.underlying180) (wpL_value rfl x_move ?_))
  refine wpL_nil (thenE_norm ?_)
  refine wpE_block ?_
  refine wpE_loop [5, 13] [5, 7, 8, 13, 14, 15, 16, 17, 18, 19, 20, 21, 22, 23, 24, 25, 26, 27, 28, 29, 30, 31] (fun n vs w' => ∃ (k : Nat), vs = [.int .u64 ((l.take k).foldl (nextStep com) com).toNat, .int .i64 k] ∧ k + n = l.length ∧ Hp w' w1) (l.length) (by kernel_rfl) ?_ ?_
  · exact ⟨0, rfl, by omega, rfl⟩
  · rintro n vs J w2 ⟨k, rfl, hk, hh⟩
    refine wpE_seq ?_
    refine wpE_region ?_
    refine wpL_value rfl (x_lss rfl rfl) ?_
    refine wpL_nil (thenE_norm ?_)
    refine wpE_seq ?_
    have hB2 := hB.heap hh
    refine wpE_cond_d rfl (fun h => ?_) (fun h => ?_)
    · skip
      refine wpE_skip (thenE_norm ?_)
      refine wpE_seq ?_
      refine wpE_block ?_
      refine wpE_seq ?_
      refine wpE_region ?_
      have hob4 : ∃ q, n = q + 1 := ⟨n - 1, by omega⟩
      obtain ⟨n, rfl⟩ := hob4
      have hlk : l[k]? = some (l.getD k 0) := getD_some (by omega)
      have hob5 : ∃ x, x = l.getD k 0 := ⟨_, rfl⟩
      obtain ⟨x, hx⟩ := hob5
      rw [← hx] at hlk
      have hts : l.take (k + 1) = l.take k ++ [x] := by rw [List.take_add_one, hlk]; rfl
      have ht2 : Sl w2 (.slice pt l.length ct) l := (ht.mod0 hc1).heap hh
      refine wpL_ex rfl (x_idx (k) Tryz.underlying180 I35 rfl (ht2) rfl rfl (by first | rfl | omega) (by omega)) ?_
      rintro _ ⟨bi, oi, rfl, hei, hbi⟩
      refine wpL_value rfl (x_load Tryz.underlying35 rfl rfl ((ht2.at hei hlk).c0 rfl)) ?_
      refine wpL_value rfl x_assign ?_
      refine wpL_nil (thenE_norm ?_)
      refine wpE_seq ?_
      refine wpE_region ?_
      refine wpL_value rfl x_move (wpL_value rfl (x_fieldAddr Tryz.underlying125 rfl I35 rfl rfl) ?_)
      refine wpL_value rfl (x_load Tryz.underlying35 rfl rfl (hB2.c (off := 4) rfl)) ?_
      refine wpL_value rfl (x_sub64u rfl rfl) (wpL_value rfl (x_conv32u rfl Tryz.underlying35 Tryz.underlying34) (wpL_value rfl (x_conv64u rfl Tryz.underlying34 Tryz.underlying35) (wpL_value rfl x_assign ?_)))
      refine wpL_nil (thenE_norm ?_)
      refine wpE_seq ?_
      refine wpE_region ?_
      refine wpL_value rfl x_move (wpL_value rfl (x_lss64u (b := 65536) rfl rfl) ?_)
      refine wpL_nil (thenE_norm ?_)
      have hst : (l.take (k + 1)).foldl (nextStep com) com = nextStep com ((l.take k).foldl (nextStep com) com) x := by
        rw [hts, List.foldl_append]; rfl
      refine wpE_cond_d rfl (fun hlt => ?_) (fun hlt => ?_)
      · skip
        refine wpE_region ?_
        refine wpL_value rfl x_move (wpL_value rfl (x_fieldAddr Tryz.underlying125 rfl I35 rfl rfl) ?_)
        have hlt : aheadU com x < 65536 := hlt
        refine wpL_value rfl (x_load Tryz.underlying35 rfl rfl (hB2.c (off := 4) rfl)) ?_
        refine wpL_value rfl x_move (wpL_value rfl (x_add64u rfl rfl) (wpL_value rfl (x_max rfl rfl) (wpL_value rfl x_assign ?_)))
        refine wpL_nil (blockE_norm (thenE_norm ?_))
        refine wpE_region ?_
        refine wpL_value rfl (x_add64 rfl rfl (by omega)) (wpL_value rfl x_move ?_)
        refine wpL_nil (thenE_norm ?_)
        refine Exists.intro (n) (And.intro (by omega) ?_)
        refine ⟨k + 1, vs_cons ?_ (vs_cons (int_eq (by omega)) vs_nil), by omega, hh⟩
        rw [hst, nextStep, if_pos hlt]
        exact congrArg (Value.int .u64) (max_u64 _ _)
      · skip
        refine wpE_skip (blockE_norm (thenE_norm ?_))
        refine wpE_region ?_
        refine wpL_value rfl (x_add64 rfl rfl (by omega)) (wpL_value rfl x_move ?_)
        refine wpL_nil (thenE_norm ?_)
        have hlt : ¬ aheadU com x < 65536 := hlt
        refine Exists.intro (n) (And.intro (by omega) ?_)
        refine ⟨k + 1, vs_cons ?_ (vs_cons (int_eq (by omega)) vs_nil), by omega, hh⟩
        rw [hst, nextStep, if_neg hlt]
        rfl
    · skip
      refine wpE_exit (thenE_exit (thenE_exit (blockE_exit (thenE_norm ?_))))
      refine wpE_seq ?_
      refine wpE_region ?_
      refine wpL_value rfl x_move (wpL_value rfl (x_add64u (b := 1) rfl rfl) (wpL_value rfl x_assign ?_))
      refine wpL_nil (thenE_norm ?_)
      refine wpE_ret (fin_ret ?_)
      have hkl : k = l.length := by omega
      subst hkl
      rw [List.take_length]
      exact ⟨rfl, hc1.tr (Chg.heap hh)⟩
theorem Text_ok (w : World) (bv : Value) (l s : List UInt8) (hb : Own w bv l) (hl : l.length ≤ 1000000) (hs : s.length ≤ 65535) :
    Ret Tryz.prog 124 #[bv, str s] w fun v w' => Own w' v (l ++ (be 2 s.length ++ s)) ∧ Chg (blkOf bv) w w' ∧ In v (blkOf bv) w.heap.size := by
  refine enter [4] Tryz.func124 rfl rfl (Nat.le_of_ble_eq_true rfl) ?_
  refine wpE_seq ?_
  refine wpE_region ?_
  refine wpL_value rfl x_assign ?_
  refine wpL_nil (thenE_norm ?_)
  refine wpE_seq ?_
  refine wpE_region ?_
  refine wpL_value rfl x_move (wpL_value rfl x_move (wpL_value rfl (x_lenS rfl Tryz.underlying9) (wpL_value rfl (x_min rfl rfl) ?_)))
  have hmin : (min (s.length : Int) 65535).toNat = s.length := by omega
  refine wpL_value rfl (x_to (x_str_upto Tryz.underlying9 rfl rfl (by omega)) (congrArg str (by rw [hmin, List.take_length]) : _ = str s)) ?_
  refine wpL_value rfl x_assign ?_
  refine wpL_nil (thenE_norm ?_)
  refine wpE_seq ?_
  refine wpE_region ?_
  refine wpL_value rfl x_move (wpL_value rfl x_move (wpL_value rfl (x_lenS rfl Tryz.underlying9) (wpL_value rfl (x_conv64u rfl Tryz.underlying3 Tryz.underlying35) ?_)))
  have hu : toU64 ((s.length : Nat) : Int) = UInt64.ofNat s.length := toU64_nat _
  have hun : (UInt64.ofNat s.length).toNat = s.length := by rw [UInt64.toNat_ofNat']; omega
  refine wpL_call rfl C64 (Put_ok bv l (toU64 ((s.length : Nat) : Int)) 2 w hb (by decide) (by omega)) ?_
  rintro v1 w1 ⟨ho1, hc1, hi1⟩
  refine wpL_value rfl x_move ?_
  rw [hu, hun] at ho1
  have hbl : (be 2 s.length).length = 2 := be_length _ _
  refine wpL_append Tryz.underlying41 Tryz.underlying9 I5 (.inl rfl) rfl rfl rfl (by decide) rfl (ho1) (src_str) rfl rfl (by rw [List.length_append, hbl]; omega) ?_
  rintro v2 w2 h2
  refine wpL_value rfl x_assign ?_
  refine wpL_nil (thenE_norm ?_)
  refine wpE_ret (fin_ret ?_)
  refine ⟨?_, ?_, ?_⟩
  · rw [← List.append_assoc]; exact h2.own
  · exact hc1.trans h2.mod (fun _ h _ => h) (fun x hx hlt => (hi1 x hx).elim id (fun h => by omega))
  · exact h2.inn.mono (fun q hq => hi1 q hq) hc1.1
def getTV (b : Value) (l : List UInt8) (most : Nat) (v : Value) (w : World) : Prop :=
  if l.length < 2 ∨ most < ofBe (l.take 2) ∨ l.length < 2 + ofBe (l.take 2) then ∃ e : Int, e ≠ 0 ∧ v = .tuple #[str [], b, .int .i64 e]
  else ∃ r, v = .tuple #[str ((l.drop 2).take (ofBe (l.take 2))), r, .int .i64 0] ∧ Sl w r (l.drop (2 + ofBe (l.take 2))) ∧ blkOf r = blkOf b
theorem GetText_ok (b : Value) (l : List UInt8) (most : Nat) (w : World) (hb : Sl w b l) (hl : l.length ≤ 1000000) (hm : most ≤ 100000) :
    Ret Tryz.prog 132 #[b, .int .i64 most] w fun v w' => getTV b l most v w' ∧ Hp w' w := by
  refine enter [4, 5, 6] Tryz.func132 rfl rfl (Nat.le_of_ble_eq_true rfl) ?_
  refine wpE_seq ?_
  refine wpE_region ?_
  refine wpL_value rfl x_assign (wpL_value rfl x_assign (wpL_value rfl x_assign ?_))
  refine wpL_nil (thenE_norm ?_)
  refine wpE_seq ?_
  refine wpE_region ?_
  refine wpL_value rfl x_move ?_
  refine wpL_call rfl C81 (Get_ok b l 2 w hb (by decide) (by omega)) ?_
  rintro v1 w1 ⟨hv1, hh1⟩
  unfold getV at hv1
  by_cases h2 : l.length < 2
  · skip
    rw [if_pos h2] at hv1
    subst hv1
    refine wpL_value rfl x_move (wpL_value rfl (x_extract rfl rfl) (wpL_value rfl (x_extract rfl rfl) (wpL_value rfl (x_extract rfl rfl) (wpL_value rfl x_assign (wpL_value rfl x_assign (wpL_value rfl x_assign ?_))))))
    refine wpL_nil (thenE_norm ?_)
    refine wpE_seq ?_
    refine wpE_block ?_
    refine wpE_seq ?_
    refine wpE_region ?_
    refine wpL_value rfl x_move (wpL_value rfl (x_neq rfl rfl) (wpL_value rfl x_assign ?_))
    refine wpL_nil (thenE_norm ?_)
    refine wpE_cond_dt rfl (by decide) ?_
    refine wpE_seq ?_
    refine wpE_region ?_
    refine wpL_value rfl x_move (wpL_value rfl x_move (wpL_value rfl x_assign (wpL_value rfl x_assign (wpL_value rfl x_assign ?_))))
    refine wpL_nil (thenE_norm ?_)
    refine wpE_ret (blockE_ret (thenE_ret (fin_ret ?_)))
    refine ⟨?_, hh1⟩
    unfold getTV
    rw [if_pos (.inl h2)]
    exact ⟨10, by decide, rfl⟩
  · skip
    rw [if_neg h2] at hv1
    have hob6 : ∃ nn : UInt64, nn = UInt64.ofNat (ofBe (l.take 2)) := ⟨_, rfl⟩
    obtain ⟨nn, hnn⟩ := hob6
    rw [← hnn] at hv1
    have hlt := ofBe_lt (l.take 2)
    rw [List.length_take, Nat.min_eq_left (by omega)] at hlt
    have hnt : nn.toNat = ofBe (l.take 2) := by
      rw [hnn, UInt64.toNat_ofNat']; omega
    obtain ⟨r1, rfl, hs1, hbl1⟩ := hv1
    have hdl : (l.drop 2).length = l.length - 2 := List.length_drop
    have hob7 := hs1.form hdl
    obtain ⟨p1, c1, rfl⟩ := hob7
    refine wpL_value rfl x_move (wpL_value rfl (x_extract rfl rfl) (wpL_value rfl (x_extract rfl rfl) (wpL_value rfl (x_extract rfl rfl) (wpL_value rfl x_assign (wpL_value rfl x_assign (wpL_value rfl x_assign ?_))))))
    refine wpL_nil (thenE_norm ?_)
    refine wpE_seq ?_
    refine wpE_block ?_
    refine wpE_seq ?_
    refine wpE_region ?_
    refine wpL_value rfl x_move (wpL_value rfl (x_neq rfl rfl) (wpL_value rfl x_assign ?_))
    refine wpL_nil (thenE_norm ?_)
    refine wpE_cond_df rfl (fun h => h rfl) ?_
    refine wpE_seq ?_
    refine wpE_region ?_
    refine wpL_value rfl x_move (wpL_value rfl (x_convI rfl Tryz.underlying35 Tryz.underlying3 (by omega)) (wpL_value rfl x_move (wpL_value rfl (x_gtr rfl rfl) (wpL_value rfl x_assign ?_))))
    refine wpL_nil (thenE_norm ?_)
    refine wpE_cond_d rfl (fun hm1 => ?_) (fun hm1 => ?_)
    · skip
      refine wpE_seq ?_
      refine wpE_region ?_
      refine wpL_value rfl x_move (wpL_value rfl x_assign (wpL_value rfl x_assign (wpL_value rfl x_assign ?_)))
      refine wpL_nil (thenE_norm ?_)
      refine wpE_ret (blockE_ret (thenE_ret (fin_ret ?_)))
      refine ⟨?_, hh1⟩
      unfold getTV
      rw [if_pos (.inr (.inl (by omega)))]
      exact ⟨11, by decide, rfl⟩
    · skip
      refine wpE_seq ?_
      refine wpE_region ?_
      refine wpL_value rfl x_move (wpL_value rfl (x_convI rfl Tryz.underlying35 Tryz.underlying3 (by omega)) (wpL_value rfl x_move (wpL_value rfl (x_len_slice rfl Tryz.underlying41) (wpL_value rfl (x_gtr rfl rfl) (wpL_value rfl x_assign ?_)))))
      refine wpL_nil (thenE_norm ?_)
      refine wpE_cond_d rfl (fun hm2 => ?_) (fun hm2 => ?_)
      · skip
        refine wpE_seq ?_
        refine wpE_region ?_
        refine wpL_value rfl x_move (wpL_value rfl x_assign (wpL_value rfl x_assign (wpL_value rfl x_assign ?_)))
        refine wpL_nil (thenE_norm ?_)
        refine wpE_ret (blockE_ret (thenE_ret (fin_ret ?_)))
        refine ⟨?_, hh1⟩
        unfold getTV
        rw [if_pos (.inr (.inr (by omega)))]
        exact ⟨10, by decide, rfl⟩
      · skip
        refine wpE_skip (blockE_norm (thenE_norm ?_))
        refine wpE_seq ?_
        have hnl : nn.toNat ≤ (l.drop 2).length := by omega
        refine wpE_draw mixed (.pure 0 (.pure 1 (.pure 2 (.read 3 (.pure 4 (.pure 5 (.pure 6 (.pure 7 (.pure 8 (.pure 9 .nil)))))))))) (by kernel_rfl) ?_
        refine wpP_pure rfl rfl rfl (fun _ => x_move) ?_
        refine wpP_pure rfl rfl rfl (fun _ => x_move) ?_
        refine wpP_ex rfl rfl rfl (x_upto nn.toNat Tryz.underlying41 I5 hs1 rfl rfl rfl hnl) ?_
        rintro _ ⟨⟨p2, c2, rfl⟩, hs2, hbl2⟩
        refine wpP_read rfl rfl rfl (fun w' => Sl w' (.slice p2 nn.toNat c2) ((l.drop 2).take nn.toNat)) (hs2) (fun w1 h1 => x_b2s Tryz.underlying41 Tryz.underlying5 Tryz.underlying9 h1 rfl) ?_
        refine wpP_pure rfl rfl rfl (fun _ => x_move) ?_
        refine wpP_pure rfl rfl rfl (fun _ => x_move) ?_
        refine wpP_ex rfl rfl rfl (x_from nn.toNat Tryz.underlying41 I5 rfl hs1 rfl rfl rfl hnl) ?_
        rintro _ ⟨⟨p3, c3, rfl⟩, hs3, hbl3⟩
        refine wpP_pure rfl rfl rfl (fun _ => x_assign) ?_
        refine wpP_pure rfl rfl rfl (fun _ => x_assign) ?_
        refine wpP_pure rfl rfl rfl (fun _ => x_assign) ?_
        refine wpP_nil (thenE_norm ?_)
        refine wpE_ret (fin_ret ?_)
        rw [List.drop_drop] at hs3
        have hk : ∀ v w', v = .tuple #[str ((l.drop 2).take nn.toNat), .slice p3 ((l.drop 2).length - nn.toNat) c3, .int .i64 0] → Sl w' (.slice p3 ((l.drop 2).length - nn.toNat) c3) (l.drop (2 + nn.toNat)) → getTV b l most v w' := fun v w' q1 q2 => by
          unfold getTV
          rw [if_neg (by omega), ← hnt]
          exact ⟨_, q1, q2, by rw [hbl3, hbl1]⟩
        exact ⟨hk _ _ rfl hs3, hh1⟩
end Go.Proofs.YtenhmbhflgnhlaaGreat

