/- every row of calls, crashes, the power going within a commit: what each tells -/
import Derived.Test.YtenhmbhflgnhlaaGreatQFacts
import Derived.Test.YtenhmbhflgnhlaaGreatSac0
import Derived.Test.YtenhmbhflgnhlaaGreatSac1
namespace Go.Proofs.YtenhmbhflgnhlaaGreat
open Go Go.Sac
theorem width_ok (n : Int) (w : World) : Ret Tryz.prog 100 #[.int .i64 n] w fun v w' => v = .int .i64 (min (max n 0) 8) ∧ w = w' := by
  refine enter [2] Tryz.func100 rfl rfl (Nat.le_of_ble_eq_true rfl) ?_
  refine wpE_seq ?_
  refine wpE_region ?_
  refine wpL_value rfl x_assign ?_
  refine wpL_nil (thenE_norm ?_)
  refine wpE_seq ?_
  refine wpE_region ?_
  refine wpL_value rfl x_move (wpL_value rfl (x_max rfl rfl) (wpL_value rfl (x_min rfl rfl) (wpL_value rfl x_assign ?_)))
  refine wpL_nil (thenE_norm ?_)
  refine wpE_ret (fin_ret ?_)
  exact ⟨rfl, rfl⟩
theorem Put_ok (b : Value) (l : List UInt8) (x : UInt64) (k : Nat) (w : World) (hb : Own w b l) (hk : k ≤ 8) (hl : l.length ≤ 1000000000) :
    Ret Tryz.prog 64 #[b, .int .u64 x.toNat, .int .i64 k] w fun v w' => Own w' v (l ++ be k x.toNat) ∧ Chg (blkOf b) w w' ∧ In v (blkOf b) w.heap.size := by
  refine enter [6] Tryz.func64 rfl rfl (Nat.le_of_ble_eq_true rfl) ?_
  refine wpE_seq ?_
  refine wpE_region ?_
  refine wpL_value rfl x_assign ?_
  refine wpL_nil (thenE_norm ?_)
  refine wpE_seq ?_
  refine wpE_seq ?_
  refine wpE_region ?_
  refine wpL_value rfl x_move ?_
  refine wpL_call rfl C100 (width_ok _ _) ?_
  rintro _ _ ⟨rfl, rfl⟩
  refine wpL_value rfl (x_sub64 rfl rfl (by omega)) (wpL_value rfl x_assign ?_)
  refine wpL_nil (thenE_norm ?_)
  refine wpE_block ?_
  refine wpE_loop [0, 7] [0, 7, 11, 12, 13, 14, 15, 16, 17, 18, 19, 20, 21, 22] (fun m vs w' => ∃ b' pre, vs = [b', .int .i64 ((m : Int) - 1)] ∧ m ≤ k ∧ be k x.toNat = pre ++ be m x.toNat ∧ Own w' b' (l ++ pre) ∧ Chg (blkOf b) w w' ∧ In b' (blkOf b) w.heap.size) (k) (by kernel_rfl) ?_ ?_
  · refine ⟨b, [], ?_, Nat.le_refl _, rfl, by simpa using hb, Chg.refl' _ _, fun b hb => .inl hb⟩
    exact congrArg (fun z => [b, Value.int .i64 z]) (show min (max (k : Int) 0) 8 - 1 = (k : Int) - 1 by omega)
  · rintro m vs J w1 ⟨b', pre, rfl, hm, hpre, hown, hmod, hin⟩
    refine wpE_seq ?_
    refine wpE_seq ?_
    refine wpE_region ?_
    refine wpL_value rfl x_move (wpL_value rfl (x_geq rfl rfl) ?_)
    refine wpL_nil (thenE_norm ?_)
    have hlen : pre.length + m = k := by
      have := congrArg List.length hpre
      rw [List.length_append, be_length, be_length] at this; omega
    refine wpE_cond_d rfl (fun h => ?_) (fun h => ?_)
    · skip
      refine wpE_skip (thenE_norm ?_)
      refine wpE_seq ?_
      refine wpE_block ?_
      refine wpE_region ?_
      refine wpL_value rfl x_move (wpL_value rfl x_move (wpL_value rfl x_move (wpL_value rfl (x_mul64 rfl rfl (by omega)) ?_)))
      have hob1 : ∃ q, m = q + 1 := ⟨m - 1, by omega⟩
      obtain ⟨m, rfl⟩ := hob1
      refine wpL_value rfl (x_shr64u rfl rfl (s := 8 * m) (by omega)) ?_
      refine wpL_value rfl (x_conv8u rfl Tryz.underlying35 Tryz.underlying5) ?_
      refine wpL_push (toU8 (shr64 x (8 * m)).toNat) Tryz.underlying41 I5 rfl rfl rfl (by decide) (by decide) rfl rfl rfl rfl (hown) (fun _ => rfl) (by rw [List.length_append]; omega) ?_
      rintro s1 v2 w2 ⟨ha1, ha2, ha3⟩
      refine wpL_value rfl x_assign ?_
      refine wpL_nil (blockE_norm (thenE_norm ?_))
      refine wpE_region ?_
      refine wpL_value rfl x_move (wpL_value rfl (x_sub64 rfl rfl (by omega)) (wpL_value rfl x_assign ?_))
      refine wpL_nil (thenE_norm ?_)
      refine Exists.intro (m) (And.intro (by omega) ?_)
      refine ⟨v2, pre ++ [UInt8.ofNat (x.toNat >>> (8 * m))], ?_, by omega, ?_, ?_, ?_, ?_⟩
      · exact congrArg (fun z => [v2, Value.int .i64 z]) (show (((m + 1 : Nat) : Int) - 1 - 1) = (m : Int) - 1 by omega)
      · rw [hpre]; simp [be]
      · have hx : toU8 ((shr64 x (8 * m)).toNat : Int) = UInt8.ofNat (x.toNat >>> (8 * m)) := by
          rw [toU8_nat, shr64]
          apply UInt8.toNat_inj.1
          rw [UInt8.toNat_ofNat', UInt8.toNat_ofNat', UInt64.toNat_ofNat']
          omega
        rw [← List.append_assoc, ← hx]; exact ha1
      · exact hmod.trans ha2 (fun _ h _ => h) (fun q hq hlt => (hin q hq).elim id (fun h => by omega))
      · exact ha3.mono (fun q hq => hin q hq) hmod.1
    · skip
      refine wpE_exit (thenE_exit (thenE_exit (blockE_exit (thenE_norm ?_))))
      refine wpE_seq ?_
      refine wpE_region ?_
      refine wpL_value rfl x_move (wpL_value rfl x_assign ?_)
      refine wpL_nil (thenE_norm ?_)
      refine wpE_ret (fin_ret ?_)
      have hm0 : m = 0 := by omega
      subst hm0
      rw [show be k x.toNat = pre from by simpa [be] using hpre]
      exact ⟨hown, hmod, hin⟩
theorem ofBe_step (l : List UInt8) (i : Nat) (c : UInt8) (hi : l[i]? = some c) (h7 : i ≤ 7) :
    (shl64 (UInt64.ofNat (ofBe (l.take i))) 8 ||| toU64 (c.toNat : Int)) = UInt64.ofNat (ofBe (l.take (i + 1))) := by
  have hlt : i < l.length := (List.getElem?_eq_some_iff.1 hi).1
  have h1 : l.take (i + 1) = l.take i ++ [c] := by rw [List.take_add_one, hi]; rfl
  have h2 := ofBe_lt (l.take i)
  rw [List.length_take, Nat.min_eq_left (by omega)] at h2
  have h3 : 256 ^ i ≤ 256 ^ 7 := Nat.pow_le_pow_right (by omega) h7
  have h4 : ofBe (l.take i) < 72057594037927936 := by
    have : (256 : Nat) ^ 7 = 72057594037927936 := by decide
    omega
  have h5 : (UInt64.ofNat (ofBe (l.take i))).toNat = ofBe (l.take i) := by rw [UInt64.toNat_ofNat']; omega
  rw [h1, ofBe_snoc, toU64_u8, shl64, or_byte _ _ (by rw [h5]; exact h4), h5]
def getV (b : Value) (l : List UInt8) (k : Nat) (v : Value) (w : World) : Prop :=
  if l.length < k then v = .tuple #[.int .u64 0, b, .int .i64 10]
  else ∃ r, v = .tuple #[.int .u64 (UInt64.ofNat (ofBe (l.take k))).toNat, r, .int .i64 0] ∧ Sl w r (l.drop k) ∧ blkOf r = blkOf b
theorem Get_ok (b : Value) (l : List UInt8) (k : Nat) (w : World) (hb : Sl w b l) (hk : k ≤ 8) (hl : l.length ≤ 1000000000) :
    Ret Tryz.prog 81 #[b, .int .i64 k] w fun v w' => getV b l k v w' ∧ Hp w' w := by
  have hb' := hb
  obtain ⟨p, cap, rfl, hcap, _⟩ := hb
  refine enter [4, 5, 6] Tryz.func81 rfl rfl (Nat.le_of_ble_eq_true rfl) ?_
  refine wpE_seq ?_
  refine wpE_region ?_
  refine wpL_value rfl (x_as (v := .int .u64 ((0 : UInt64).toNat : Nat)) rfl) (wpL_value rfl x_assign (wpL_value rfl x_assign ?_))
  refine wpL_nil (thenE_norm ?_)
  refine wpE_seq ?_
  refine wpE_region ?_
  refine wpL_value rfl x_move ?_
  refine wpL_call rfl C100 (width_ok _ _) ?_
  rintro _ _ ⟨rfl, rfl⟩
  refine wpL_value rfl x_assign ?_
  refine wpL_nil (thenE_norm ?_)
  refine wpE_seq ?_
  refine wpE_seq ?_
  refine wpE_region ?_
  refine wpL_value rfl x_move (wpL_value rfl (x_len_slice rfl Tryz.underlying41) (wpL_value rfl x_move (wpL_value rfl (x_lss rfl rfl) ?_)))
  refine wpL_nil (thenE_norm ?_)
  have hmin : min (max (k : Int) 0) 8 = k := by omega
  rw [hmin]
  refine wpE_cond_d rfl (fun h => ?_) (fun h => ?_)
  · skip
    refine wpE_seq ?_
    refine wpE_region ?_
    refine wpL_value rfl x_move (wpL_value rfl (x_as (v := .int .u64 ((0 : UInt64).toNat : Nat)) rfl) (wpL_value rfl x_assign (wpL_value rfl x_assign ?_)))
    refine wpL_nil (thenE_norm ?_)
    refine wpE_ret (thenE_ret (fin_ret ?_))
    refine ⟨?_, rfl⟩
    unfold getV; rw [if_pos (by omega)]; rfl
  · skip
    refine wpE_skip (thenE_norm ?_)
    refine wpE_seq ?_
    refine wpE_region ?_
    refine wpL_value rfl (x_as (v := .int .u64 ((0 : UInt64).toNat : Nat)) rfl) ?_
    refine wpL_nil (thenE_norm ?_)
    refine wpE_seq ?_
    refine wpE_seq ?_
    refine wpE_region ?_
    refine wpL_value rfl x_move (wpL_value rfl x_move ?_)
    have hkl : k ≤ l.length := by omega
    refine wpL_ex rfl (x_upto k Tryz.underlying41 I5 hb' rfl rfl (by omega) hkl) ?_
    rintro _ ⟨⟨p1, cap1, rfl⟩, hs1, hbl1⟩
    refine wpL_value rfl (x_len_slice rfl Tryz.underlying41) (wpL_value rfl x_move ?_)
    refine wpL_nil (thenE_norm ?_)
    refine wpE_block ?_
    refine wpE_loop [8, 22] [8, 10, 22, 23, 24, 25, 26, 27, 28, 29, 30, 31] (fun m vs w' => ∃ i : Nat, i + m = k ∧ vs = [.int .u64 (UInt64.ofNat (ofBe (l.take i))).toNat, .int .i64 i] ∧ Hp w' w) (k) (by kernel_rfl) ?_ ?_
    · exact ⟨0, by omega, rfl, rfl⟩
    · rintro m vs J w1 ⟨i, hi, rfl, hh⟩
      refine wpE_seq ?_
      refine wpE_region ?_
      refine wpL_value rfl (x_lss rfl rfl) ?_
      refine wpL_nil (thenE_norm ?_)
      refine wpE_seq ?_
      refine wpE_cond_d rfl (fun h => ?_) (fun h => ?_)
      · skip
        refine wpE_skip (thenE_norm ?_)
        refine wpE_seq ?_
        refine wpE_block ?_
        refine wpE_seq ?_
        refine wpE_region ?_
        have hik : i < k := by omega
        refine wpL_ex rfl (x_idx (i) Tryz.underlying41 I5 rfl (hs1.heap hh) rfl rfl (by first | rfl | omega) (by rw [List.length_take]; omega)) ?_
        rintro _ ⟨bi, oi, rfl, hei, hbi⟩
        have hget : (l.take k)[i]? = some (l.getD i 0) := by rw [List.getElem?_take, if_pos hik]; exact getD_some (by omega)
        refine wpL_value rfl (x_load Tryz.underlying5 rfl rfl (((hs1.heap hh).at hei hget).c0 rfl)) ?_
        refine wpL_value rfl x_assign ?_
        refine wpL_nil (thenE_norm ?_)
        refine wpE_region ?_
        refine wpL_value rfl x_move (wpL_value rfl (x_shl64u rfl rfl (s := 8) rfl) (wpL_value rfl x_move (wpL_value rfl (x_conv64u rfl Tryz.underlying5 Tryz.underlying35) (wpL_value rfl (x_or64u rfl rfl) (wpL_value rfl x_assign ?_)))))
        refine wpL_nil (blockE_norm (thenE_norm ?_))
        refine wpE_region ?_
        refine wpL_value rfl (x_add64 rfl rfl (by omega)) (wpL_value rfl x_move ?_)
        refine wpL_nil (thenE_norm ?_)
        refine Exists.intro (m - 1) (And.intro (by omega) ?_)
        refine ⟨i + 1, by omega, vs_cons (u64_eq ?_) (vs_cons (int_eq ?_) vs_nil), hh⟩
        · exact ofBe_step l i _ (getD_some (by omega)) (by omega)
        · omega
      · skip
        refine wpE_exit (thenE_exit (thenE_exit (blockE_exit (thenE_norm ?_))))
        refine wpE_seq ?_
        have hik : i = k := by omega
        subst hik
        refine wpE_draw mixed (.pure 0 (.pure 1 (.pure 2 (.pure 3 (.pure 4 (.pure 5 (.pure 6 .nil))))))) (by kernel_rfl) ?_
        refine wpP_pure rfl rfl rfl (fun _ => x_move) ?_
        refine wpP_pure rfl rfl rfl (fun _ => x_move) ?_
        refine wpP_pure rfl rfl rfl (fun _ => x_move) ?_
        refine wpP_ex rfl rfl rfl (x_from i Tryz.underlying41 I5 rfl (hb'.heap hh) rfl rfl rfl (by omega)) ?_
        rintro _ ⟨⟨p2, cap2, rfl⟩, hs2, hbl2⟩
        refine wpP_pure rfl rfl rfl (fun _ => x_assign) ?_
        refine wpP_pure rfl rfl rfl (fun _ => x_assign) ?_
        refine wpP_pure rfl rfl rfl (fun _ => x_assign) ?_
        refine wpP_nil (thenE_norm ?_)
        refine wpE_ret (fin_ret ?_)
        refine ⟨?_, hh⟩
        unfold getV
        rw [if_neg (by omega)]
        exact ⟨_, rfl, hs2, hbl2⟩
theorem four_ok (b : Value) (l : List UInt8) (w : World) (hb : Sl w b l) (hl : 4 ≤ l.length) :
    Ret Tryz.prog 196 #[b] w fun v w' => v = arrV (l.take 4) ∧ Chg [] w w' := by
  refine enterR [.cell 2 238] Tryz.func196 rfl rfl (Nat.le_of_ble_eq_true rfl) ?_
  refine wpE_seq ?_
  refine wpE_region ?_
  refine wpL_allocA (List.replicate 4 (0 : UInt8)) I238 rfl rfl rfl ?_
  rintro w1 b1 hn1 ha1 hc1 hl1
  refine wpL_nil (thenE_norm ?_)
  refine wpE_seq ?_
  refine wpE_region ?_
  refine wpL_allocA (List.replicate 4 (0 : UInt8)) I238 rfl rfl rfl ?_
  rintro w2 b2 hn2 ha2 hc2 hl2
  refine wpL_nil (thenE_norm ?_)
  refine wpE_seq ?_
  refine wpE_region ?_
  refine wpL_value rfl (x_arr_full Tryz.underlying238 I5 rfl) ?_
  refine wpL_value rfl x_move ?_
  have hb2 := hb.mod0 (hc1.trans hc2 (fun _ h _ => h) (fun _ h _ => h))
  refine wpL_exv rfl (x_copyArr (k := 0) Tryz.underlying41 I5 rfl rfl rfl rfl (hb2.src) (ha2) (by first | (simp; done) | omega)) ?_
  rintro w3 ⟨ha3, hc3, hl3⟩
  refine wpL_nil (thenE_norm ?_)
  refine wpE_seq ?_
  refine wpE_region ?_
  rw [Nat.min_eq_right hl, spl_all (by simp; omega)] at ha3
  have hl4 : (l.take 4).length = 4 := by simp; omega
  refine wpL_value rfl (x_loadN 4 Tryz.underlying238 rfl I238 rfl rfl (ha3) (by first | assumption | rfl | (simp <;> omega))) ?_
  refine wpL_exs rfl (x_storeN 4 I238 rfl ((ha1.chg0 hc2).nb hc3 (by omega)) rfl rfl (by first | assumption | rfl | (simp <;> omega)) (by first | assumption | rfl | (simp <;> omega))) ?_
  rintro w4 ⟨ha4, hc4, hs4⟩
  refine wpL_nil (thenE_norm ?_)
  refine wpE_ret (fin_retR ?_)
  refine ⟨[arrV (l.take 4)], ⟨⟨_, rfl, run_loadN 4 Tryz.underlying238 rfl I238 rfl ha4 hl4⟩, trivial⟩, rfl, ?_⟩
  exact ((hc1.tr hc2).t1 hc3 (by omega)).t1 hc4 (by omega)
theorem Big_ok (b : Value) (l : List UInt8) (w : World) (hb : Sl w b l) (hl : 4 ≤ l.length) :
    Ret Tryz.prog 198 #[b] w fun v w' => v = .int .u32 (bigL l).toNat ∧ Chg [] w w' := by
  refine enter [2] Tryz.func198 rfl rfl (Nat.le_of_ble_eq_true rfl) ?_
  refine wpE_seq ?_
  refine wpE_region ?_
  refine wpL_value rfl (x_as (v := .int .u32 ((0 : UInt32).toNat : Nat)) rfl) ?_
  refine wpL_nil (thenE_norm ?_)
  refine wpE_seq ?_
  refine wpE_region ?_
  refine wpL_value rfl x_move ?_
  refine wpL_call rfl C196 (four_ok b l w hb hl) ?_
  rintro _ w1 ⟨rfl, hc1⟩
  have hl4 : (l.take 4).length = 4 := by simp; omega
  refine wpL_allocA (List.replicate 4 (0 : UInt8)) I238 rfl rfl rfl ?_
  rintro w2 b2 hn2 ha2 hc2 hl2
  refine wpL_exs rfl (x_storeN 4 I238 rfl (ha2) rfl rfl (by first | assumption | rfl | (simp <;> omega)) (by first | assumption | rfl | (simp <;> omega))) ?_
  rintro w3 ⟨ha3, hc3, hl3⟩
  refine wpL_nil (thenE_norm ?_)
  refine wpE_seq ?_
  refine wpE_region ?_
  refine wpL_value rfl (x_idxA 0 Tryz.underlying238 I5 rfl rfl rfl (by decide)) ?_
  refine wpL_value rfl (x_load Tryz.underlying5 rfl rfl (ha3.c (take_getD (d := 0) (by decide) (by omega)) rfl rfl)) ?_
  refine wpL_value rfl (x_conv32u rfl Tryz.underlying5 Tryz.underlying34) (wpL_value rfl (x_shl32u rfl rfl (s := 24) rfl) (wpL_value rfl (x_idxA 1 Tryz.underlying238 I5 rfl rfl rfl (by decide)) ?_))
  refine wpL_value rfl (x_load Tryz.underlying5 rfl rfl (ha3.c (take_getD (d := 0) (by decide) (by omega)) rfl rfl)) ?_
  refine wpL_value rfl (x_conv32u rfl Tryz.underlying5 Tryz.underlying34) (wpL_value rfl (x_shl32u rfl rfl (s := 16) rfl) (wpL_value rfl (x_or32u rfl rfl) (wpL_value rfl (x_idxA 2 Tryz.underlying238 I5 rfl rfl rfl (by decide)) ?_)))
  refine wpL_value rfl (x_load Tryz.underlying5 rfl rfl (ha3.c (take_getD (d := 0) (by decide) (by omega)) rfl rfl)) ?_
  refine wpL_value rfl (x_conv32u rfl Tryz.underlying5 Tryz.underlying34) (wpL_value rfl (x_shl32u rfl rfl (s := 8) rfl) (wpL_value rfl (x_or32u rfl rfl) (wpL_value rfl (x_idxA 3 Tryz.underlying238 I5 rfl rfl rfl (by decide)) ?_)))
  refine wpL_value rfl (x_load Tryz.underlying5 rfl rfl (ha3.c (take_getD (d := 0) (by decide) (by omega)) rfl rfl)) ?_
  refine wpL_value rfl (x_conv32u rfl Tryz.underlying5 Tryz.underlying34) (wpL_value rfl (x_or32u rfl rfl) (wpL_value rfl x_assign ?_))
  refine wpL_nil (thenE_norm ?_)
  refine wpE_ret (fin_ret ?_)
  simp only [toU32_u8]
  refine ⟨rfl, ?_⟩
  exact (hc1.tr hc2).t1 hc3 (Nat.le_trans hc1.1 hn2)
theorem Little_ok (b : Value) (l : List UInt8) (w : World) (hb : Sl w b l) (hl : 4 ≤ l.length) :
    Ret Tryz.prog 188 #[b] w fun v w' => v = .int .u32 (littleL l).toNat ∧ Chg [] w w' := by
  refine enter [2] Tryz.func188 rfl rfl (Nat.le_of_ble_eq_true rfl) ?_
  refine wpE_seq ?_
  refine wpE_region ?_
  refine wpL_value rfl (x_as (v := .int .u32 ((0 : UInt32).toNat : Nat)) rfl) ?_
  refine wpL_nil (thenE_norm ?_)
  refine wpE_seq ?_
  refine wpE_region ?_
  refine wpL_value rfl x_move ?_
  refine wpL_call rfl C196 (four_ok b l w hb hl) ?_
  rintro _ w1 ⟨rfl, hc1⟩
  have hl4 : (l.take 4).length = 4 := by simp; omega
  refine wpL_allocA (List.replicate 4 (0 : UInt8)) I238 rfl rfl rfl ?_
  rintro w2 b2 hn2 ha2 hc2 hl2
  refine wpL_exs rfl (x_storeN 4 I238 rfl (ha2) rfl rfl (by first | assumption | rfl | (simp <;> omega)) (by first | assumption | rfl | (simp <;> omega))) ?_
  rintro w3 ⟨ha3, hc3, hl3⟩
  refine wpL_nil (thenE_norm ?_)
  refine wpE_seq ?_
  refine wpE_region ?_
  refine wpL_value rfl (x_idxA 3 Tryz.underlying238 I5 rfl rfl rfl (by decide)) ?_
  refine wpL_value rfl (x_load Tryz.underlying5 rfl rfl (ha3.c (take_getD (d := 0) (by decide) (by omega)) rfl rfl)) ?_
  refine wpL_value rfl (x_conv32u rfl Tryz.underlying5 Tryz.underlying34) (wpL_value rfl (x_shl32u rfl rfl (s := 24) rfl) (wpL_value rfl (x_idxA 2 Tryz.underlying238 I5 rfl rfl rfl (by decide)) ?_))
  refine wpL_value rfl (x_load Tryz.underlying5 rfl rfl (ha3.c (take_getD (d := 0) (by decide) (by omega)) rfl rfl)) ?_
  refine wpL_value rfl (x_conv32u rfl Tryz.underlying5 Tryz.underlying34) (wpL_value rfl (x_shl32u rfl rfl (s := 16) rfl) (wpL_value rfl (x_or32u rfl rfl) (wpL_value rfl (x_idxA 1 Tryz.underlying238 I5 rfl rfl rfl (by decide)) ?_)))
  refine wpL_value rfl (x_load Tryz.underlying5 rfl rfl (ha3.c (take_getD (d := 0) (by decide) (by omega)) rfl rfl)) ?_
  refine wpL_value rfl (x_conv32u rfl Tryz.underlying5 Tryz.underlying34) (wpL_value rfl (x_shl32u rfl rfl (s := 8) rfl) (wpL_value rfl (x_or32u rfl rfl) (wpL_value rfl (x_idxA 0 Tryz.underlying238 I5 rfl rfl rfl (by decide)) ?_)))
  refine wpL_value rfl (x_load Tryz.underlying5 rfl rfl (ha3.c (take_getD (d := 0) (by decide) (by omega)) rfl rfl)) ?_
  refine wpL_value rfl (x_conv32u rfl Tryz.underlying5 Tryz.underlying34) (wpL_value rfl (x_or32u rfl rfl) (wpL_value rfl x_assign ?_))
  refine wpL_nil (thenE_norm ?_)
  refine wpE_ret (fin_ret ?_)
  simp only [toU32_u8]
  refine ⟨rfl, ?_⟩
  exact (hc1.tr hc2).t1 hc3 (Nat.le_trans hc1.1 hn2)
theorem PutBig_ok (x : UInt32) (w : World) :
    Ret Tryz.prog 174 #[.int .u32 x.toNat] w fun v w' => v = arrV (putBigL x) ∧ Chg [] w w' := by
  refine enterR [.cell 2 238] Tryz.func174 rfl rfl (Nat.le_of_ble_eq_true rfl) ?_
  refine wpE_seq ?_
  refine wpE_region ?_
  refine wpL_allocA (List.replicate 4 (0 : UInt8)) I238 rfl rfl rfl ?_
  rintro w1 b1 hn1 ha1 hc1 hl1
  refine wpL_nil (thenE_norm ?_)
  refine wpE_seq ?_
  refine wpE_region ?_
  refine wpL_value rfl x_move (wpL_value rfl (x_shr32u rfl rfl (s := 24) rfl) (wpL_value rfl (x_conv8u rfl Tryz.underlying34 Tryz.underlying5) (wpL_value rfl x_move (wpL_value rfl (x_shr32u rfl rfl (s := 16) rfl) (wpL_value rfl (x_conv8u rfl Tryz.underlying34 Tryz.underlying5) (wpL_value rfl x_move (wpL_value rfl (x_shr32u rfl rfl (s := 8) rfl) (wpL_value rfl (x_conv8u rfl Tryz.underlying34 Tryz.underlying5) (wpL_value rfl x_move (wpL_value rfl (x_conv8u rfl Tryz.underlying34 Tryz.underlying5) ?_))))))))))
  simp only [toU8_u32]
  refine wpL_value rfl (x_buildV (List.replicate 4 (0 : UInt8)) ([(0, (shr32 x 24).toUInt8), (1, (shr32 x 16).toUInt8), (2, (shr32 x 8).toUInt8), (3, x.toUInt8)]) (l := putBigL x) Tryz.underlying238 I238 rfl I5 rfl rfl rfl rfl rfl) ?_
  refine wpL_exs rfl (x_storeN 4 I238 rfl (ha1) rfl rfl (by first | assumption | rfl | (simp <;> omega)) (by first | assumption | rfl | (simp <;> omega))) ?_
  rintro w4 ⟨ha4, hc4, hl4⟩
  refine wpL_nil (thenE_norm ?_)
  refine wpE_ret (fin_retR ?_)
  refine ⟨[arrV (putBigL x)], ⟨⟨_, rfl, run_loadN 4 Tryz.underlying238 rfl I238 rfl ha4 rfl⟩, trivial⟩, rfl, ?_⟩
  exact hc1.t1 hc4 (by omega)
theorem PutLittle_ok (x : UInt32) (w : World) :
    Ret Tryz.prog 169 #[.int .u32 x.toNat] w fun v w' => v = arrV (putLittleL x) ∧ Chg [] w w' := by
  refine enterR [.cell 2 238] Tryz.func169 rfl rfl (Nat.le_of_ble_eq_true rfl) ?_
  refine wpE_seq ?_
  refine wpE_region ?_
  refine wpL_allocA (List.replicate 4 (0 : UInt8)) I238 rfl rfl rfl ?_
  rintro w1 b1 hn1 ha1 hc1 hl1
  refine wpL_nil (thenE_norm ?_)
  refine wpE_seq ?_
  refine wpE_region ?_
  refine wpL_value rfl x_move (wpL_value rfl (x_conv8u rfl Tryz.underlying34 Tryz.underlying5) (wpL_value rfl x_move (wpL_value rfl (x_shr32u rfl rfl (s := 8) rfl) (wpL_value rfl (x_conv8u rfl Tryz.underlying34 Tryz.underlying5) (wpL_value rfl x_move (wpL_value rfl (x_shr32u rfl rfl (s := 16) rfl) (wpL_value rfl (x_conv8u rfl Tryz.underlying34 Tryz.underlying5) (wpL_value rfl x_move (wpL_value rfl (x_shr32u rfl rfl (s := 24) rfl) (wpL_value rfl (x_conv8u rfl Tryz.underlying34 Tryz.underlying5) ?_))))))))))
  simp only [toU8_u32]
  refine wpL_value rfl (x_buildV (List.replicate 4 (0 : UInt8)) ([(0, x.toUInt8), (1, (shr32 x 8).toUInt8), (2, (shr32 x 16).toUInt8), (3, (shr32 x 24).toUInt8)]) (l := putLittleL x) Tryz.underlying238 I238 rfl I5 rfl rfl rfl rfl rfl) ?_
  refine wpL_exs rfl (x_storeN 4 I238 rfl (ha1) rfl rfl (by first | assumption | rfl | (simp <;> omega)) (by first | assumption | rfl | (simp <;> omega))) ?_
  rintro w4 ⟨ha4, hc4, hl4⟩
  refine wpL_nil (thenE_norm ?_)
  refine wpE_ret (fin_retR ?_)
  refine ⟨[arrV (putLittleL x)], ⟨⟨_, rfl, run_loadN 4 Tryz.underlying238 rfl I238 rfl ha4 rfl⟩, trivial⟩, rfl, ?_⟩
  exact hc1.t1 hc4 (by omega)
theorem Xor_ok (a b : Value) (l m : List UInt8) (w : World) (ha : Sl w a l) (hb : Sl w b m) (hl : l.length ≤ 1000000000) :
    Ret Tryz.prog 139 #[a, b] w fun v w' => Own w' v (xorL l m) ∧ Chg [] w w' ∧ In v [] w.heap.size := by
  obtain ⟨p, c, rfl, hpc, hp⟩ := id ha
  obtain ⟨q, d, rfl, hqd, hq⟩ := id hb
  refine enter [4] Tryz.func139 rfl rfl (Nat.le_of_ble_eq_true rfl) ?_
  refine wpE_seq ?_
  refine wpE_region ?_
  refine wpL_value rfl x_assign ?_
  refine wpL_nil (thenE_norm ?_)
  refine wpE_seq ?_
  refine wpE_region ?_
  refine wpL_value rfl x_move (wpL_value rfl (x_len_slice rfl Tryz.underlying41) (wpL_value rfl x_move (wpL_value rfl (x_len_slice rfl Tryz.underlying41) (wpL_value rfl (x_min rfl rfl) ?_))))
  refine wpL_exw rfl (x_mkS (min l.length m.length) (min l.length m.length) ((0 : UInt8)) Tryz.underlying41 I5 rfl rfl rfl (by decide) rfl rfl (by decide) (by first | rfl | omega) (by first | rfl | omega) (by omega) (by omega)) ?_
  rintro _ w1 ⟨⟨p1, c1, rfl⟩, ho1, hc1, hi1⟩
  refine wpL_value rfl x_assign ?_
  refine wpL_nil (thenE_norm ?_)
  refine wpE_seq ?_
  refine wpE_seq ?_
  refine wpE_region ?_
  refine wpL_value rfl x_move (wpL_value rfl (x_len_slice rfl Tryz.underlying41) (wpL_value rfl x_move ?_))
  refine wpL_nil (thenE_norm ?_)
  refine wpE_block ?_
  have hb1 := hb.mod0 hc1
  have ha1 := ha.mod0 hc1
  have hxl := xorL_length l m
  refine wpE_loop [15] [6, 15, 16, 17, 18, 19, 20, 21, 22, 23, 24, 25, 26, 27, 28, 29, 30] (fun n vs w' => ∃ i : Nat, vs = [.int .i64 i] ∧ i + n = min l.length m.length ∧ Own w' (.slice p1 (min l.length m.length) c1) ((xorL l m).take i ++ List.replicate n 0) ∧ Chg [] w w') (min l.length m.length) (by kernel_rfl) ?_ ?_
  · exact ⟨0, rfl, by omega, by simpa using ho1, hc1⟩
  · rintro n vs J w2 ⟨i, rfl, hi, ho2, hc2⟩
    refine wpE_seq ?_
    refine wpE_region ?_
    refine wpL_value rfl (x_lss rfl rfl) ?_
    refine wpL_nil (thenE_norm ?_)
    refine wpE_seq ?_
    refine wpE_cond_d rfl (fun h => ?_) (fun h => ?_)
    · skip
      refine wpE_skip (thenE_norm ?_)
      refine wpE_seq ?_
      refine wpE_block ?_
      refine wpE_seq ?_
      refine wpE_region ?_
      refine wpL_value rfl x_move (wpL_value rfl x_assign ?_)
      refine wpL_nil (thenE_norm ?_)
      have hob2 : ∃ q, n = q + 1 := ⟨n - 1, by omega⟩
      obtain ⟨n, rfl⟩ := hob2
      refine wpE_draw mixed (.pure 0 (.pure 1 (.pure 2 (.pure 3 (.pure 4 (.read 5 (.pure 6 (.pure 7 (.pure 8 (.read 9 (.pure 10 (.pure 11 (.eff 12 [] .nil))))))))))))) (by kernel_rfl) ?_
      refine wpP_pure rfl rfl rfl (fun _ => x_move) ?_
      refine wpP_pure rfl rfl rfl (fun _ => x_move) ?_
      refine wpP_pure rfl rfl rfl (fun _ => x_move) ?_
      refine wpP_pure rfl rfl rfl (fun _ => x_move) ?_
      refine wpP_ex rfl rfl rfl (x_idx (i) Tryz.underlying41 I5 rfl (ha.mod0 hc2) rfl rfl (by first | rfl | omega) (by first | assumption | omega)) ?_
      rintro _ ⟨ba, oa, rfl, hea, hba⟩
      refine wpP_rd rfl rfl rfl Tryz.underlying5 rfl rfl (((ha.mod0 hc2).at hea (getD_some (d := 0) (by omega))).c0 rfl) ?_
      refine wpP_pure rfl rfl rfl (fun _ => x_move) ?_
      refine wpP_pure rfl rfl rfl (fun _ => x_move) ?_
      refine wpP_ex rfl rfl rfl (x_idx (i) Tryz.underlying41 I5 rfl (hb.mod0 hc2) rfl rfl (by first | rfl | omega) (by first | assumption | omega)) ?_
      rintro _ ⟨bb, ob, rfl, heb, hbb⟩
      refine wpP_rd rfl rfl rfl Tryz.underlying5 rfl rfl (((hb.mod0 hc2).at heb (getD_some (d := 0) (by omega))).c0 rfl) ?_
      refine wpP_pure rfl rfl rfl (fun _ => (x_xor8u rfl rfl)) ?_
      refine wpP_ex rfl rfl rfl (x_idx (i) Tryz.underlying41 I5 rfl (ho2.sl) rfl rfl (by first | rfl | omega) (by simp; omega)) ?_
      rintro _ ⟨bo, oo, rfl, heo, hbo⟩
      refine wpP_exs rfl rfl rfl (x_storeO (a := l.getD i 0 ^^^ m.getD i 0) I5 rfl (ho2) rfl (heo) rfl rfl (by simp; omega)) ?_
      rintro w3 ⟨ho3, hc3, hs3⟩
      refine ⟨trivial, ?_⟩
      refine wpP_nil (blockE_norm (thenE_norm ?_))
      refine wpE_region ?_
      refine wpL_value rfl (x_add64 rfl rfl (by omega)) (wpL_value rfl x_move ?_)
      refine wpL_nil (thenE_norm ?_)
      refine Exists.intro (n) (And.intro (by omega) ?_)
      refine ⟨i + 1, vs_cons (int_eq (by omega)) vs_nil, by omega, ?_, ?_⟩
      · have : (List.take i (xorL l m) ++ List.replicate (n + 1) 0).set i (l.getD i 0 ^^^ m.getD i 0) = List.take (i + 1) (xorL l m) ++ List.replicate n 0 := by
          have hx : (xorL l m)[i]? = some (l.getD i 0 ^^^ m.getD i 0) := by
            rw [xorL, List.getElem?_zipWith, getD_some (d := 0) (by omega : i < l.length), getD_some (d := 0) (by omega : i < m.length)]
          rw [List.take_add_one, hx, List.replicate_succ, List.set_append_right _ _ (by simp; omega)]
          simp [Nat.min_eq_left (show i ≤ (xorL l m).length by omega)]
        rw [← this]; exact ho3
      · exact hc2.t0 hc3 hi1.ge
    · skip
      refine wpE_exit (thenE_exit (thenE_exit (blockE_exit (thenE_norm ?_))))
      refine wpE_seq ?_
      refine wpE_region ?_
      refine wpL_value rfl x_move (wpL_value rfl x_assign ?_)
      refine wpL_nil (thenE_norm ?_)
      refine wpE_ret (fin_ret ?_)
      have h0 : n = 0 := by omega
      subst h0
      refine ⟨?_, hc2, hi1⟩
      rw [List.take_of_length_le (by omega), List.replicate_zero, List.append_nil] at ho2
      exact ho2
theorem and31 (k : Int) (s : Nat) (hs : s < 32) (hk : k % 32 = s) : (toU64 k &&& 31).toNat = s := by
  unfold toU64
  rw [UInt64.toNat_and, UInt64.toNat_ofNat']
  show _ &&& (2 ^ 5 - 1) = s
  rw [Nat.and_two_pow_sub_one_eq_mod]
  omega
theorem RotateLeft32_ok (x : UInt32) (k : Int) (s : Nat) (hs : s < 32) (hk : k % 32 = s) (w : World) :
    Ret Tryz.prog 199 #[.int .u32 x.toNat, .int .i64 k] w fun v w' => v = .int .u32 (rot32 x s).toNat ∧ w = w' := by
  have h31 := and31 k s hs hk
  refine enter [4] Tryz.func199 rfl rfl (Nat.le_of_ble_eq_true rfl) ?_
  refine wpE_seq ?_
  refine wpE_region ?_
  refine wpL_value rfl (x_as (v := .int .u32 ((0 : UInt32).toNat : Nat)) rfl) ?_
  refine wpL_nil (thenE_norm ?_)
  refine wpE_seq ?_
  refine wpE_region ?_
  refine wpL_value rfl x_move (wpL_value rfl (x_conv64u rfl Tryz.underlying3 Tryz.underlying130) (wpL_value rfl (x_and64u (b := 31) rfl rfl) (wpL_value rfl x_assign ?_)))
  refine wpL_nil (thenE_norm ?_)
  refine wpE_seq ?_
  refine wpE_region ?_
  refine wpL_value rfl x_move (wpL_value rfl x_move ?_)
  refine wpL_value rfl (x_shl32u rfl rfl (s := s) (by rw [← h31])) ?_
  refine wpL_value rfl x_move (wpL_value rfl x_move (wpL_value rfl (x_sub64u (a := 32) rfl rfl) ?_))
  refine wpL_value rfl (x_shr32u rfl rfl (s := 32 - s) (by rw [UInt64.toNat_sub, h31]; show (((18446744073709551616 - s + 32) % 18446744073709551616 : Nat) : Int) = _; omega)) ?_
  refine wpL_value rfl (x_or32u rfl rfl) (wpL_value rfl x_assign ?_)
  refine wpL_nil (thenE_norm ?_)
  refine wpE_ret (fin_ret ?_)
  exact ⟨rfl, rfl⟩
theorem Rotl_ok (x : UInt32) (k : Int) (n : Nat) (hk : k = n) (w : World) :
    Ret Tryz.prog 200 #[.int .u32 x.toNat, .int .i64 k] w fun v w' => v = .int .u32 (rotl x n).toNat ∧ w = w' := by
  subst hk
  refine enter [4] Tryz.func200 rfl rfl (Nat.le_of_ble_eq_true rfl) ?_
  refine wpE_seq ?_
  refine wpE_region ?_
  refine wpL_value rfl (x_as (v := .int .u32 ((0 : UInt32).toNat : Nat)) rfl) ?_
  refine wpL_nil (thenE_norm ?_)
  refine wpE_seq ?_
  refine wpE_region ?_
  refine wpL_value rfl x_move (wpL_value rfl x_move (wpL_value rfl (x_rem64 rfl rfl (by omega)) ?_))
  refine wpL_call rfl C199 (RotateLeft32_ok x _ (n % 32) (by omega) (by omega) w) ?_
  rintro _ _ ⟨rfl, rfl⟩
  refine wpL_value rfl x_assign ?_
  refine wpL_nil (thenE_norm ?_)
  refine wpE_ret (fin_ret ?_)
  exact ⟨rfl, rfl⟩
theorem Rotr_ok (x : UInt32) (k : Int) (n : Nat) (hk : k = n) (w : World) :
    Ret Tryz.prog 192 #[.int .u32 x.toNat, .int .i64 k] w fun v w' => v = .int .u32 (rotr x n).toNat ∧ w = w' := by
  subst hk
  refine enter [4] Tryz.func192 rfl rfl (Nat.le_of_ble_eq_true rfl) ?_
  refine wpE_seq ?_
  refine wpE_region ?_
  refine wpL_value rfl (x_as (v := .int .u32 ((0 : UInt32).toNat : Nat)) rfl) ?_
  refine wpL_nil (thenE_norm ?_)
  refine wpE_seq ?_
  refine wpE_region ?_
  refine wpL_value rfl x_move (wpL_value rfl x_move (wpL_value rfl (x_rem64 rfl rfl (by omega)) (wpL_value rfl (x_neg64 rfl (by omega)) ?_)))
  refine wpL_call rfl C199 (RotateLeft32_ok x _ ((32 - n % 32) % 32) (by omega) (by omega) w) ?_
  rintro _ _ ⟨rfl, rfl⟩
  refine wpL_value rfl x_assign ?_
  refine wpL_nil (thenE_norm ?_)
  refine wpE_ret (fin_ret ?_)
  exact ⟨rfl, rfl⟩
end Go.Proofs.YtenhmbhflgnhlaaGreat

