/- A page of which a byte was changed on the disk, or another page's first sector stands in its place, is told as what stands there opens to, or that it isn't sealed so; other pages are as they were: by the document's seals. It holds for every input; there are no conditions. -/
import Derived.Test.YtenhmbhflgnhlaaGreatQBits
import Derived.Test.YtenhmbhflgnhlaaGreatSac1
namespace Go.Proofs.YtenhmbhflgnhlaaGreat
open Go Go.Sac
theorem rRotl_ok (x : UInt32) (k : Int) (s : Nat) (hk : k % 32 = s) (w : World) :
    Ret Tryz.prog 165 #[.int .u32 x.toNat, .int .i64 k] w fun v w' => v = .int .u32 (rot32 x s).toNat ∧ w = w' := by
  have hs32 : s < 32 := by omega
  have h31 : (toU64 (k % 32)).toNat = s := by rw [hk, toU64_nat, UInt64.toNat_ofNat']; omega
  refine enter [4] Tryz.func165 rfl rfl (Nat.le_of_ble_eq_true rfl) ?_
  refine wpE_seq ?_
  refine wpE_region ?_
  refine wpL_value rfl (x_as (v := .int .u32 ((0 : UInt32).toNat : Nat)) rfl) ?_
  refine wpL_nil (thenE_norm ?_)
  refine wpE_seq ?_
  refine wpE_region ?_
  refine wpL_value rfl x_move ?_
  refine wpL_value rfl (x_and31 rfl rfl) ?_
  refine wpL_value rfl (x_conv64u rfl Tryz.underlying3 Tryz.underlying130) (wpL_value rfl x_assign ?_)
  refine wpL_nil (thenE_norm ?_)
  refine wpE_seq ?_
  refine wpE_region ?_
  refine wpL_value rfl x_move (wpL_value rfl x_move ?_)
  refine wpL_value rfl (x_shl32u rfl rfl (s := s) (by rw [h31])) ?_
  refine wpL_value rfl x_move (wpL_value rfl x_move (wpL_value rfl (x_sub64u (a := 32) rfl rfl) ?_))
  refine wpL_value rfl (x_shr32u rfl rfl (s := 32 - s) (by rw [UInt64.toNat_sub, h31]; show (((18446744073709551616 - s + 32) % 18446744073709551616 : Nat) : Int) = _; omega)) ?_
  refine wpL_value rfl (x_or32u rfl rfl) (wpL_value rfl x_assign ?_)
  refine wpL_nil (thenE_norm ?_)
  refine wpE_ret (fin_ret ?_)
  exact ⟨rfl, rfl⟩
theorem rBig_ok (b : Value) (l : List UInt8) (w : World) (hb : Sl w b l) (hl : l.length = 4) :
    Ret Tryz.prog 186 #[b] w fun v w' => v = .int .u32 (bigL l).toNat ∧ w = w' := by
  have hob1 := hb.form hl
  obtain ⟨p, c, rfl⟩ := hob1
  refine enter [2] Tryz.func186 rfl rfl (Nat.le_of_ble_eq_true rfl) ?_
  refine wpE_seq ?_
  refine wpE_region ?_
  refine wpL_value rfl (x_as (v := .int .u32 ((0 : UInt32).toNat : Nat)) rfl) ?_
  refine wpL_nil (thenE_norm ?_)
  refine wpE_seq ?_
  refine wpE_region ?_
  refine wpL_value rfl (x_as (v := .int .u32 ((0 : UInt32).toNat : Nat)) rfl) ?_
  refine wpL_nil (thenE_norm ?_)
  refine wpE_seq ?_
  refine wpE_seq ?_
  refine wpE_region ?_
  refine wpL_value rfl x_assign ?_
  refine wpL_nil (thenE_norm ?_)
  refine wpE_block ?_
  refine wpE_loop [3, 4] [3, 4, 5, 6, 7, 8, 9, 10, 11, 12, 13, 14, 15, 16, 17, 18, 19, 20, 21] (fun n vs w' => ∃ i : Nat, vs = [.int .u32 (hornB l i).toNat, .int .i64 i] ∧ i + n = 4 ∧ w' = w) (4) (by kernel_rfl) ?_ ?_
  · exact ⟨0, rfl, rfl, rfl⟩
  · rintro n vs J w1 ⟨i, rfl, hi, rfl⟩
    refine wpE_seq ?_
    refine wpE_seq ?_
    refine wpE_region ?_
    refine wpL_value rfl x_move (wpL_value rfl (x_lss rfl rfl) ?_)
    refine wpL_nil (thenE_norm ?_)
    refine wpE_cond_d rfl (fun h4 => ?_) (fun h4 => ?_)
    · skip
      refine wpE_skip (thenE_norm ?_)
      refine wpE_seq ?_
      refine wpE_block ?_
      refine wpE_seq ?_
      refine wpE_region ?_
      refine wpL_value rfl x_move (wpL_value rfl (x_shl32u rfl rfl (s := 8) rfl) (wpL_value rfl x_assign ?_))
      refine wpL_nil (thenE_norm ?_)
      refine wpE_seq ?_
      refine wpE_region ?_
      refine wpL_value rfl x_move (wpL_value rfl x_move (wpL_value rfl (x_len_slice rfl Tryz.underlying41) (wpL_value rfl (x_lss rfl rfl) ?_)))
      refine wpL_nil (thenE_norm ?_)
      have hob2 : ∃ q, n = q + 1 := ⟨n - 1, by omega⟩
      obtain ⟨n, rfl⟩ := hob2
      refine wpE_cond_dt rfl (by omega) ?_
      refine wpE_region ?_
      refine wpL_value rfl x_move (wpL_value rfl x_move (wpL_value rfl x_move ?_))
      refine wpL_ex rfl (x_idx (i) Tryz.underlying41 I5 rfl (hb) rfl rfl (by first | rfl | omega) (by omega)) ?_
      rintro _ ⟨bi, oi, rfl, hei, hbi⟩
      refine wpL_value rfl (x_load Tryz.underlying5 rfl rfl ((hb.at hei (getD_some (d := 0) (by omega))).c0 rfl)) ?_
      refine wpL_value rfl (x_conv32u rfl Tryz.underlying5 Tryz.underlying34) (wpL_value rfl (x_or32u rfl rfl) (wpL_value rfl x_assign ?_))
      refine wpL_nil (blockE_norm (thenE_norm ?_))
      refine wpE_region ?_
      refine wpL_value rfl x_move (wpL_value rfl (x_add64 rfl rfl (by omega)) (wpL_value rfl x_assign ?_))
      refine wpL_nil (thenE_norm ?_)
      refine Exists.intro (n) (And.intro (by omega) ?_)
      exact ⟨i + 1, by simp only [toU32_u8]; rfl, by omega, rfl⟩
    · skip
      refine wpE_exit (thenE_exit (thenE_exit (blockE_exit (thenE_norm ?_))))
      refine wpE_seq ?_
      refine wpE_region ?_
      refine wpL_value rfl x_move (wpL_value rfl x_assign ?_)
      refine wpL_nil (thenE_norm ?_)
      refine wpE_ret (fin_ret ?_)
      have hob3 : i = 4 := by omega
      obtain rfl := hob3
      rw [hornB_four]
      exact ⟨rfl, rfl⟩
theorem rLittle_ok (b : Value) (l : List UInt8) (w : World) (hb : Sl w b l) (hl : l.length = 4) :
    Ret Tryz.prog 135 #[b] w fun v w' => v = .int .u32 (littleL l).toNat ∧ w = w' := by
  have hob4 := hb.form hl
  obtain ⟨p, c, rfl⟩ := hob4
  refine enter [2] Tryz.func135 rfl rfl (Nat.le_of_ble_eq_true rfl) ?_
  refine wpE_seq ?_
  refine wpE_region ?_
  refine wpL_value rfl (x_as (v := .int .u32 ((0 : UInt32).toNat : Nat)) rfl) ?_
  refine wpL_nil (thenE_norm ?_)
  refine wpE_seq ?_
  refine wpE_region ?_
  refine wpL_value rfl (x_as (v := .int .u32 ((0 : UInt32).toNat : Nat)) rfl) ?_
  refine wpL_nil (thenE_norm ?_)
  refine wpE_seq ?_
  refine wpE_seq ?_
  refine wpE_region ?_
  refine wpL_value rfl x_assign ?_
  refine wpL_nil (thenE_norm ?_)
  refine wpE_block ?_
  refine wpE_loop [3, 4] [3, 4, 5, 6, 7, 8, 9, 10, 11, 12, 13, 14, 15, 16, 17, 18, 19, 20, 21, 22, 23, 24, 25] (fun n vs w' => ∃ i : Nat, vs = [.int .u32 (hornL l i).toNat, .int .i64 i] ∧ i + n = 4 ∧ w' = w) (4) (by kernel_rfl) ?_ ?_
  · exact ⟨0, rfl, rfl, rfl⟩
  · rintro n vs J w1 ⟨i, rfl, hi, rfl⟩
    refine wpE_seq ?_
    refine wpE_seq ?_
    refine wpE_region ?_
    refine wpL_value rfl x_move ?_
    by_cases h4 : i < 4
    · skip
      have hob5 : ∃ q, n = q + 1 := ⟨n - 1, by omega⟩
      obtain ⟨n, rfl⟩ := hob5
      refine wpL_value rfl (x_to (x_lss rfl rfl) (congrArg Value.bool (decide_eq_true (by omega)))) ?_
      refine wpL_value rfl x_move (wpL_yes rfl (wpL_value rfl x_move (wpL_yes rfl (wpL_value rfl x_move (wpL_yes rfl (wpL_value rfl (x_len_slice rfl Tryz.underlying41) (wpL_yes rfl (wpL_value rfl (x_lss rfl rfl) (wpL_value rfl (x_pick_t rfl) ?_)))))))))
      refine wpL_nil (thenE_norm ?_)
      refine wpE_cond_dt rfl (by omega) ?_
      refine wpE_skip (thenE_norm ?_)
      refine wpE_seq ?_
      refine wpE_block ?_
      refine wpE_region ?_
      refine wpL_value rfl x_move (wpL_value rfl x_move (wpL_value rfl x_move ?_))
      refine wpL_ex rfl (x_idx (i) Tryz.underlying41 I5 rfl (hb) rfl rfl (by first | rfl | omega) (by omega)) ?_
      rintro _ ⟨bi, oi, rfl, hei, hbi⟩
      refine wpL_value rfl (x_load Tryz.underlying5 rfl rfl ((hb.at hei (getD_some (d := 0) (by omega))).c0 rfl)) ?_
      refine wpL_value rfl (x_conv32u rfl Tryz.underlying5 Tryz.underlying34) (wpL_value rfl x_move (wpL_value rfl (x_conv64u rfl Tryz.underlying3 Tryz.underlying130) (wpL_value rfl (x_mul64u (a := 8) rfl rfl) ?_)))
      refine wpL_value rfl (x_shl32u rfl rfl (s := 8 * i) (by rw [UInt64.toNat_mul, toU64_nat, UInt64.toNat_ofNat']; show (((8 * (i % 18446744073709551616)) % 18446744073709551616 : Nat) : Int) = _; omega)) ?_
      refine wpL_value rfl (x_or32u rfl rfl) (wpL_value rfl x_assign ?_)
      refine wpL_nil (blockE_norm (thenE_norm ?_))
      refine wpE_region ?_
      refine wpL_value rfl x_move (wpL_value rfl (x_add64 rfl rfl (by omega)) (wpL_value rfl x_assign ?_))
      refine wpL_nil (thenE_norm ?_)
      refine Exists.intro (n) (And.intro (by omega) ?_)
      exact ⟨i + 1, by simp only [toU32_u8]; rfl, by omega, rfl⟩
    · skip
      have hob6 : i = 4 := by omega
      obtain rfl := hob6
      refine wpL_value rfl (x_to (x_lss rfl rfl) (congrArg Value.bool (decide_eq_false (by omega)))) ?_
      refine wpL_value rfl x_move (wpL_no rfl rfl (wpL_no rfl rfl (wpL_no rfl rfl (wpL_no rfl rfl (wpL_value rfl (x_pick_f rfl) ?_)))))
      refine wpL_nil (thenE_norm ?_)
      refine wpE_cond_f (rfl) ?_
      refine wpE_exit (thenE_exit (thenE_exit (blockE_exit (thenE_norm ?_))))
      refine wpE_seq ?_
      refine wpE_region ?_
      refine wpL_value rfl x_move (wpL_value rfl x_assign ?_)
      refine wpL_nil (thenE_norm ?_)
      refine wpE_ret (fin_ret ?_)
      rw [hornL_four]
      exact ⟨rfl, rfl⟩
theorem rPut_ok (b : Value) (l : List UInt8) (x : UInt64) (k : Nat) (w : World) (hb : Own w b l) (hk : k ≤ 8) (hl : l.length ≤ 1000000000) :
    Ret Tryz.prog 99 #[b, .int .u64 x.toNat, .int .i64 k] w fun v w' => Own w' v (l ++ be k x.toNat) ∧ Chg (blkOf b) w w' ∧ In v (blkOf b) w.heap.size := by
  refine enter [6] Tryz.func99 rfl rfl (Nat.le_of_ble_eq_true rfl) ?_
  refine wpE_seq ?_
  refine wpE_region ?_
  refine wpL_value rfl x_assign ?_
  refine wpL_nil (thenE_norm ?_)
  refine wpE_seq ?_
  refine wpE_region ?_
  refine wpL_value rfl x_move (wpL_value rfl (x_min rfl rfl) (wpL_value rfl (x_max rfl rfl) (wpL_value rfl x_assign ?_)))
  refine wpL_nil (thenE_norm ?_)
  refine wpE_seq ?_
  refine wpE_seq ?_
  refine wpE_region ?_
  refine wpL_value rfl x_move (wpL_value rfl (x_sub64 rfl rfl (by omega)) (wpL_value rfl x_assign ?_))
  refine wpL_nil (thenE_norm ?_)
  refine wpE_block ?_
  refine wpE_loop [0, 8] [0, 8, 14, 15, 16, 17, 18, 19, 20, 21, 22, 23, 24, 25, 26] (fun m vs w' => ∃ b' pre, vs = [b', .int .i64 ((m : Int) - 1)] ∧ m ≤ k ∧ be k x.toNat = pre ++ be m x.toNat ∧ Own w' b' (l ++ pre) ∧ Chg (blkOf b) w w' ∧ In b' (blkOf b) w.heap.size) (k) (by kernel_rfl) ?_ ?_
  · refine ⟨b, [], ?_, Nat.le_refl _, rfl, by simpa using hb, Chg.refl' _ _, fun b hb => .inl hb⟩
    exact congrArg (fun z => [b, Value.int .i64 z]) (show max 0 (min (k : Int) 8) - 1 = (k : Int) - 1 by omega)
  · rintro m vs J w1 ⟨b', pre, rfl, hm, hpre, hown, hmod, hin⟩
    refine wpE_seq ?_
    refine wpE_seq ?_
    refine wpE_region ?_
    refine wpL_value rfl x_move (wpL_value rfl (x_geq rfl rfl) ?_)
    refine wpL_nil (thenE_norm ?_)
    have hlen : pre.length + m = k := by
      have := congrArg List.length hpre
      rw [List.length_append, be_length, be_length] at this; omega
    refine wpE_cond_d rfl (fun h => ?_) (fun h => ?_)
    · skip
      refine wpE_skip (thenE_norm ?_)
      refine wpE_seq ?_
      refine wpE_block ?_
      refine wpE_region ?_
      refine wpL_value rfl x_move (wpL_value rfl x_move (wpL_value rfl x_move (wpL_value rfl (x_conv64u rfl Tryz.underlying3 Tryz.underlying130) (wpL_value rfl (x_mul64u (a := 8) rfl rfl) ?_))))
      have hob7 : ∃ q, m = q + 1 := ⟨m - 1, by omega⟩
      obtain ⟨m, rfl⟩ := hob7
      have hm8 : ((8 * toU64 (((m + 1 : Nat) : Int) - 1)).toNat : Int) = ((8 * m : Nat) : Int) := by
        rw [show ((m + 1 : Nat) : Int) - 1 = (m : Int) by omega, UInt64.toNat_mul, toU64_nat, UInt64.toNat_ofNat']
        show (((8 * (m % 18446744073709551616)) % 18446744073709551616 : Nat) : Int) = _
        omega
      refine wpL_value rfl (x_shr64u rfl rfl (s := 8 * m) hm8) ?_
      refine wpL_value rfl (x_conv8u rfl Tryz.underlying35 Tryz.underlying5) ?_
      refine wpL_push (toU8 (shr64 x (8 * m)).toNat) Tryz.underlying41 I5 rfl rfl rfl (by decide) (by decide) rfl rfl rfl rfl (hown) (fun _ => rfl) (by rw [List.length_append]; omega) ?_
      rintro s1 v2 w2 ⟨ha1, ha2, ha3⟩
      refine wpL_value rfl x_assign ?_
      refine wpL_nil (blockE_norm (thenE_norm ?_))
      refine wpE_region ?_
      refine wpL_value rfl x_move (wpL_value rfl (x_sub64 rfl rfl (by omega)) (wpL_value rfl x_assign ?_))
      refine wpL_nil (thenE_norm ?_)
      refine Exists.intro (m) (And.intro (by omega) ?_)
      refine ⟨v2, pre ++ [UInt8.ofNat (x.toNat >>> (8 * m))], ?_, by omega, ?_, ?_, ?_, ?_⟩
      · exact congrArg (fun z => [v2, Value.int .i64 z]) (show (((m + 1 : Nat) : Int) - 1 - 1) = (m : Int) - 1 by omega)
      · rw [hpre]; simp [be]
      · have hx : toU8 ((shr64 x (8 * m)).toNat : Int) = UInt8.ofNat (x.toNat >>> (8 * m)) := by
          rw [toU8_nat, shr64]
          apply UInt8.toNat_inj.1
          rw [UInt8.toNat_ofNat', UInt8.toNat_ofNat', UInt64.toNat_ofNat']
          omega
        rw [← List.append_assoc, ← hx]; exact ha1
      · exact hmod.trans ha2 (fun _ h _ => h) (fun q hq hlt => (hin q hq).elim id (fun h => by omega))
      · exact ha3.mono (fun q hq => hin q hq) hmod.1
    · skip
      refine wpE_exit (thenE_exit (thenE_exit (blockE_exit (thenE_norm ?_))))
      refine wpE_seq ?_
      refine wpE_region ?_
      refine wpL_value rfl x_move (wpL_value rfl x_assign ?_)
      refine wpL_nil (thenE_norm ?_)
      refine wpE_ret (fin_ret ?_)
      have hm0 : m = 0 := by omega
      subst hm0
      rw [show be k x.toNat = pre from by simpa [be] using hpre]
      exact ⟨hown, hmod, hin⟩
theorem rGet_ok (b : Value) (l : List UInt8) (k : Nat) (w : World) (hb : Sl w b l) (hk : k ≤ 8) (hl : l.length ≤ 1000000000) :
    Ret Tryz.prog 78 #[b, .int .i64 k] w fun v w' => (l.length < k ∧ v = .tuple #[.int .u64 0, b, .bool false] ∨ (k ≤ l.length ∧ ∃ r, v = .tuple #[.int .u64 (UInt64.ofNat (ofBe (l.take k))).toNat, r, .bool true] ∧ Sl w' r (l.drop k) ∧ blkOf r = blkOf b)) ∧ Hp w' w := by
  have hob8 := hb.form rfl
  obtain ⟨p, cap, rfl⟩ := hob8
  refine enter [4, 5, 6] Tryz.func78 rfl rfl (Nat.le_of_ble_eq_true rfl) ?_
  refine wpE_seq ?_
  refine wpE_region ?_
  refine wpL_value rfl (x_as (v := .int .u64 ((0 : UInt64).toNat : Nat)) rfl) (wpL_value rfl x_assign (wpL_value rfl x_assign ?_))
  refine wpL_nil (thenE_norm ?_)
  refine wpE_seq ?_
  refine wpE_region ?_
  refine wpL_value rfl x_move (wpL_value rfl (x_min rfl rfl) (wpL_value rfl (x_max rfl rfl) (wpL_value rfl x_assign ?_)))
  refine wpL_nil (thenE_norm ?_)
  refine wpE_seq ?_
  refine wpE_seq ?_
  refine wpE_region ?_
  refine wpL_value rfl x_move (wpL_value rfl (x_len_slice rfl Tryz.underlying41) (wpL_value rfl x_move (wpL_value rfl (x_lss rfl rfl) ?_)))
  refine wpL_nil (thenE_norm ?_)
  have hmin : max 0 (min (k : Int) 8) = k := by omega
  rw [hmin]
  refine wpE_cond_d rfl (fun h => ?_) (fun h => ?_)
  · skip
    refine wpE_seq ?_
    refine wpE_region ?_
    refine wpL_value rfl x_move (wpL_value rfl (x_as (v := .int .u64 ((0 : UInt64).toNat : Nat)) rfl) (wpL_value rfl x_assign (wpL_value rfl x_assign ?_)))
    refine wpL_nil (thenE_norm ?_)
    refine wpE_ret (thenE_ret (fin_ret ?_))
    exact ⟨.inl ⟨by omega, rfl⟩, rfl⟩
  · skip
    refine wpE_skip (thenE_norm ?_)
    refine wpE_seq ?_
    refine wpE_region ?_
    refine wpL_value rfl (x_as (v := .int .u64 ((0 : UInt64).toNat : Nat)) rfl) ?_
    refine wpL_nil (thenE_norm ?_)
    refine wpE_seq ?_
    refine wpE_seq ?_
    refine wpE_region ?_
    refine wpL_value rfl x_assign ?_
    refine wpL_nil (thenE_norm ?_)
    refine wpE_block ?_
    have hkl : k ≤ l.length := by omega
    refine wpE_loop [8, 9] [8, 9, 18, 19, 20, 21, 22, 23, 24, 25, 26, 27, 28, 29, 30] (fun m vs w' => ∃ i : Nat, i + m = k ∧ vs = [.int .u64 (UInt64.ofNat (ofBe (l.take i))).toNat, .int .i64 i] ∧ Hp w' w) (k) (by kernel_rfl) ?_ ?_
    · exact ⟨0, by omega, rfl, rfl⟩
    · rintro m vs J w1 ⟨i, hi, rfl, hh⟩
      refine wpE_seq ?_
      refine wpE_seq ?_
      refine wpE_region ?_
      refine wpL_value rfl x_move (wpL_value rfl x_move (wpL_value rfl (x_lss rfl rfl) ?_))
      refine wpL_nil (thenE_norm ?_)
      refine wpE_cond_d rfl (fun h => ?_) (fun h => ?_)
      · skip
        refine wpE_skip (thenE_norm ?_)
        refine wpE_seq ?_
        refine wpE_block ?_
        refine wpE_region ?_
        refine wpL_value rfl x_move (wpL_value rfl (x_shl64u rfl rfl (s := 8) rfl) (wpL_value rfl x_move (wpL_value rfl x_move ?_)))
        have hik : i < k := by omega
        refine wpL_ex rfl (x_idx (i) Tryz.underlying41 I5 rfl (hb.heap hh) rfl rfl (by first | rfl | omega) (by omega)) ?_
        rintro _ ⟨bi, oi, rfl, hei, hbi⟩
        refine wpL_value rfl (x_load Tryz.underlying5 rfl rfl (((hb.heap hh).at hei (getD_some (d := 0) (by omega))).c0 rfl)) ?_
        refine wpL_value rfl (x_conv64u rfl Tryz.underlying5 Tryz.underlying35) (wpL_value rfl (x_or64u rfl rfl) (wpL_value rfl x_assign ?_))
        refine wpL_nil (blockE_norm (thenE_norm ?_))
        refine wpE_region ?_
        refine wpL_value rfl x_move (wpL_value rfl (x_add64 rfl rfl (by omega)) (wpL_value rfl x_assign ?_))
        refine wpL_nil (thenE_norm ?_)
        refine Exists.intro (m - 1) (And.intro (by omega) ?_)
        refine ⟨i + 1, by omega, vs_cons (u64_eq ?_) (vs_cons (int_eq ?_) vs_nil), hh⟩
        · exact ofBe_step l i _ (getD_some (by omega)) (by omega)
        · omega
      · skip
        refine wpE_exit (thenE_exit (thenE_exit (blockE_exit (thenE_norm ?_))))
        refine wpE_seq ?_
        have hik : i = k := by omega
        subst hik
        refine wpE_draw mixed (.pure 0 (.pure 1 (.pure 2 (.pure 3 (.pure 4 (.pure 5 (.pure 6 .nil))))))) (by kernel_rfl) ?_
        refine wpP_pure rfl rfl rfl (fun _ => x_move) ?_
        refine wpP_pure rfl rfl rfl (fun _ => x_move) ?_
        refine wpP_pure rfl rfl rfl (fun _ => x_move) ?_
        refine wpP_ex rfl rfl rfl (x_from i Tryz.underlying41 I5 rfl (hb.heap hh) rfl rfl rfl (by omega)) ?_
        rintro _ ⟨⟨p2, cap2, rfl⟩, hs2, hbl2⟩
        refine wpP_pure rfl rfl rfl (fun _ => x_assign) ?_
        refine wpP_pure rfl rfl rfl (fun _ => x_assign) ?_
        refine wpP_pure rfl rfl rfl (fun _ => x_assign) ?_
        refine wpP_nil (thenE_norm ?_)
        refine wpE_ret (fin_ret ?_)
        exact ⟨.inr ⟨by omega, _, rfl, hs2, hbl2⟩, hh⟩
theorem rXor_ok (a b : Value) (l m : List UInt8) (w : World) (ha : Sl w a l) (hb : Sl w b m) (hl : l.length ≤ 1000000000) :
    Ret Tryz.prog 120 #[a, b] w fun v w' => Own w' v (xorL l m) ∧ Chg [] w w' ∧ In v [] w.heap.size := by
  have hob9 := ha.form rfl
  obtain ⟨p, c, rfl⟩ := hob9
  have hob10 := hb.form rfl
  obtain ⟨q, d, rfl⟩ := hob10
  have hxl := xorL_length l m
  refine enter [4] Tryz.func120 rfl rfl (Nat.le_of_ble_eq_true rfl) ?_
  refine wpE_seq ?_
  refine wpE_region ?_
  refine wpL_value rfl x_assign ?_
  refine wpL_nil (thenE_norm ?_)
  refine wpE_seq ?_
  refine wpE_region ?_
  refine wpL_value rfl x_assign ?_
  refine wpL_nil (thenE_norm ?_)
  refine wpE_seq ?_
  refine wpE_seq ?_
  refine wpE_region ?_
  refine wpL_value rfl x_assign ?_
  refine wpL_nil (thenE_norm ?_)
  refine wpE_block ?_
  refine wpE_loop [5, 6] [5, 6, 7, 8, 9, 10, 11, 12, 13, 14, 15, 16, 17, 18, 19, 20, 21, 22, 23, 24, 25, 26, 27, 28, 29, 30] (fun n vs w' => ∃ (i : Nat) (v : Value), vs = [v, .int .i64 i] ∧ i + n = min l.length m.length ∧ Own w' v ((xorL l m).take i) ∧ Chg [] w w' ∧ In v [] w.heap.size) (min l.length m.length) (by kernel_rfl) ?_ ?_
  · exact ⟨0, .slice none 0 0, rfl, by omega, Own.nil _, Chg.refl _, In.nil⟩
  · rintro n vs J w2 ⟨i, v2, rfl, hi, ho2, hc2, hi2⟩
    refine wpE_seq ?_
    refine wpE_seq ?_
    refine wpE_region ?_
    refine wpL_value rfl x_move (wpL_value rfl x_move (wpL_value rfl (x_len_slice rfl Tryz.underlying41) ?_))
    by_cases hlt : i < l.length ∧ i < m.length
    · skip
      have hob11 : ∃ q, n = q + 1 := ⟨n - 1, by omega⟩
      obtain ⟨n, rfl⟩ := hob11
      refine wpL_value rfl (x_to (x_lss rfl rfl) (congrArg Value.bool (decide_eq_true (by omega)))) ?_
      refine wpL_value rfl x_move (wpL_yes rfl (wpL_value rfl x_move (wpL_yes rfl (wpL_value rfl x_move (wpL_yes rfl (wpL_value rfl (x_len_slice rfl Tryz.underlying41) (wpL_yes rfl (wpL_value rfl (x_lss rfl rfl) (wpL_value rfl (x_pick_t rfl) ?_)))))))))
      refine wpL_nil (thenE_norm ?_)
      refine wpE_cond_dt rfl (by omega) ?_
      refine wpE_skip (thenE_norm ?_)
      refine wpE_seq ?_
      refine wpE_block ?_
      refine wpE_draw mixed (.pure 0 (.pure 1 (.pure 2 (.pure 3 (.read 4 (.pure 5 (.pure 6 (.pure 7 (.read 8 (.pure 9 (.eff 10 [] (.eff 11 [] (.pure 12 .nil))))))))))))) (by kernel_rfl) ?_
      refine wpP_pure rfl rfl rfl (fun _ => x_move) ?_
      refine wpP_pure rfl rfl rfl (fun _ => x_move) ?_
      refine wpP_pure rfl rfl rfl (fun _ => x_move) ?_
      refine wpP_ex rfl rfl rfl (x_idx (i) Tryz.underlying41 I5 rfl (ha.mod0 hc2) rfl rfl (by first | rfl | omega) (by omega)) ?_
      rintro _ ⟨ba, oa, rfl, hea, hba⟩
      refine wpP_rd rfl rfl rfl Tryz.underlying5 rfl rfl (((ha.mod0 hc2).at hea (getD_some (d := 0) (by omega))).c0 rfl) ?_
      refine wpP_pure rfl rfl rfl (fun _ => x_move) ?_
      refine wpP_pure rfl rfl rfl (fun _ => x_move) ?_
      refine wpP_ex rfl rfl rfl (x_idx (i) Tryz.underlying41 I5 rfl (hb.mod0 hc2) rfl rfl (by first | rfl | omega) (by omega)) ?_
      rintro _ ⟨bb, ob, rfl, heb, hbb⟩
      refine wpP_rd rfl rfl rfl Tryz.underlying5 rfl rfl (((hb.mod0 hc2).at heb (getD_some (d := 0) (by omega))).c0 rfl) ?_
      refine wpP_pure rfl rfl rfl (fun _ => (x_xor8u rfl rfl)) ?_
      refine wpP_exw rfl rfl rfl (x_bsS [.int .u8 (l.getD i 0 ^^^ m.getD i 0).toNat] [l.getD i 0 ^^^ m.getD i 0] Tryz.underlying41 I5 rfl rfl rfl rfl rfl rfl (by decide) (by decide)) ?_
      rintro _ w3 ⟨⟨b3, o3, c3, rfl⟩, ho3, hc3, hi3⟩
      refine ⟨trivial, ?_⟩
      have hc3 : Chg [] w2 w3 := (Chg.heap (w := w2) rfl).tr hc3
      refine wpP_exw rfl rfl rfl (x_app Tryz.underlying41 Tryz.underlying41 I5 (.inr ⟨_, rfl⟩) rfl rfl rfl (by decide) (ho2.mod0 hc3) (ho3.sl.src) rfl rfl (by rw [List.length_take]; simp; omega)) ?_
      rintro v4 w4 h4
      refine ⟨trivial, ?_⟩
      refine wpP_pure rfl rfl rfl (fun _ => x_assign) ?_
      refine wpP_nil (blockE_norm (thenE_norm ?_))
      refine wpE_region ?_
      refine wpL_value rfl x_move (wpL_value rfl (x_add64 rfl rfl (by omega)) (wpL_value rfl x_assign ?_))
      refine wpL_nil (thenE_norm ?_)
      refine Exists.intro (n) (And.intro (by omega) ?_)
      refine ⟨i + 1, v4, rfl, by omega, ?_, (hc2.tr hc3).t0 h4.mod (fun x hx => by have := hi2.ge x hx; omega), h4.inn.mono (fun x hx => .inr (hi2.ge x hx)) (by have := hc2.1; have := hc3.1; omega)⟩
      have hx : (xorL l m)[i]? = some (l.getD i 0 ^^^ m.getD i 0) := by
        rw [xorL, List.getElem?_zipWith, getD_some (d := 0) (by omega : i < l.length), getD_some (d := 0) (by omega : i < m.length)]
      rw [List.take_add_one, hx]
      exact h4.own
    · skip
      have hob12 : n = 0 := by omega
      obtain rfl := hob12
      have hfin : (xorL l m).take i = xorL l m := List.take_of_length_le (by omega)
      rw [hfin] at ho2
      by_cases hl1 : i < l.length
      · skip
        refine wpL_value rfl (x_to (x_lss rfl rfl) (congrArg Value.bool (decide_eq_true (by omega)))) ?_
        refine wpL_value rfl x_move (wpL_yes rfl (wpL_value rfl x_move (wpL_yes rfl (wpL_value rfl x_move (wpL_yes rfl (wpL_value rfl (x_len_slice rfl Tryz.underlying41) (wpL_yes rfl (wpL_value rfl (x_lss rfl rfl) (wpL_value rfl (x_pick_t rfl) ?_)))))))))
        refine wpL_nil (thenE_norm ?_)
        refine wpE_cond_df rfl (by omega) ?_
        refine wpE_exit (thenE_exit (thenE_exit (blockE_exit (thenE_norm ?_))))
        refine wpE_seq ?_
        refine wpE_region ?_
        refine wpL_value rfl x_move (wpL_value rfl x_assign ?_)
        refine wpL_nil (thenE_norm ?_)
        refine wpE_ret (fin_ret ?_)
        exact ⟨ho2, hc2, hi2⟩
      · skip
        refine wpL_value rfl (x_to (x_lss rfl rfl) (congrArg Value.bool (decide_eq_false (by omega)))) ?_
        refine wpL_value rfl x_move (wpL_no rfl rfl (wpL_no rfl rfl (wpL_no rfl rfl (wpL_no rfl rfl (wpL_value rfl (x_pick_f rfl) ?_)))))
        refine wpL_nil (thenE_norm ?_)
        refine wpE_cond_f (rfl) ?_
        refine wpE_exit (thenE_exit (thenE_exit (blockE_exit (thenE_norm ?_))))
        refine wpE_seq ?_
        refine wpE_region ?_
        refine wpL_value rfl x_move (wpL_value rfl x_assign ?_)
        refine wpL_nil (thenE_norm ?_)
        refine wpE_ret (fin_ret ?_)
        exact ⟨ho2, hc2, hi2⟩
end Go.Proofs.YtenhmbhflgnhlaaGreat
