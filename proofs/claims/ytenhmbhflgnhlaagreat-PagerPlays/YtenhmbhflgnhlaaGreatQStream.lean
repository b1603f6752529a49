/- every row of calls, crashes, the power going within a commit: what each tells -/
import Derived.Test.YtenhmbhflgnhlaaGreatQMac
namespace Go.Proofs.YtenhmbhflgnhlaaGreat
open Go Go.Sac
set_option maxRecDepth 100000
set_option maxHeartbeats 4000000
theorem Quarter_ok (a b c d : UInt32) (w : World) :
    Ret Tryz.prog 197 #[.int .u32 a.toNat, .int .u32 b.toNat, .int .u32 c.toNat, .int .u32 d.toNat] w fun v w' => w = w' ∧
      v = .tuple #[.int .u32 (quarterL a b c d).1.toNat, .int .u32 (quarterL a b c d).2.1.toNat, .int .u32 (quarterL a b c d).2.2.1.toNat, .int .u32 (quarterL a b c d).2.2.2.toNat] := by
  refine enter [8, 9, 10, 11] Tryz.func197 rfl rfl (Nat.le_of_ble_eq_true rfl) ?_
  refine wpE_seq ?_
  refine wpE_region ?_
  refine wpL_value rfl (x_as (v := .int .u32 ((0 : UInt32).toNat : Nat)) rfl) (wpL_value rfl (x_as (v := .int .u32 ((0 : UInt32).toNat : Nat)) rfl) (wpL_value rfl (x_as (v := .int .u32 ((0 : UInt32).toNat : Nat)) rfl) (wpL_value rfl (x_as (v := .int .u32 ((0 : UInt32).toNat : Nat)) rfl) ?_)))
  refine wpL_nil (thenE_norm ?_)
  refine wpE_seq ?_
  refine wpE_region ?_
  refine wpL_value rfl x_move (wpL_value rfl x_move (wpL_value rfl (x_add32u rfl rfl) (wpL_value rfl x_assign ?_)))
  refine wpL_nil (thenE_norm ?_)
  refine wpE_seq ?_
  refine wpE_region ?_
  refine wpL_value rfl x_move (wpL_value rfl x_move (wpL_value rfl (x_xor32u rfl rfl) ?_))
  refine wpL_call rfl C200 (Rotl_ok _ _ 16 rfl _) ?_
  rintro _ _ ⟨rfl, rfl⟩
  refine wpL_value rfl x_assign ?_
  refine wpL_nil (thenE_norm ?_)
  refine wpE_seq ?_
  refine wpE_region ?_
  refine wpL_value rfl x_move (wpL_value rfl x_move (wpL_value rfl (x_add32u rfl rfl) (wpL_value rfl x_assign ?_)))
  refine wpL_nil (thenE_norm ?_)
  refine wpE_seq ?_
  refine wpE_region ?_
  refine wpL_value rfl x_move (wpL_value rfl x_move (wpL_value rfl (x_xor32u rfl rfl) ?_))
  refine wpL_call rfl C200 (Rotl_ok _ _ 12 rfl _) ?_
  rintro _ _ ⟨rfl, rfl⟩
  refine wpL_value rfl x_assign ?_
  refine wpL_nil (thenE_norm ?_)
  refine wpE_seq ?_
  refine wpE_region ?_
  refine wpL_value rfl x_move (wpL_value rfl x_move (wpL_value rfl (x_add32u rfl rfl) (wpL_value rfl x_assign ?_)))
  refine wpL_nil (thenE_norm ?_)
  refine wpE_seq ?_
  refine wpE_region ?_
  refine wpL_value rfl x_move (wpL_value rfl x_move (wpL_value rfl (x_xor32u rfl rfl) ?_))
  refine wpL_call rfl C200 (Rotl_ok _ _ 8 rfl _) ?_
  rintro _ _ ⟨rfl, rfl⟩
  refine wpL_value rfl x_assign ?_
  refine wpL_nil (thenE_norm ?_)
  refine wpE_seq ?_
  refine wpE_region ?_
  refine wpL_value rfl x_move (wpL_value rfl x_move (wpL_value rfl (x_add32u rfl rfl) (wpL_value rfl x_assign ?_)))
  refine wpL_nil (thenE_norm ?_)
  refine wpE_seq ?_
  refine wpE_region ?_
  refine wpL_value rfl x_move (wpL_value rfl x_move (wpL_value rfl (x_xor32u rfl rfl) ?_))
  refine wpL_call rfl C200 (Rotl_ok _ _ 7 rfl _) ?_
  rintro _ _ ⟨rfl, rfl⟩
  refine wpL_value rfl x_assign ?_
  refine wpL_nil (thenE_norm ?_)
  refine wpE_seq ?_
  refine wpE_region ?_
  refine wpL_value rfl x_move (wpL_value rfl x_move (wpL_value rfl x_move (wpL_value rfl x_move (wpL_value rfl x_assign (wpL_value rfl x_assign (wpL_value rfl x_assign (wpL_value rfl x_assign ?_)))))))
  refine wpL_nil (thenE_norm ?_)
  refine wpE_ret (fin_ret ?_)
  refine ⟨rfl, congrArg Value.tuple (congrArg List.toArray (vs_cons (u32_eq ?_) (vs_cons (u32_eq ?_) (vs_cons (u32_eq ?_) (vs_cons (u32_eq ?_) vs_nil)))))⟩
  all_goals rw [quarterL_def]
theorem quarter_ok (p : Nat) (l : List UInt32) (a b c d : Nat) (w : World) (hp : Arr w p l) (hl : l.length = 16) (ha : a < 16) (hb : b < 16) (hc : c < 16) (hd : d < 16) :
    Ret Tryz.prog 189 #[.pointer (some ⟨p, 0, none⟩), .int .i64 a, .int .i64 b, .int .i64 c, .int .i64 d] w fun v w' => Arr w' p (quarterAt l a b c d) ∧ Chg [p] w w' := by
  refine enter [] Tryz.func189 rfl rfl (Nat.le_of_ble_eq_true rfl) ?_
  refine wpE_draw mixed (.pure 0 (.pure 1 (.pure 2 (.pure 3 (.pure 4 (.pure 5 (.pure 6 (.pure 7 (.pure 8 (.pure 9 (.pure 10 (.pure 11 (.read 12 (.pure 13 (.pure 14 (.pure 15 (.pure 16 (.read 17 (.pure 18 (.pure 19 (.pure 20 (.pure 21 (.read 22 (.pure 23 (.pure 24 (.pure 25 (.pure 26 (.read 27 (.pure 34 (.pure 37 (.pure 40 (.pure 43 (.eff 28 [] (.pure 29 (.pure 30 (.pure 31 (.pure 32 (.pure 33 (.pure 35 (.eff 36 [] (.pure 38 (.eff 39 [] (.pure 41 (.eff 42 [] (.pure 44 (.eff 45 [] .nil)))))))))))))))))))))))))))))))))))))))))))))) (by kernel_rfl) ?_
  refine wpP_pure rfl rfl rfl (fun _ => x_move) ?_
  refine wpP_pure rfl rfl rfl (fun _ => x_move) ?_
  refine wpP_pure rfl rfl rfl (fun _ => x_move) ?_
  refine wpP_pure rfl rfl rfl (fun _ => x_move) ?_
  refine wpP_pure rfl rfl rfl (fun _ => x_move) ?_
  refine wpP_pure rfl rfl rfl (fun _ => x_move) ?_
  refine wpP_pure rfl rfl rfl (fun _ => x_move) ?_
  refine wpP_pure rfl rfl rfl (fun _ => x_move) ?_
  refine wpP_pure rfl rfl rfl (fun _ => x_move) ?_
  refine wpP_pure rfl rfl rfl (fun _ => x_move) ?_
  refine wpP_pure rfl rfl rfl (fun _ => (x_nil rfl)) ?_
  refine wpP_pure rfl rfl rfl (fun _ => x_idxA (a) Tryz.underlying236 I34 rfl rfl (by first | rfl | omega) (by first | assumption | omega)) ?_
  refine wpP_rd rfl rfl rfl Tryz.underlying34 rfl rfl (hp.c (getD_some (d := 0) (by omega)) rfl rfl) ?_
  refine wpP_pure rfl rfl rfl (fun _ => x_move) ?_
  refine wpP_pure rfl rfl rfl (fun _ => x_move) ?_
  refine wpP_pure rfl rfl rfl (fun _ => (x_nil rfl)) ?_
  refine wpP_pure rfl rfl rfl (fun _ => x_idxA (b) Tryz.underlying236 I34 rfl rfl (by first | rfl | omega) (by first | assumption | omega)) ?_
  refine wpP_rd rfl rfl rfl Tryz.underlying34 rfl rfl (hp.c (getD_some (d := 0) (by omega)) rfl rfl) ?_
  refine wpP_pure rfl rfl rfl (fun _ => x_move) ?_
  refine wpP_pure rfl rfl rfl (fun _ => x_move) ?_
  refine wpP_pure rfl rfl rfl (fun _ => (x_nil rfl)) ?_
  refine wpP_pure rfl rfl rfl (fun _ => x_idxA (c) Tryz.underlying236 I34 rfl rfl (by first | rfl | omega) (by first | assumption | omega)) ?_
  refine wpP_rd rfl rfl rfl Tryz.underlying34 rfl rfl (hp.c (getD_some (d := 0) (by omega)) rfl rfl) ?_
  refine wpP_pure rfl rfl rfl (fun _ => x_move) ?_
  refine wpP_pure rfl rfl rfl (fun _ => x_move) ?_
  refine wpP_pure rfl rfl rfl (fun _ => (x_nil rfl)) ?_
  refine wpP_pure rfl rfl rfl (fun _ => x_idxA (d) Tryz.underlying236 I34 rfl rfl (by first | rfl | omega) (by first | assumption | omega)) ?_
  refine wpP_rd rfl rfl rfl Tryz.underlying34 rfl rfl (hp.c (getD_some (d := 0) (by omega)) rfl rfl) ?_
  refine wpP_pure rfl rfl rfl (fun _ => (x_nil rfl)) ?_
  refine wpP_pure rfl rfl rfl (fun _ => (x_nil rfl)) ?_
  refine wpP_pure rfl rfl rfl (fun _ => (x_nil rfl)) ?_
  refine wpP_pure rfl rfl rfl (fun _ => (x_nil rfl)) ?_
  refine wpP_call rfl rfl rfl C197 (Quarter_ok _ _ _ _ _) ?_
  rintro _ _ ⟨rfl, rfl⟩
  refine ⟨trivial, ?_⟩
  refine wpP_pure rfl rfl rfl (fun _ => x_move) ?_
  refine wpP_pure rfl rfl rfl (fun _ => (x_extract rfl rfl)) ?_
  refine wpP_pure rfl rfl rfl (fun _ => (x_extract rfl rfl)) ?_
  refine wpP_pure rfl rfl rfl (fun _ => (x_extract rfl rfl)) ?_
  refine wpP_pure rfl rfl rfl (fun _ => (x_extract rfl rfl)) ?_
  refine wpP_pure rfl rfl rfl (fun _ => x_idxA (a) Tryz.underlying236 I34 rfl rfl (by first | rfl | omega) (by first | assumption | omega)) ?_
  refine wpP_exs rfl rfl rfl (x_store1 (a := (quarterL (l.getD a 0) (l.getD b 0) (l.getD c 0) (l.getD d 0)).1) (k := a) I34 rfl rfl rfl rfl (hp) rfl (by first | assumption | omega)) ?_
  rintro w1 ⟨ha1, hc1, hs1⟩
  refine ⟨trivial, ?_⟩
  refine wpP_pure rfl rfl rfl (fun _ => x_idxA (b) Tryz.underlying236 I34 rfl rfl (by first | rfl | omega) (by first | assumption | omega)) ?_
  refine wpP_exs rfl rfl rfl (x_store1 (a := (quarterL (l.getD a 0) (l.getD b 0) (l.getD c 0) (l.getD d 0)).2.1) (k := b) I34 rfl rfl rfl rfl (ha1) rfl (by simp; omega)) ?_
  rintro w2 ⟨ha2, hc2, hs2⟩
  refine ⟨trivial, ?_⟩
  refine wpP_pure rfl rfl rfl (fun _ => x_idxA (c) Tryz.underlying236 I34 rfl rfl (by first | rfl | omega) (by first | assumption | omega)) ?_
  refine wpP_exs rfl rfl rfl (x_store1 (a := (quarterL (l.getD a 0) (l.getD b 0) (l.getD c 0) (l.getD d 0)).2.2.1) (k := c) I34 rfl rfl rfl rfl (ha2) rfl (by simp; omega)) ?_
  rintro w3 ⟨ha3, hc3, hs3⟩
  refine ⟨trivial, ?_⟩
  refine wpP_pure rfl rfl rfl (fun _ => x_idxA (d) Tryz.underlying236 I34 rfl rfl (by first | rfl | omega) (by first | assumption | omega)) ?_
  refine wpP_exs rfl rfl rfl (x_store1 (a := (quarterL (l.getD a 0) (l.getD b 0) (l.getD c 0) (l.getD d 0)).2.2.2) (k := d) I34 rfl rfl rfl rfl (ha3) rfl (by simp; omega)) ?_
  rintro w4 ⟨ha4, hc4, hs4⟩
  refine ⟨trivial, ?_⟩
  refine wpP_nil (fin_end ?_)
  have hc1 : Chg [p] w w1 := hc1
  rw [quarterAt_def]
  exact ⟨ha4, ((hc1.tr hc2).tr hc3).tr hc4⟩
theorem round_ok (p : Nat) (l : List UInt32) (w : World) (hp : Arr w p l) (hl : l.length = 16) :
    Ret Tryz.prog 168 #[.pointer (some ⟨p, 0, none⟩)] w fun v w' => Arr w' p (roundL l) ∧ Chg [p] w w' := by
  refine enter [] Tryz.func168 rfl rfl (Nat.le_of_ble_eq_true rfl) ?_
  refine wpE_seq ?_
  refine wpE_seq ?_
  refine wpE_region ?_
  refine wpL_value rfl x_move ?_
  refine wpL_nil (thenE_norm ?_)
  refine wpE_block ?_
  refine wpE_loop [4] [2, 4, 5, 6, 7, 8, 9, 10, 11, 12, 13, 14, 15, 16] (fun n vs w' => ∃ i : Nat, vs = [.int .i64 i] ∧ i + n = 4 ∧ Arr w' p (colsL l i) ∧ Chg [p] w w') (4) (by kernel_rfl) ?_ ?_
  · exact ⟨0, rfl, rfl, by rw [colsL_zero]; exact hp, Chg.refl' _ _⟩
  · rintro n vs J w1 ⟨i, rfl, hi, ha1, hc1⟩
    refine wpE_seq ?_
    refine wpE_region ?_
    refine wpL_value rfl (x_lss rfl rfl) ?_
    refine wpL_nil (thenE_norm ?_)
    refine wpE_seq ?_
    have hcl := (colsL_length l i).trans hl
    refine wpE_cond_d rfl (fun h => ?_) (fun h => ?_)
    · skip
      refine wpE_skip (thenE_norm ?_)
      refine wpE_seq ?_
      refine wpE_block ?_
      refine wpE_seq ?_
      refine wpE_region ?_
      refine wpL_value rfl x_move (wpL_value rfl x_assign ?_)
      refine wpL_nil (thenE_norm ?_)
      refine wpE_region ?_
      refine wpL_value rfl x_move (wpL_value rfl x_move (wpL_value rfl x_move (wpL_value rfl (x_add64 rfl rfl (by omega)) (wpL_value rfl x_move (wpL_value rfl (x_add64 rfl rfl (by omega)) (wpL_value rfl x_move (wpL_value rfl (x_add64 rfl rfl (by omega)) ?_)))))))
      have hob1 : ∃ q, n = q + 1 := ⟨n - 1, by omega⟩
      obtain ⟨n, rfl⟩ := hob1
      refine wpL_call rfl C189 (quarter_ok p _ i (i + 4) (i + 8) (i + 12) w1 ha1 hcl (by omega) (by omega) (by omega) (by omega)) ?_
      rintro _ w2 ⟨ha2, hc2⟩
      refine wpL_nil (blockE_norm (thenE_norm ?_))
      refine wpE_region ?_
      refine wpL_value rfl (x_add64 rfl rfl (by omega)) (wpL_value rfl x_move ?_)
      refine wpL_nil (thenE_norm ?_)
      refine Exists.intro (n) (And.intro (by omega) ?_)
      refine ⟨i + 1, vs_cons (int_eq rfl) vs_nil, by omega, ?_, hc1.tr hc2⟩
      rw [colsL_succ]; exact ha2
    · skip
      refine wpE_exit (thenE_exit (thenE_exit (blockE_exit (thenE_norm ?_))))
      refine wpE_seq ?_
      refine wpE_region ?_
      refine wpL_value rfl x_move ?_
      refine wpL_nil (thenE_norm ?_)
      refine wpE_block ?_
      have hob2 : i = 4 := by omega
      obtain rfl := hob2
      refine wpE_loop [17] [3, 17, 18, 19, 20, 21, 22, 23, 24, 25, 26, 27, 28, 29, 30, 31, 32, 33, 34, 35] (fun n vs w' => ∃ i : Nat, vs = [.int .i64 i] ∧ i + n = 4 ∧ Arr w' p (diagsL (colsL l 4) i) ∧ Chg [p] w w') (4) (by kernel_rfl) ?_ ?_
      · exact ⟨0, rfl, rfl, by rw [diagsL_zero]; exact ha1, hc1⟩
      · rintro n vs J w3 ⟨i, rfl, hi, ha3, hc3⟩
        refine wpE_seq ?_
        refine wpE_region ?_
        refine wpL_value rfl (x_lss rfl rfl) ?_
        refine wpL_nil (thenE_norm ?_)
        refine wpE_seq ?_
        have hdl := (diagsL_length (colsL l 4) i).trans hcl
        refine wpE_cond_d rfl (fun h2 => ?_) (fun h2 => ?_)
        · skip
          refine wpE_skip (thenE_norm ?_)
          refine wpE_seq ?_
          refine wpE_block ?_
          refine wpE_seq ?_
          refine wpE_region ?_
          refine wpL_value rfl x_move (wpL_value rfl x_assign ?_)
          refine wpL_nil (thenE_norm ?_)
          refine wpE_region ?_
          refine wpL_value rfl x_move (wpL_value rfl x_move (wpL_value rfl x_move (wpL_value rfl (x_add64 rfl rfl (by omega)) (wpL_value rfl (x_rem64 rfl rfl (by omega)) (wpL_value rfl (x_add64 rfl rfl (by omega)) (wpL_value rfl x_move (wpL_value rfl (x_add64 rfl rfl (by omega)) (wpL_value rfl (x_rem64 rfl rfl (by omega)) (wpL_value rfl (x_add64 rfl rfl (by omega)) (wpL_value rfl x_move (wpL_value rfl (x_add64 rfl rfl (by omega)) (wpL_value rfl (x_rem64 rfl rfl (by omega)) (wpL_value rfl (x_add64 rfl rfl (by omega)) ?_)))))))))))))
          have hob3 : ∃ q, n = q + 1 := ⟨n - 1, by omega⟩
          obtain ⟨n, rfl⟩ := hob3
          refine wpL_call rfl C189 (quarter_ok p _ i (4 + (i + 1) % 4) (8 + (i + 2) % 4) (12 + (i + 3) % 4) w3 ha3 hdl (by omega) (by omega) (by omega) (by omega)) ?_
          rintro _ w4 ⟨ha4, hc4⟩
          refine wpL_nil (blockE_norm (thenE_norm ?_))
          refine wpE_region ?_
          refine wpL_value rfl (x_add64 rfl rfl (by omega)) (wpL_value rfl x_move ?_)
          refine wpL_nil (thenE_norm ?_)
          refine Exists.intro (n) (And.intro (by omega) ?_)
          refine ⟨i + 1, vs_cons (int_eq rfl) vs_nil, by omega, ?_, hc3.tr hc4⟩
          rw [diagsL_succ]; exact ha4
        · skip
          refine wpE_exit (thenE_exit (thenE_exit (blockE_exit (fin_end ?_))))
          have hob4 : i = 4 := by omega
          obtain rfl := hob4
          rw [roundL_def]
          exact ⟨ha3, hc3⟩
theorem first_ok2 (k nonce : List UInt8) (ctr : UInt32) (w : World) (hk : k.length = 32) (hn : nonce.length = 12) :
    Ret Tryz.prog 167 #[arrV k, arrV nonce, .int .u32 ctr.toNat] w fun v w' => v = arrV (firstL k nonce ctr) ∧ Chg [] w w' := by
  refine enterR [.cell 6 236] Tryz.func167 rfl rfl (Nat.le_of_ble_eq_true rfl) ?_
  refine wpE_seq ?_
  refine wpE_region ?_
  refine wpL_boxA (l := k) rfl rfl ?_
  rintro w1 b1 hn1 ha1 hc1 hl1
  refine wpL_boxA (l := nonce) rfl rfl ?_
  rintro w2 b2 hn2 ha2 hc2 hl2
  refine wpL_allocA (List.replicate 16 (0 : UInt32)) I236 rfl rfl rfl ?_
  rintro w3 b3 hn3 ha3 hc3 hl3
  refine wpL_nil (thenE_norm ?_)
  refine wpE_seq ?_
  refine wpE_region ?_
  refine wpL_value rfl (x_buildV (List.replicate 16 (0 : UInt32)) ([(0, 0x61707865), (1, 0x3320646e), (2, 0x79622d32), (3, 0x6b206574)]) (l := streamC) Tryz.underlying236 I236 rfl I34 rfl rfl rfl rfl rfl) ?_
  refine wpL_allocA (List.replicate 16 (0 : UInt32)) I236 rfl rfl rfl ?_
  rintro w4 b4 hn4 ha4 hc4 hl4
  refine wpL_exs rfl (x_storeN 16 I236 rfl (ha4) rfl rfl (by first | assumption | rfl | (simp <;> omega)) (by first | assumption | rfl | (simp <;> omega))) ?_
  rintro w5 ⟨ha5, hc5, hs5⟩
  refine wpL_nil (thenE_norm ?_)
  refine wpE_seq ?_
  refine wpE_seq ?_
  refine wpE_region ?_
  refine wpL_value rfl x_move ?_
  refine wpL_nil (thenE_norm ?_)
  refine wpE_block ?_
  have hc05 : Chg [] w w5 := (((hc1.tr hc2).tr hc3).tr hc4).t1 hc5 (by omega)
  have hk5 : Arr w5 b1 k := (((ha1.chg0 hc2).chg0 hc3).chg0 hc4).nb hc5 (by omega)
  have hn5 : Arr w5 b2 nonce := ((ha2.chg0 hc3).chg0 hc4).nb hc5 (by omega)
  have hr5 : Arr w5 b3 (List.replicate 16 (0 : UInt32)) := (ha3.chg0 hc4).nb hc5 (by omega)
  refine wpE_loop [11] [8, 11, 12, 13, 14, 15, 16, 17, 18, 19, 20, 21] (fun n vs w' => ∃ i : Nat, vs = [.int .i64 i] ∧ i + n = 8 ∧ Arr w' b4 (firstK k i) ∧ Chg [b4] w5 w') (8) (by kernel_rfl) ?_ ?_
  · exact ⟨0, rfl, rfl, by rw [firstK_zero]; exact ha5, Chg.refl' _ _⟩
  · rintro n vs J w6 ⟨i, rfl, hi, ha6, hc6⟩
    refine wpE_seq ?_
    refine wpE_region ?_
    refine wpL_value rfl (x_lss rfl rfl) ?_
    refine wpL_nil (thenE_norm ?_)
    refine wpE_seq ?_
    have hfl := firstK_length k i
    refine wpE_cond_d rfl (fun h => ?_) (fun h => ?_)
    · skip
      refine wpE_skip (thenE_norm ?_)
      refine wpE_seq ?_
      refine wpE_block ?_
      refine wpE_seq ?_
      refine wpE_region ?_
      refine wpL_value rfl x_move (wpL_value rfl x_assign ?_)
      refine wpL_nil (thenE_norm ?_)
      refine wpE_region ?_
      refine wpL_value rfl x_move (wpL_value rfl (x_add64 rfl rfl (by omega)) (wpL_value rfl x_move (wpL_value rfl (x_mul64 rfl rfl (by omega)) ?_)))
      have hob5 : ∃ q, n = q + 1 := ⟨n - 1, by omega⟩
      obtain ⟨n, rfl⟩ := hob5
      refine wpL_value rfl (x_arr_from (4 * i) Tryz.underlying23 I5 rfl rfl (by first | rfl | omega) (by omega)) ?_
      refine wpL_call rfl C188 (Little_ok _ (k.drop (4 * i)) w6 (by have := (hk5.nb hc6 (by omega)).slc (i := 4 * i) (n := 32 - 4 * i) (c := 32 - 4 * i) rfl (by omega) (Nat.le_refl _); rwa [List.take_of_length_le (by rw [List.length_drop]; omega)] at this) (by rw [List.length_drop]; omega)) ?_
      rintro _ w7 ⟨rfl, hc7⟩
      refine wpL_value rfl (x_idxA (4 + i) Tryz.underlying236 I34 rfl rfl (by first | rfl | omega) (by first | assumption | omega)) ?_
      refine wpL_exs rfl (x_store1 (a := littleL (k.drop (4 * i))) (k := 4 + i) I34 rfl rfl rfl rfl (ha6.chg0 hc7) rfl (by first | assumption | omega)) ?_
      rintro w8 ⟨ha8, hc8, hs8⟩
      refine wpL_nil (blockE_norm (thenE_norm ?_))
      refine wpE_region ?_
      refine wpL_value rfl (x_add64 rfl rfl (by omega)) (wpL_value rfl x_move ?_)
      refine wpL_nil (thenE_norm ?_)
      refine Exists.intro (n) (And.intro (by omega) ?_)
      refine ⟨i + 1, vs_cons (int_eq rfl) vs_nil, by omega, ?_, (hc6.tr0 hc7).tr hc8⟩
      rw [firstK_succ]; exact ha8
    · skip
      refine wpE_exit (thenE_exit (thenE_exit (blockE_exit (thenE_norm ?_))))
      refine wpE_seq ?_
      refine wpE_region ?_
      refine wpL_value rfl x_move (wpL_value rfl (x_idxA 12 Tryz.underlying236 I34 rfl rfl rfl (by decide)) ?_)
      have hob6 : i = 8 := by omega
      obtain rfl := hob6
      refine wpL_exs rfl (x_store1 (a := ctr) (k := 12) I34 rfl rfl rfl rfl (ha6) rfl (by rw [hfl]; decide)) ?_
      rintro w7 ⟨ha7, hc7, hs7⟩
      refine wpL_nil (thenE_norm ?_)
      refine wpE_seq ?_
      refine wpE_seq ?_
      refine wpE_region ?_
      refine wpL_value rfl x_move ?_
      refine wpL_nil (thenE_norm ?_)
      refine wpE_block ?_
      refine wpE_loop [24] [9, 24, 25, 26, 27, 28, 29, 30, 31, 32, 33, 34] (fun n vs w' => ∃ i : Nat, vs = [.int .i64 i] ∧ i + n = 3 ∧ Arr w' b4 (firstN ((firstK k 8).set 12 ctr) nonce i) ∧ Chg [b4] w5 w') (3) (by kernel_rfl) ?_ ?_
      · exact ⟨0, rfl, rfl, by rw [firstN_zero]; exact ha7, hc6.tr hc7⟩
      · rintro n vs J w8 ⟨i, rfl, hi, ha8, hc8⟩
        refine wpE_seq ?_
        refine wpE_region ?_
        refine wpL_value rfl (x_lss rfl rfl) ?_
        refine wpL_nil (thenE_norm ?_)
        refine wpE_seq ?_
        have hfl2 : (firstN ((firstK k 8).set 12 ctr) nonce i).length = 16 := by rw [firstN_length, List.length_set, hfl]
        refine wpE_cond_d rfl (fun h2 => ?_) (fun h2 => ?_)
        · skip
          refine wpE_skip (thenE_norm ?_)
          refine wpE_seq ?_
          refine wpE_block ?_
          refine wpE_seq ?_
          refine wpE_region ?_
          refine wpL_value rfl x_move (wpL_value rfl x_assign ?_)
          refine wpL_nil (thenE_norm ?_)
          refine wpE_region ?_
          refine wpL_value rfl x_move (wpL_value rfl (x_add64 rfl rfl (by omega)) (wpL_value rfl x_move (wpL_value rfl (x_mul64 rfl rfl (by omega)) ?_)))
          have hob7 : ∃ q, n = q + 1 := ⟨n - 1, by omega⟩
          obtain ⟨n, rfl⟩ := hob7
          refine wpL_value rfl (x_arr_from (4 * i) Tryz.underlying109 I5 rfl rfl (by first | rfl | omega) (by omega)) ?_
          refine wpL_call rfl C188 (Little_ok _ (nonce.drop (4 * i)) w8 (by have := (hn5.nb hc8 (by omega)).slc (i := 4 * i) (n := 12 - 4 * i) (c := 12 - 4 * i) rfl (by omega) (Nat.le_refl _); rwa [List.take_of_length_le (by rw [List.length_drop]; omega)] at this) (by rw [List.length_drop]; omega)) ?_
          rintro _ w9 ⟨rfl, hc9⟩
          refine wpL_value rfl (x_idxA (13 + i) Tryz.underlying236 I34 rfl rfl (by first | rfl | omega) (by first | assumption | omega)) ?_
          refine wpL_exs rfl (x_store1 (a := littleL (nonce.drop (4 * i))) (k := 13 + i) I34 rfl rfl rfl rfl (ha8.chg0 hc9) rfl (by first | assumption | omega)) ?_
          rintro wa ⟨haa, hca, hsa⟩
          refine wpL_nil (blockE_norm (thenE_norm ?_))
          refine wpE_region ?_
          refine wpL_value rfl (x_add64 rfl rfl (by omega)) (wpL_value rfl x_move ?_)
          refine wpL_nil (thenE_norm ?_)
          refine Exists.intro (n) (And.intro (by omega) ?_)
          refine ⟨i + 1, vs_cons (int_eq rfl) vs_nil, by omega, ?_, (hc8.tr0 hc9).tr hca⟩
          rw [firstN_succ]; exact haa
        · skip
          refine wpE_exit (thenE_exit (thenE_exit (blockE_exit (thenE_norm ?_))))
          refine wpE_seq ?_
          refine wpE_region ?_
          have hob8 : i = 3 := by omega
          obtain rfl := hob8
          rw [← firstL_def] at ha8 hfl2
          refine wpL_value rfl (x_loadN 16 Tryz.underlying236 rfl I236 rfl rfl (ha8) (by first | assumption | rfl | (simp <;> omega))) ?_
          refine wpL_exs rfl (x_storeN 16 I236 rfl (hr5.nb hc8 (by omega)) rfl rfl (by first | assumption | rfl | (simp <;> omega)) (by first | assumption | rfl | (simp <;> omega))) ?_
          rintro w9 ⟨ha9, hc9, hs9⟩
          refine wpL_nil (thenE_norm ?_)
          refine wpE_ret (fin_retR ?_)
          exact ⟨[arrV (firstL k nonce ctr)], ⟨⟨_, rfl, run_loadN 16 Tryz.underlying236 rfl I236 rfl ha9 hfl2⟩, trivial⟩, rfl, (hc05.t1 hc8 (by omega)).t1 hc9 (by omega)⟩
theorem Block_ok (k nonce : List UInt8) (ctr : UInt32) (w : World) (hk : k.length = 32) (hn : nonce.length = 12) :
    Ret Tryz.prog 138 #[arrV k, arrV nonce, .int .u32 ctr.toNat] w fun v w' => v = arrV (blockL k nonce ctr) ∧ Chg [] w w' := by
  refine enterR [.cell 6 115] Tryz.func138 rfl rfl (Nat.le_of_ble_eq_true rfl) ?_
  refine wpE_seq ?_
  refine wpE_region ?_
  refine wpL_boxA (l := k) rfl rfl ?_
  rintro w1 b1 hn1 ha1 hc1 hl1
  refine wpL_boxA (l := nonce) rfl rfl ?_
  rintro w2 b2 hn2 ha2 hc2 hl2
  refine wpL_allocA (List.replicate 64 (0 : UInt8)) I115 rfl rfl rfl ?_
  rintro w3 b3 hn3 ha3 hc3 hl3
  refine wpL_nil (thenE_norm ?_)
  refine wpE_seq ?_
  refine wpE_region ?_
  refine wpL_value rfl (x_loadN 32 Tryz.underlying23 rfl I23 rfl rfl ((ha1.chg0 hc2).chg0 hc3) (by first | assumption | rfl | (simp <;> omega))) ?_
  refine wpL_value rfl (x_loadN 12 Tryz.underlying109 rfl I109 rfl rfl (ha2.chg0 hc3) (by first | assumption | rfl | (simp <;> omega))) ?_
  refine wpL_value rfl x_move ?_
  refine wpL_call rfl C167 (first_ok2 k nonce ctr w3 hk hn) ?_
  rintro _ w4 ⟨rfl, hc4⟩
  have hfl := firstL_length k nonce ctr
  generalize hwas : firstL k nonce ctr = was at *
  refine wpL_allocA (List.replicate 16 (0 : UInt32)) I236 rfl rfl rfl ?_
  rintro w5 b5 hn5 ha5 hc5 hl5
  refine wpL_exs rfl (x_storeN 16 I236 rfl (ha5) rfl rfl (by first | assumption | rfl | (simp <;> omega)) (by first | assumption | rfl | (simp <;> omega))) ?_
  rintro w6 ⟨ha6, hc6, hs6⟩
  refine wpL_nil (thenE_norm ?_)
  refine wpE_seq ?_
  refine wpE_region ?_
  refine wpL_value rfl (x_loadN 16 Tryz.underlying236 rfl I236 rfl rfl (ha6) (by first | assumption | rfl | (simp <;> omega))) ?_
  refine wpL_allocA (List.replicate 16 (0 : UInt32)) I236 rfl rfl rfl ?_
  rintro w7 b7 hn7 ha7 hc7 hl7
  refine wpL_exs rfl (x_storeN 16 I236 rfl (ha7) rfl rfl (by first | assumption | rfl | (simp <;> omega)) (by first | assumption | rfl | (simp <;> omega))) ?_
  rintro w8 ⟨ha8, hc8, hs8⟩
  refine wpL_nil (thenE_norm ?_)
  refine wpE_seq ?_
  refine wpE_seq ?_
  refine wpE_region ?_
  refine wpL_value rfl x_move ?_
  refine wpL_nil (thenE_norm ?_)
  refine wpE_block ?_
  have hc48 : Chg [] w4 w8 := (((hc5.t1 hc6 hn5)).tr hc7).t1 hc8 (by omega)
  have k4 := hc4.1
  have hwas8 : Arr w8 b5 was := (ha6.chg0 hc7).nb hc8 (by omega)
  have hc08 : Chg [] w w8 := (((hc1.tr hc2).tr hc3).tr hc4).tr hc48
  have hr8 : Arr w8 b3 (List.replicate 64 (0 : UInt8)) := (ha3.chg0 hc4).chg0 hc48
  refine wpE_loop [18] [18, 19, 20, 21] (fun n vs w' => ∃ i : Nat, vs = [.int .i64 i] ∧ i + n = 10 ∧ Arr w' b7 (roundsL was i) ∧ Chg [b7] w8 w') (10) (by kernel_rfl) ?_ ?_
  · exact ⟨0, rfl, rfl, by rw [roundsL_zero]; exact ha8, Chg.refl' _ _⟩
  · rintro n vs J w9 ⟨i, rfl, hi, ha9, hc9⟩
    refine wpE_seq ?_
    refine wpE_region ?_
    refine wpL_value rfl (x_lss rfl rfl) ?_
    refine wpL_nil (thenE_norm ?_)
    refine wpE_seq ?_
    have hrl := (roundsL_length was i).trans hfl
    refine wpE_cond_d rfl (fun h => ?_) (fun h => ?_)
    · skip
      refine wpE_skip (thenE_norm ?_)
      refine wpE_seq ?_
      refine wpE_block ?_
      refine wpE_region ?_
      have hob9 : ∃ q, n = q + 1 := ⟨n - 1, by omega⟩
      obtain ⟨n, rfl⟩ := hob9
      refine wpL_call rfl C168 (round_ok b7 _ w9 ha9 hrl) ?_
      rintro _ wa ⟨haa, hca⟩
      refine wpL_nil (blockE_norm (thenE_norm ?_))
      refine wpE_region ?_
      refine wpL_value rfl (x_add64 rfl rfl (by omega)) (wpL_value rfl x_move ?_)
      refine wpL_nil (thenE_norm ?_)
      refine Exists.intro (n) (And.intro (by omega) ?_)
      refine ⟨i + 1, vs_cons (int_eq rfl) vs_nil, by omega, ?_, hc9.tr hca⟩
      rw [roundsL_succ]; exact haa
    · skip
      refine wpE_exit (thenE_exit (thenE_exit (blockE_exit (thenE_norm ?_))))
      refine wpE_seq ?_
      refine wpE_region ?_
      have hob10 : i = 10 := by omega
      obtain rfl := hob10
      have k9 := hc9.1
      have hbd : blockL k nonce ctr = outL was (roundsL was 10) 16 := by rw [blockL_def, hwas]
      generalize hst : roundsL was 10 = st at *
      refine wpL_allocA (List.replicate 64 (0 : UInt8)) I115 rfl rfl rfl ?_
      rintro wa ba hna haa hca hla
      refine wpL_nil (thenE_norm ?_)
      refine wpE_seq ?_
      refine wpE_seq ?_
      refine wpE_region ?_
      refine wpL_value rfl (x_loadN 16 Tryz.underlying236 rfl I236 rfl rfl (ha9.chg0 hca) (by first | assumption | rfl | (simp <;> omega))) ?_
      refine wpL_value rfl x_move ?_
      refine wpL_nil (thenE_norm ?_)
      refine wpE_block ?_
      refine wpE_loop [23] [10, 11, 12, 23, 24, 25, 26, 27, 28, 29, 30, 31, 32, 33, 34, 35, 36, 37, 38] (fun n vs w' => ∃ i : Nat, vs = [.int .i64 i] ∧ i + n = 16 ∧ Arr w' ba (outL was st i ++ List.replicate (64 - 4 * i) 0) ∧ Chg [ba] wa w') (16) (by kernel_rfl) ?_ ?_
      · exact ⟨0, rfl, rfl, by rw [outL_zero]; exact haa, Chg.refl' _ _⟩
      · rintro n vs J wb ⟨i, rfl, hi, hab, hcb⟩
        refine wpE_seq ?_
        refine wpE_region ?_
        refine wpL_value rfl (x_lss rfl rfl) ?_
        refine wpL_nil (thenE_norm ?_)
        refine wpE_seq ?_
        have hol := outL_length was st i
        refine wpE_cond_d rfl (fun h2 => ?_) (fun h2 => ?_)
        · skip
          refine wpE_skip (thenE_norm ?_)
          refine wpE_seq ?_
          refine wpE_block ?_
          refine wpE_seq ?_
          refine wpE_region ?_
          refine wpL_value rfl x_move ?_
          have hob11 : ∃ q, n = q + 1 := ⟨n - 1, by omega⟩
          obtain ⟨n, rfl⟩ := hob11
          refine wpL_value rfl (x_idxV (i) Tryz.underlying236 Tryz.underlying34 rfl I34 rfl rfl rfl (by first | rfl | omega) (by first | assumption | omega) (getD_some (d := 0) (by omega)) rfl) ?_
          refine wpL_value rfl x_assign (wpL_value rfl x_assign ?_)
          refine wpL_nil (thenE_norm ?_)
          refine wpE_seq ?_
          refine wpE_region ?_
          refine wpL_value rfl x_move (wpL_value rfl x_move ?_)
          refine wpL_value rfl (x_idxA (i) Tryz.underlying236 I34 rfl rfl (by first | rfl | omega) (by first | assumption | omega)) ?_
          refine wpL_value rfl (x_load Tryz.underlying34 rfl rfl (((((hwas8.nb hc9 (by omega)).chg0 hca).nb hcb (by omega)).c (getD_some (d := 0) (by omega)) rfl rfl))) ?_
          refine wpL_value rfl (x_add32u rfl rfl) ?_
          refine wpL_call rfl C169 (PutLittle_ok _ wb) ?_
          rintro _ wc ⟨rfl, hcc⟩
          refine wpL_allocA (List.replicate 4 (0 : UInt8)) I238 rfl rfl rfl ?_
          rintro wd bd hnd had hcd hld
          refine wpL_exs rfl (x_storeN 4 I238 rfl (had) rfl rfl (by first | assumption | rfl | (simp <;> omega)) (by first | assumption | rfl | (simp <;> omega))) ?_
          rintro we ⟨hae, hce, hse⟩
          refine wpL_nil (thenE_norm ?_)
          refine wpE_draw mixed (.pure 0 (.pure 1 (.pure 2 (.pure 3 (.eff 4 [] .nil))))) (by kernel_rfl) ?_
          refine wpP_pure rfl rfl rfl (fun _ => x_move) ?_
          refine wpP_pure rfl rfl rfl (fun _ => (x_mul64 rfl rfl (by omega))) ?_
          refine wpP_pure rfl rfl rfl (fun _ => x_arr_from (4 * i) Tryz.underlying115 I5 rfl rfl (by first | rfl | omega) (by omega)) ?_
          refine wpP_pure rfl rfl rfl (fun _ => x_arr_full Tryz.underlying238 I5 rfl) ?_
          refine wpP_exv rfl rfl rfl (x_copyArr (k := 4 * i) Tryz.underlying41 I5 rfl rfl rfl rfl ((hae.sl (n := 4) (c := 4) rfl (by decide)).srcH rfl) (((hab.chg0 hcc).chg0 hcd).nb hce (by have := hcb.1; have := hcc.1; omega)) (by rw [List.length_append, hol, List.length_replicate]; omega)) ?_
          rintro wf ⟨haf, hcf, hsf⟩
          refine ⟨trivial, ?_⟩
          refine wpP_nil (blockE_norm (thenE_norm ?_))
          refine wpE_region ?_
          refine wpL_value rfl (x_add64 rfl rfl (by omega)) (wpL_value rfl x_move ?_)
          refine wpL_nil (thenE_norm ?_)
          have hcf : Chg [ba] we wf := hcf
          have hpl : (putLittleL (st.getD i 0 + was.getD i 0)).length = 4 := rfl
          rw [hpl, Nat.min_eq_left (by omega), show (putLittleL (st.getD i 0 + was.getD i 0)).take 4 = putLittleL (st.getD i 0 + was.getD i 0) from rfl, spl_app hol.symm hpl.symm, List.drop_replicate] at haf
          refine Exists.intro (n) (And.intro (by omega) ?_)
          refine ⟨i + 1, vs_cons (int_eq rfl) vs_nil, by omega, ?_, (((hcb.tr0 hcc).tr0 hcd).tn hce (by have := hcb.1; have := hcc.1; omega)).tr hcf⟩
          rw [outL_succ, show 64 - 4 * (i + 1) = 64 - 4 * i - 4 from by omega]
          exact haf
        · skip
          refine wpE_exit (thenE_exit (thenE_exit (blockE_exit (thenE_norm ?_))))
          refine wpE_seq ?_
          refine wpE_region ?_
          have hob12 : i = 16 := by omega
          obtain rfl := hob12
          rw [show 64 - 4 * 16 = 0 from rfl, List.replicate_zero, List.append_nil, ← hbd] at hab
          refine wpL_value rfl (x_loadN 64 Tryz.underlying115 rfl I115 rfl rfl (hab) (blockL_length _ _ _)) ?_
          refine wpL_exs rfl (x_storeN 64 I115 rfl ((((hr8.nb hc9 (by omega)).chg0 hca).nb hcb (by omega))) rfl rfl (rfl) (blockL_length _ _ _)) ?_
          rintro wc ⟨hac, hcc, hsc⟩
          refine wpL_nil (thenE_norm ?_)
          refine wpE_ret (fin_retR ?_)
          exact ⟨[arrV (blockL k nonce ctr)], ⟨⟨_, rfl, run_loadN 64 Tryz.underlying115 rfl I115 rfl hac (blockL_length _ _ _)⟩, trivial⟩, rfl, (((hc08.t1 hc9 (by omega)).tr hca).t1 hcb (by omega)).t1 hcc (by omega)⟩
theorem XorS_ok (k nonce : List UInt8) (ctr : UInt32) (bv : Value) (l : List UInt8) (w : World) (hk : k.length = 32) (hn : nonce.length = 12) (hb : Sl w bv l) (hl : l.length ≤ 100000000) :
    Ret Tryz.prog 122 #[arrV k, arrV nonce, .int .u32 ctr.toNat, bv] w fun v w' => Own w' v (crossL k nonce ctr l) ∧ Chg [] w w' ∧ In v [] w.heap.size := by
  have hob13 := hb.form rfl
  obtain ⟨p, c, rfl⟩ := hob13
  refine enter [8] Tryz.func122 rfl rfl (Nat.le_of_ble_eq_true rfl) ?_
  refine wpE_seq ?_
  refine wpE_region ?_
  refine wpL_boxA (l := k) rfl rfl ?_
  rintro w1 b1 hn1 ha1 hc1 hl1
  refine wpL_boxA (l := nonce) rfl rfl ?_
  rintro w2 b2 hn2 ha2 hc2 hl2
  refine wpL_value rfl x_assign ?_
  refine wpL_nil (thenE_norm ?_)
  refine wpE_seq ?_
  refine wpE_region ?_
  refine wpL_value rfl x_move (wpL_value rfl (x_len_slice rfl Tryz.underlying41) ?_)
  refine wpL_exw rfl (x_mkS (0) (l.length) ((0 : UInt8)) Tryz.underlying41 I5 rfl rfl rfl (by decide) rfl rfl (by decide) (by first | rfl | omega) (by first | rfl | omega) (by omega) (by omega)) ?_
  rintro _ w3 ⟨⟨p3, c3, rfl⟩, ho3, hc3, hi3⟩
  refine wpL_value rfl x_assign ?_
  refine wpL_nil (thenE_norm ?_)
  refine wpE_seq ?_
  refine wpE_block ?_
  have hc02 : Chg [] w w2 := hc1.tr hc2
  have hbl := hb.lt
  refine wpE_loop [2, 3, 9] [2, 3, 9, 10, 11, 15, 16, 17, 18, 19, 20, 21, 22, 23, 24, 25, 26, 27, 28, 29, 30, 31, 32, 33, 34, 35, 36, 37] (fun n vs w' => ∃ (p' : Option Addr) (c' : Nat) (v9 : Value) (ct : UInt32) (r done : List UInt8), vs = [.int .u32 ct.toNat, .slice p' r.length c', v9] ∧ n = (r.length + 63) / 64 ∧ done.length + r.length = l.length ∧ Sl w' (.slice p' r.length c') r ∧ blkOf (.slice p' r.length c') = blkOf (.slice p l.length c) ∧ Own w' v9 done ∧ done ++ crossN k nonce n ct r = crossL k nonce ctr l ∧ Chg [] w2 w' ∧ In v9 [] w2.heap.size) ((l.length + 63) / 64) (by kernel_rfl) ?_ ?_
  · exact ⟨p, c, .slice p3 0 c3, ctr, l, [], rfl, rfl, by simp, hb.mod0 (hc02.tr hc3), rfl, ho3, by rw [crossL_def]; rfl, hc3, hi3⟩
  · rintro n vs J w4 ⟨p', c', v9, ct, r, done, rfl, hnr, hdr, hs4, hb4, ho4, hx4, hc4, hi4⟩
    refine wpE_seq ?_
    refine wpE_seq ?_
    refine wpE_region ?_
    refine wpL_value rfl x_move (wpL_value rfl (x_len_slice rfl Tryz.underlying41) (wpL_value rfl (x_gtr rfl rfl) ?_))
    refine wpL_nil (thenE_norm ?_)
    refine wpE_cond_d rfl (fun h => ?_) (fun h => ?_)
    · skip
      refine wpE_skip (thenE_norm ?_)
      refine wpE_block ?_
      refine wpE_seq ?_
      refine wpE_region ?_
      refine wpL_value rfl x_move (wpL_value rfl (x_len_slice rfl Tryz.underlying41) (wpL_value rfl (x_min rfl rfl) (wpL_value rfl x_assign ?_)))
      refine wpL_nil (thenE_norm ?_)
      refine wpE_seq ?_
      refine wpE_region ?_
      have hob14 : ∃ q, n = q + 1 := ⟨n - 1, by omega⟩
      obtain ⟨n, rfl⟩ := hob14
      refine wpL_value rfl (x_loadN 32 Tryz.underlying23 rfl I23 rfl rfl ((ha1.chg0 hc2).chg0 hc4) (by first | assumption | rfl | (simp <;> omega))) ?_
      refine wpL_value rfl (x_loadN 12 Tryz.underlying109 rfl I109 rfl rfl (ha2.chg0 hc4) (by first | assumption | rfl | (simp <;> omega))) ?_
      refine wpL_value rfl x_move ?_
      refine wpL_call rfl C138 (Block_ok k nonce ct w4 hk hn) ?_
      rintro _ w5 ⟨rfl, hc5⟩
      refine wpL_allocA (List.replicate 64 (0 : UInt8)) I115 rfl rfl rfl ?_
      rintro w6 b6 hn6 ha6 hc6 hl6
      refine wpL_exs rfl (x_storeN 64 I115 rfl (ha6) rfl rfl (rfl) (blockL_length _ _ _)) ?_
      rintro w7 ⟨ha7, hc7, hs7⟩
      refine wpL_nil (thenE_norm ?_)
      refine wpE_seq ?_
      have hc47 : Chg [] w4 w7 := (hc5.tr hc6).t1 hc7 (by have := hc5.1; omega)
      have hs7' := hs4.mod0 hc47
      have ho7 := ho4.mod0 hc47
      refine wpE_draw mixed (.pure 0 (.pure 1 (.pure 2 (.pure 3 (.pure 4 (.pure 5 (.eff 6 [] (.eff 7 [] (.pure 8 .nil))))))))) (by kernel_rfl) ?_
      refine wpP_pure rfl rfl rfl (fun _ => x_move) ?_
      refine wpP_pure rfl rfl rfl (fun _ => x_move) ?_
      refine wpP_pure rfl rfl rfl (fun _ => x_move) ?_
      refine wpP_pure rfl rfl rfl (fun _ => x_move) ?_
      refine wpP_ex rfl rfl rfl (x_uptomax (min r.length 64) (min r.length 64) Tryz.underlying41 I5 hs7' rfl rfl rfl (by omega) (by omega) (by omega)) ?_
      rintro _ ⟨⟨pa, rfl⟩, hsa, hbla⟩
      refine wpP_pure rfl rfl rfl (fun _ => x_arr_full Tryz.underlying115 I5 rfl) ?_
      refine wpP_call rfl rfl rfl C139 (Xor_ok _ _ _ _ _ hsa (ha7.sl (n := 64) (c := 64) (blockL_length _ _ _) (Nat.le_refl _)) (by rw [List.length_take]; omega)) ?_
      rintro v8 w8 ⟨ho8, hc8, hi8⟩
      refine ⟨trivial, ?_⟩
      have hc8 : Chg [] w7 w8 := hc8
      have hx8 : (xorL (r.take (min r.length 64)) (blockL k nonce ct)).length = min r.length 64 := by rw [xorL_length, blockL_length, List.length_take]; omega
      refine wpP_exw rfl rfl rfl (x_app Tryz.underlying41 Tryz.underlying41 I5 (.inr ⟨_, rfl⟩) rfl rfl rfl (by decide) (ho7.mod0 hc8) (ho8.sl.src) rfl rfl (by omega)) ?_
      rintro va wa ha
      refine ⟨trivial, ?_⟩
      refine wpP_pure rfl rfl rfl (fun _ => x_assign) ?_
      refine wpP_nil (thenE_norm ?_)
      refine wpE_seq ?_
      refine wpE_region ?_
      refine wpL_value rfl x_move (wpL_value rfl x_move ?_)
      have hob15 := ha.step ((hc4.tr hc47).tr hc8) hi4
      obtain ⟨hoa, hca, hia⟩ := hob15
      have hc4a : Chg [] w wa := hc02.tr hca
      have hdis : ∀ b ∈ blkOf (.slice p' r.length c'), b ∉ blkOf v9 := fun b hb hb' => by
        have := hbl b (hb4 ▸ hb)
        have := hi4.ge b hb'
        have := hc02.1
        omega
      have hsr := ((hs4.mod0 hc47).mod0 hc8).mod ha.mod hdis
      refine wpL_ex rfl (x_from (min r.length 64) Tryz.underlying41 I5 rfl hsr rfl rfl (by omega) (by omega)) ?_
      rintro _ ⟨⟨pb, cb, rfl⟩, hsb, hblb⟩
      refine wpL_value rfl x_assign ?_
      refine wpL_nil (thenE_norm ?_)
      refine wpE_region ?_
      refine wpL_value rfl x_move (wpL_value rfl (x_add32u (b := 1) rfl rfl) (wpL_value rfl x_assign ?_))
      refine wpL_nil (blockE_norm (thenE_norm ?_))
      have hdr2 : r.drop (min r.length 64) = r.drop 64 := by
        by_cases h6 : r.length ≤ 64
        · rw [List.drop_of_length_le (by omega), List.drop_of_length_le (by omega)]
        · rw [Nat.min_eq_right (by omega)]
      have htr2 : r.take (min r.length 64) = r.take 64 := by
        by_cases h6 : r.length ≤ 64
        · rw [List.take_of_length_le (by omega), List.take_of_length_le (by omega)]
        · rw [Nat.min_eq_right (by omega)]
      have hll : r.length - min r.length 64 = (r.drop 64).length := by rw [List.length_drop]; omega
      rw [hdr2, hll] at hsb
      rw [hll] at hblb
      rw [htr2] at hx8 hoa
      refine Exists.intro (n) (And.intro (by omega) ?_)
      refine ⟨pb, cb, va, ct + 1, r.drop 64, done ++ xorL (r.take 64) (blockL k nonce ct), ?_, ?_, ?_, hsb, hblb.trans hb4, hoa, ?_, hca, hia⟩
      · rw [← hll]; rfl
      · rw [List.length_drop]; omega
      · rw [List.length_append, hx8, List.length_drop]; omega
      · rw [List.append_assoc, ← crossN_succ]; exact hx4
    · skip
      refine wpE_exit (thenE_exit (thenE_exit (blockE_exit (thenE_norm ?_))))
      refine wpE_seq ?_
      refine wpE_region ?_
      refine wpL_value rfl x_move (wpL_value rfl x_assign ?_)
      refine wpL_nil (thenE_norm ?_)
      refine wpE_ret (fin_ret ?_)
      have hob16 : n = 0 := by omega
      obtain rfl := hob16
      rw [crossN_zero, List.append_nil] at hx4
      refine ⟨hx4 ▸ ho4, hc02.tr hc4, hi4.mono (fun b hb => .inl hb) hc02.1⟩
end Go.Proofs.YtenhmbhflgnhlaaGreat

