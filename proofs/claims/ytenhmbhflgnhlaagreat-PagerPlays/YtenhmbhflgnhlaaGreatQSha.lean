/- every row of calls, crashes, the power going within a commit: what each tells -/
import Derived.Test.YtenhmbhflgnhlaaGreatQBits
import Derived.Test.YtenhmbhflgnhlaaGreatSac1
namespace Go.Proofs.YtenhmbhflgnhlaaGreat
open Go Go.Sac
set_option maxRecDepth 100000
set_option maxHeartbeats 4000000
theorem first_ok (w : World) : Ret Tryz.prog 170 #[] w fun v w' => v = arrV shaFirst ∧ Chg [] w w' := by
  refine enterR [.cell 0 240] Tryz.func170 rfl rfl (Nat.le_of_ble_eq_true rfl) ?_
  refine wpE_seq ?_
  refine wpE_region ?_
  refine wpL_allocA (List.replicate 8 (0 : UInt32)) I240 rfl rfl rfl ?_
  rintro w1 b1 hn1 ha1 hc1 hl1
  refine wpL_nil (thenE_norm ?_)
  refine wpE_seq ?_
  refine wpE_region ?_
  refine wpL_value rfl (x_buildV (List.replicate 8 (0 : UInt32)) (shaFirst.zipIdx.map fun x => (x.2, x.1)) (l := shaFirst) Tryz.underlying240 I240 rfl I34 rfl rfl rfl rfl rfl) ?_
  refine wpL_exs rfl (x_storeN 8 I240 rfl (ha1) rfl rfl (by first | assumption | rfl | (simp <;> omega)) (by first | assumption | rfl | (simp <;> omega))) ?_
  rintro w4 ⟨ha4, hc4, hs4⟩
  refine wpL_nil (thenE_norm ?_)
  refine wpE_ret (fin_retR ?_)
  exact ⟨[arrV shaFirst], ⟨⟨_, rfl, run_loadN 8 Tryz.underlying240 rfl I240 rfl ha4 rfl⟩, trivial⟩, rfl, hc1.t1 hc4 (by omega)⟩
theorem constants_ok (w : World) : Ret Tryz.prog 191 #[] w fun v w' => v = arrV shaK ∧ Chg [] w w' := by
  refine enterR [.cell 0 253] Tryz.func191 rfl rfl (Nat.le_of_ble_eq_true rfl) ?_
  refine wpE_seq ?_
  refine wpE_region ?_
  refine wpL_allocA (List.replicate 64 (0 : UInt32)) I253 rfl rfl rfl ?_
  rintro w1 b1 hn1 ha1 hc1 hl1
  refine wpL_nil (thenE_norm ?_)
  refine wpE_seq ?_
  refine wpE_region ?_
  refine wpL_value rfl (x_buildV (List.replicate 64 (0 : UInt32)) (shaK.zipIdx.map fun x => (x.2, x.1)) (l := shaK) Tryz.underlying253 I253 rfl I34 (by kernel_rfl) rfl (by kernel_rfl) rfl (by kernel_rfl)) ?_
  refine wpL_exs rfl (x_storeN 64 I253 rfl (ha1) rfl rfl (by first | assumption | rfl | (simp <;> omega)) (by first | assumption | rfl | (simp <;> omega))) ?_
  rintro w4 ⟨ha4, hc4, hs4⟩
  refine wpL_nil (thenE_norm ?_)
  refine wpE_ret (fin_retR ?_)
  exact ⟨[arrV shaK], ⟨⟨_, rfl, run_loadN 64 Tryz.underlying253 rfl I253 rfl ha4 rfl⟩, trivial⟩, rfl, hc1.t1 hc4 (by omega)⟩
theorem schedule_ok (b : Value) (l : List UInt8) (w : World) (hb : Sl w b l) (hl : 64 ≤ l.length) :
    Ret Tryz.prog 190 #[b] w fun v w' => v = arrV (schedN l 64) ∧ Chg [] w w' := by
  refine enterR [.cell 2 253] Tryz.func190 rfl rfl (Nat.le_of_ble_eq_true rfl) ?_
  refine wpE_seq ?_
  refine wpE_region ?_
  refine wpL_allocA (List.replicate 64 (0 : UInt32)) I253 rfl rfl rfl ?_
  rintro w1 b1 hn1 ha1 hc1 hl1
  refine wpL_nil (thenE_norm ?_)
  refine wpE_seq ?_
  refine wpE_region ?_
  refine wpL_allocA (List.replicate 64 (0 : UInt32)) I253 rfl rfl rfl ?_
  rintro w2 b2 hn2 ha2 hc2 hl2
  refine wpL_nil (thenE_norm ?_)
  refine wpE_seq ?_
  refine wpE_seq ?_
  refine wpE_region ?_
  refine wpL_value rfl x_move ?_
  refine wpL_nil (thenE_norm ?_)
  refine wpE_block ?_
  have hc12 := hc1.tr hc2
  refine wpE_loop [9] [4, 5, 6, 7, 8, 9, 10, 11, 12, 13, 14, 15, 16, 17, 18, 19, 20, 21, 22, 23, 24, 25, 26, 27, 28, 29, 30, 31, 32, 33, 34, 35, 36, 37, 38, 39, 40, 41, 42, 43, 44, 45, 46, 47, 48, 49, 50, 51, 52, 53, 54, 55, 56, 57, 58, 59, 60] (fun n vs w' => ∃ i : Nat, vs = [.int .i64 i] ∧ i + n = 64 ∧ Arr w' b2 (schedN l i) ∧ Chg [b2] w2 w') (64) (by kernel_rfl) ?_ ?_
  · exact ⟨0, rfl, rfl, by rw [schedN_zero]; exact ha2, Chg.refl' _ _⟩
  · rintro n vs J w3 ⟨i, rfl, hi, ha3, hc3⟩
    refine wpE_seq ?_
    refine wpE_region ?_
    refine wpL_value rfl (x_lss rfl rfl) ?_
    refine wpL_nil (thenE_norm ?_)
    refine wpE_seq ?_
    have hsl := schedN_length l i
    have hc3' := hc12.t1 hc3 (by omega)
    refine wpE_cond_d rfl (fun h => ?_) (fun h => ?_)
    · skip
      refine wpE_skip (thenE_norm ?_)
      refine wpE_seq ?_
      refine wpE_block ?_
      refine wpE_seq ?_
      refine wpE_region ?_
      refine wpL_value rfl x_move (wpL_value rfl x_assign ?_)
      refine wpL_nil (thenE_norm ?_)
      refine wpE_seq ?_
      refine wpE_seq ?_
      refine wpE_region ?_
      refine wpL_value rfl x_move (wpL_value rfl (x_lss rfl rfl) ?_)
      refine wpL_nil (thenE_norm ?_)
      have hob1 : ∃ q, n = q + 1 := ⟨n - 1, by omega⟩
      obtain ⟨n, rfl⟩ := hob1
      refine wpE_cond_d rfl (fun h16 => ?_) (fun h16 => ?_)
      · skip
        refine wpE_seq ?_
        refine wpE_region ?_
        refine wpL_value rfl x_move (wpL_value rfl x_move (wpL_value rfl x_move (wpL_value rfl (x_mul64 rfl rfl (by omega)) ?_)))
        refine wpL_ex rfl (x_from (4 * i) Tryz.underlying41 I5 rfl (hb.mod0 hc3') rfl rfl (by omega) (by omega)) ?_
        rintro _ ⟨⟨p1, c1, rfl⟩, hs1, hbl1⟩
        refine wpL_call rfl C198 (Big_ok _ _ w3 hs1 (by rw [List.length_drop]; omega)) ?_
        rintro _ w4 ⟨rfl, hc4⟩
        refine wpL_value rfl (x_idxA (i) Tryz.underlying253 I34 rfl rfl (by first | rfl | omega) (by first | assumption | omega)) ?_
        refine wpL_exs rfl (x_store1 (a := bigL (l.drop (4 * i))) (k := i) I34 rfl rfl rfl rfl (ha3.chg0 hc4) rfl (by first | assumption | omega)) ?_
        rintro w5 ⟨ha5, hc5, hs5⟩
        refine wpL_nil (thenE_norm ?_)
        refine wpE_exit (thenE_exit (blockE_exit (thenE_norm ?_)))
        refine wpE_region ?_
        refine wpL_value rfl (x_add64 rfl rfl (by omega)) (wpL_value rfl x_move ?_)
        refine wpL_nil (thenE_norm ?_)
        refine Exists.intro (n) (And.intro (by omega) ?_)
        refine ⟨i + 1, vs_cons (int_eq rfl) vs_nil, by omega, ?_, (hc3.tr0 hc4).tr hc5⟩
        rw [schedN_succ, schedAt, if_pos (by omega)]; exact ha5
      · skip
        refine wpE_skip (thenE_norm ?_)
        refine wpE_seq ?_
        refine wpE_draw mixed (.pure 0 (.pure 1 (.pure 2 (.read 3 (.pure 4 (.pure 5 (.pure 6 (.read 7 (.pure 8 (.pure 9 .nil)))))))))) (by kernel_rfl) ?_
        refine wpP_pure rfl rfl rfl (fun _ => x_move) ?_
        refine wpP_pure rfl rfl rfl (fun _ => (x_sub64 rfl rfl (by omega))) ?_
        refine wpP_pure rfl rfl rfl (fun _ => x_idxA (i - 15) Tryz.underlying253 I34 rfl rfl (by first | rfl | omega) (by first | assumption | omega)) ?_
        refine wpP_rd rfl rfl rfl Tryz.underlying34 rfl rfl (ha3.c (getD_some (d := 0) (by omega)) rfl rfl) ?_
        refine wpP_pure rfl rfl rfl (fun _ => x_move) ?_
        refine wpP_pure rfl rfl rfl (fun _ => (x_sub64 rfl rfl (by omega))) ?_
        refine wpP_pure rfl rfl rfl (fun _ => x_idxA (i - 2) Tryz.underlying253 I34 rfl rfl (by first | rfl | omega) (by first | assumption | omega)) ?_
        refine wpP_rd rfl rfl rfl Tryz.underlying34 rfl rfl (ha3.c (getD_some (d := 0) (by omega)) rfl rfl) ?_
        refine wpP_pure rfl rfl rfl (fun _ => x_assign) ?_
        refine wpP_pure rfl rfl rfl (fun _ => x_assign) ?_
        refine wpP_nil (thenE_norm ?_)
        refine wpE_seq ?_
        refine wpE_region ?_
        refine wpL_value rfl x_move ?_
        refine wpL_call rfl C192 (Rotr_ok _ _ 7 rfl _) ?_
        rintro _ _ ⟨rfl, rfl⟩
        refine wpL_value rfl x_move ?_
        refine wpL_call rfl C192 (Rotr_ok _ _ 18 rfl _) ?_
        rintro _ _ ⟨rfl, rfl⟩
        refine wpL_value rfl (x_xor32u rfl rfl) (wpL_value rfl x_move (wpL_value rfl (x_shr32u rfl rfl (s := 3) rfl) (wpL_value rfl (x_xor32u rfl rfl) (wpL_value rfl x_assign ?_))))
        refine wpL_nil (thenE_norm ?_)
        refine wpE_seq ?_
        refine wpE_region ?_
        refine wpL_value rfl x_move ?_
        refine wpL_call rfl C192 (Rotr_ok _ _ 17 rfl _) ?_
        rintro _ _ ⟨rfl, rfl⟩
        refine wpL_value rfl x_move ?_
        refine wpL_call rfl C192 (Rotr_ok _ _ 19 rfl _) ?_
        rintro _ _ ⟨rfl, rfl⟩
        refine wpL_value rfl (x_xor32u rfl rfl) (wpL_value rfl x_move (wpL_value rfl (x_shr32u rfl rfl (s := 10) rfl) (wpL_value rfl (x_xor32u rfl rfl) (wpL_value rfl x_assign ?_))))
        refine wpL_nil (thenE_norm ?_)
        refine wpE_draw mixed (.pure 0 (.pure 1 (.pure 2 (.pure 3 (.pure 4 (.read 5 (.pure 6 (.pure 7 (.pure 8 (.pure 9 (.pure 10 (.pure 11 (.read 12 (.pure 13 (.pure 14 (.eff 15 [] .nil)))))))))))))))) (by kernel_rfl) ?_
        refine wpP_pure rfl rfl rfl (fun _ => x_move) ?_
        refine wpP_pure rfl rfl rfl (fun _ => x_move) ?_
        refine wpP_pure rfl rfl rfl (fun _ => x_move) ?_
        refine wpP_pure rfl rfl rfl (fun _ => (x_sub64 rfl rfl (by omega))) ?_
        refine wpP_pure rfl rfl rfl (fun _ => x_idxA (i - 7) Tryz.underlying253 I34 rfl rfl (by first | rfl | omega) (by first | assumption | omega)) ?_
        refine wpP_rd rfl rfl rfl Tryz.underlying34 rfl rfl (ha3.c (getD_some (d := 0) (by omega)) rfl rfl) ?_
        refine wpP_pure rfl rfl rfl (fun _ => (x_add32u rfl rfl)) ?_
        refine wpP_pure rfl rfl rfl (fun _ => x_move) ?_
        refine wpP_pure rfl rfl rfl (fun _ => (x_add32u rfl rfl)) ?_
        refine wpP_pure rfl rfl rfl (fun _ => x_move) ?_
        refine wpP_pure rfl rfl rfl (fun _ => (x_sub64 rfl rfl (by omega))) ?_
        refine wpP_pure rfl rfl rfl (fun _ => x_idxA (i - 16) Tryz.underlying253 I34 rfl rfl (by first | rfl | omega) (by first | assumption | omega)) ?_
        refine wpP_rd rfl rfl rfl Tryz.underlying34 rfl rfl (ha3.c (getD_some (d := 0) (by omega)) rfl rfl) ?_
        refine wpP_pure rfl rfl rfl (fun _ => (x_add32u rfl rfl)) ?_
        refine wpP_pure rfl rfl rfl (fun _ => x_idxA (i) Tryz.underlying253 I34 rfl rfl (by first | rfl | omega) (by first | assumption | omega)) ?_
        refine wpP_exs rfl rfl rfl (x_store1 (a := _) (k := i) I34 rfl rfl rfl rfl (ha3) rfl (by first | assumption | omega)) ?_
        rintro w5 ⟨ha5, hc5, hs5⟩
        refine ⟨trivial, ?_⟩
        refine wpP_nil (blockE_norm (thenE_norm ?_))
        refine wpE_region ?_
        refine wpL_value rfl (x_add64 rfl rfl (by omega)) (wpL_value rfl x_move ?_)
        refine wpL_nil (thenE_norm ?_)
        refine Exists.intro (n) (And.intro (by omega) ?_)
        refine ⟨i + 1, vs_cons (int_eq rfl) vs_nil, by omega, ?_, hc3.tr hc5⟩
        rw [schedN_succ, schedAt, if_neg (by omega)]; exact ha5
    · skip
      refine wpE_exit (thenE_exit (thenE_exit (blockE_exit (thenE_norm ?_))))
      refine wpE_seq ?_
      refine wpE_region ?_
      have hob2 : i = 64 := by omega
      obtain rfl := hob2
      refine wpL_value rfl (x_loadN 64 Tryz.underlying253 rfl I253 rfl rfl (ha3) (by first | assumption | rfl | (simp <;> omega))) ?_
      refine wpL_exs rfl (x_storeN 64 I253 rfl ((ha1.chg0 hc2).nb hc3 (by omega)) rfl rfl (by first | assumption | rfl | (simp <;> omega)) (by first | assumption | rfl | (simp <;> omega))) ?_
      rintro w4 ⟨ha4, hc4, hs4⟩
      refine wpL_nil (thenE_norm ?_)
      refine wpE_ret (fin_retR ?_)
      exact ⟨[arrV (schedN l 64)], ⟨⟨_, rfl, run_loadN 64 Tryz.underlying253 rfl I253 rfl ha4 (schedN_length l 64)⟩, trivial⟩, rfl, hc3'.t1 hc4 (by omega)⟩
theorem next_ok (s : List UInt32) (hs : s.length = 8) (b : Value) (l : List UInt8) (w : World) (hb : Sl w b l) (hl : l.length = 64) :
    Ret Tryz.prog 172 #[arrV s, b] w fun v w' => v = arrV (shaNext s l) ∧ Chg [] w w' := by
  refine enterR [.cell 4 240] Tryz.func172 rfl rfl (Nat.le_of_ble_eq_true rfl) ?_
  refine wpE_seq ?_
  refine wpE_region ?_
  refine wpL_boxA (l := s) rfl rfl ?_
  rintro w1 b1 hn1 ha1 hc1 hl1
  refine wpL_allocA (List.replicate 8 (0 : UInt32)) I240 rfl rfl rfl ?_
  rintro w2 b2 hn2 ha2 hc2 hl2
  refine wpL_nil (thenE_norm ?_)
  refine wpE_seq ?_
  refine wpE_region ?_
  refine wpL_value rfl x_move ?_
  refine wpL_call rfl C190 (schedule_ok b l w2 (hb.mod0 (hc1.tr hc2)) (by omega)) ?_
  rintro _ w3 ⟨rfl, hc3⟩
  refine wpL_call rfl C191 (constants_ok w3) ?_
  rintro _ w4 ⟨rfl, hc4⟩
  refine wpL_allocA (List.replicate 64 (0 : UInt32)) I253 rfl rfl rfl ?_
  rintro w5 b5 hn5 ha5 hc5 hl5
  refine wpL_allocA (List.replicate 64 (0 : UInt32)) I253 rfl rfl rfl ?_
  rintro w6 b6 hn6 ha6 hc6 hl6
  refine wpL_exs rfl (x_storeN 64 I253 rfl (ha5.chg0 hc6) rfl rfl (rfl) (schedN_length l 64)) ?_
  rintro w7 ⟨ha7, hc7, hs7⟩
  refine wpL_exs rfl (x_storeN 64 I253 rfl (ha6.nb hc7 (by omega)) rfl rfl (rfl) (rfl)) ?_
  rintro w8 ⟨ha8, hc8, hs8⟩
  refine wpL_nil (thenE_norm ?_)
  refine wpE_seq ?_
  refine wpE_region ?_
  have hc2s := ((((((hc2.tr hc3).tr hc4).tr hc5).tr hc6).t1 hc7 (by have := hc3.1; have := hc4.1; omega)).t1 hc8 (by have := hc3.1; have := hc4.1; omega))
  have hA1 := ha1.chg0 hc2s
  refine wpL_value rfl (x_loadN 8 Tryz.underlying240 rfl I240 rfl rfl (hA1) (by first | assumption | rfl | (simp <;> omega))) ?_
  refine wpL_allocA (List.replicate 8 (0 : UInt32)) I240 rfl rfl rfl ?_
  rintro w9 b9 hn9 ha9 hc9 hl9
  refine wpL_exs rfl (x_storeN 8 I240 rfl (ha9) rfl rfl (by first | assumption | rfl | (simp <;> omega)) (by first | assumption | rfl | (simp <;> omega))) ?_
  rintro wa ⟨haa, hca, hsa⟩
  refine wpL_nil (thenE_norm ?_)
  refine wpE_seq ?_
  refine wpE_seq ?_
  refine wpE_region ?_
  refine wpL_value rfl x_move ?_
  refine wpL_nil (thenE_norm ?_)
  refine wpE_block ?_
  have hsz : w8.heap.size ≤ b9 := hn9
  have k1 := hc3.1
  have k2 := hc4.1
  have h7a : Arr wa b5 (schedN l 64) := ((ha7.nb hc8 (by omega)).chg0 hc9).nb hca (by omega)
  have h8a : Arr wa b6 shaK := (ha8.chg0 hc9).nb hca (by omega)
  have h2a : Arr wa b2 (List.replicate 8 (0 : UInt32)) := by
    have k1 := hc3.1
    have k2 := hc4.1
    exact (((((((ha2.chg0 hc3).chg0 hc4).chg0 hc5).chg0 hc6).nb hc7 (by omega)).nb hc8 (by omega)).chg0 hc9).nb hca (by omega)
  have h1a : Arr wa b1 s := (hA1.chg0 hc9).nb hca (by omega)
  have hcw : Chg [] w wa := ((hc1.tr hc2s).tr hc9).t1 hca (by omega)
  refine wpE_loop [20] [8, 9, 10, 11, 12, 13, 14, 20, 21, 22, 23, 24, 25, 26, 27, 28, 29, 30, 31, 32, 33, 34, 35, 36, 37, 38, 39, 40, 41, 42, 43, 44, 45, 46, 47, 48, 49, 50, 51, 52, 53, 54, 55, 56, 57, 58, 59, 60, 61, 62, 63, 64, 65, 66, 67, 68, 69, 70, 71, 72, 73, 74, 75, 76, 77, 78, 79, 80, 81, 82, 83, 84, 85, 86, 87, 88, 89, 90, 91, 92, 93, 94, 95, 96, 97, 98, 99, 100, 101] (fun n vs w' => ∃ i : Nat, vs = [.int .i64 i] ∧ i + n = 64 ∧ Arr w' b9 (shaRounds (schedN l 64) s i) ∧ Chg [b9] wa w') (64) (by kernel_rfl) ?_ ?_
  · exact ⟨0, rfl, rfl, by rw [shaRounds_zero]; exact haa, Chg.refl' _ _⟩
  · rintro n vs J w3 ⟨i, rfl, hi, hb7, hc3⟩
    refine wpE_seq ?_
    refine wpE_region ?_
    refine wpL_value rfl (x_lss rfl rfl) ?_
    refine wpL_nil (thenE_norm ?_)
    refine wpE_seq ?_
    have hvl := shaRounds_length (schedN l 64) s hs i
    have hkl : shaK.length = 64 := rfl
    have hsl := schedN_length l 64
    refine wpE_cond_d rfl (fun h => ?_) (fun h => ?_)
    · skip
      refine wpE_skip (thenE_norm ?_)
      refine wpE_seq ?_
      refine wpE_block ?_
      refine wpE_seq ?_
      refine wpE_region ?_
      refine wpL_value rfl x_move (wpL_value rfl x_assign ?_)
      refine wpL_nil (thenE_norm ?_)
      refine wpE_seq ?_
      have hob3 : ∃ q, n = q + 1 := ⟨n - 1, by omega⟩
      obtain ⟨n, rfl⟩ := hob3
      refine wpE_draw mixed (.pure 0 (.read 1 (.pure 2 (.read 3 (.pure 4 (.pure 5 .nil)))))) (by kernel_rfl) ?_
      refine wpP_pure rfl rfl rfl (fun _ => (x_idxA 0 Tryz.underlying240 I34 rfl rfl rfl (by decide))) ?_
      refine wpP_rd rfl rfl rfl Tryz.underlying34 rfl rfl (hb7.c (getD_some (d := 0) (by omega)) rfl rfl) ?_
      refine wpP_pure rfl rfl rfl (fun _ => (x_idxA 4 Tryz.underlying240 I34 rfl rfl rfl (by decide))) ?_
      refine wpP_rd rfl rfl rfl Tryz.underlying34 rfl rfl (hb7.c (getD_some (d := 0) (by omega)) rfl rfl) ?_
      refine wpP_pure rfl rfl rfl (fun _ => x_assign) ?_
      refine wpP_pure rfl rfl rfl (fun _ => x_assign) ?_
      refine wpP_nil (thenE_norm ?_)
      refine wpE_seq ?_
      refine wpE_region ?_
      refine wpL_value rfl x_move ?_
      refine wpL_call rfl C192 (Rotr_ok _ _ 6 rfl _) ?_
      rintro _ _ ⟨rfl, rfl⟩
      refine wpL_value rfl x_move ?_
      refine wpL_call rfl C192 (Rotr_ok _ _ 11 rfl _) ?_
      rintro _ _ ⟨rfl, rfl⟩
      refine wpL_value rfl (x_xor32u rfl rfl) (wpL_value rfl x_move ?_)
      refine wpL_call rfl C192 (Rotr_ok _ _ 25 rfl _) ?_
      rintro _ _ ⟨rfl, rfl⟩
      refine wpL_value rfl (x_xor32u rfl rfl) (wpL_value rfl x_assign ?_)
      refine wpL_nil (thenE_norm ?_)
      refine wpE_seq ?_
      refine wpE_draw mixed (.pure 0 (.read 1 (.pure 2 (.pure 3 (.pure 4 (.pure 5 (.read 6 (.pure 7 (.pure 8 (.pure 9 (.pure 10 (.read 11 (.pure 12 (.pure 13 (.pure 14 (.pure 15 (.pure 16 (.read 17 (.pure 18 (.pure 19 (.pure 20 (.read 21 (.pure 22 (.pure 23 .nil)))))))))))))))))))))))) (by kernel_rfl) ?_
      refine wpP_pure rfl rfl rfl (fun _ => (x_idxA 7 Tryz.underlying240 I34 rfl rfl rfl (by decide))) ?_
      refine wpP_rd rfl rfl rfl Tryz.underlying34 rfl rfl (hb7.c (getD_some (d := 0) (by omega)) rfl rfl) ?_
      refine wpP_pure rfl rfl rfl (fun _ => x_move) ?_
      refine wpP_pure rfl rfl rfl (fun _ => (x_add32u rfl rfl)) ?_
      refine wpP_pure rfl rfl rfl (fun _ => x_move) ?_
      refine wpP_pure rfl rfl rfl (fun _ => (x_idxA 5 Tryz.underlying240 I34 rfl rfl rfl (by decide))) ?_
      refine wpP_rd rfl rfl rfl Tryz.underlying34 rfl rfl (hb7.c (getD_some (d := 0) (by omega)) rfl rfl) ?_
      refine wpP_pure rfl rfl rfl (fun _ => (x_and32u rfl rfl)) ?_
      refine wpP_pure rfl rfl rfl (fun _ => x_move) ?_
      refine wpP_pure rfl rfl rfl (fun _ => (x_com32u rfl)) ?_
      refine wpP_pure rfl rfl rfl (fun _ => (x_idxA 6 Tryz.underlying240 I34 rfl rfl rfl (by decide))) ?_
      refine wpP_rd rfl rfl rfl Tryz.underlying34 rfl rfl (hb7.c (getD_some (d := 0) (by omega)) rfl rfl) ?_
      refine wpP_pure rfl rfl rfl (fun _ => (x_and32u rfl rfl)) ?_
      refine wpP_pure rfl rfl rfl (fun _ => (x_xor32u rfl rfl)) ?_
      refine wpP_pure rfl rfl rfl (fun _ => (x_add32u rfl rfl)) ?_
      refine wpP_pure rfl rfl rfl (fun _ => x_move) ?_
      refine wpP_pure rfl rfl rfl (fun _ => x_idxA (i) Tryz.underlying253 I34 rfl rfl (by first | rfl | omega) (by first | assumption | omega)) ?_
      refine wpP_rd rfl rfl rfl Tryz.underlying34 rfl rfl ((h8a.nb hc3 (by omega)).c (getD_some (d := 0) (by omega)) rfl rfl) ?_
      refine wpP_pure rfl rfl rfl (fun _ => (x_add32u rfl rfl)) ?_
      refine wpP_pure rfl rfl rfl (fun _ => x_move) ?_
      refine wpP_pure rfl rfl rfl (fun _ => x_idxA (i) Tryz.underlying253 I34 rfl rfl (by first | rfl | omega) (by first | assumption | omega)) ?_
      refine wpP_rd rfl rfl rfl Tryz.underlying34 rfl rfl ((h7a.nb hc3 (by omega)).c (getD_some (d := 0) (by omega)) rfl rfl) ?_
      refine wpP_pure rfl rfl rfl (fun _ => (x_add32u rfl rfl)) ?_
      refine wpP_pure rfl rfl rfl (fun _ => x_assign) ?_
      refine wpP_nil (thenE_norm ?_)
      refine wpE_seq ?_
      refine wpE_region ?_
      refine wpL_value rfl x_move ?_
      refine wpL_call rfl C192 (Rotr_ok _ _ 2 rfl _) ?_
      rintro _ _ ⟨rfl, rfl⟩
      refine wpL_value rfl x_move ?_
      refine wpL_call rfl C192 (Rotr_ok _ _ 13 rfl _) ?_
      rintro _ _ ⟨rfl, rfl⟩
      refine wpL_value rfl (x_xor32u rfl rfl) (wpL_value rfl x_move ?_)
      refine wpL_call rfl C192 (Rotr_ok _ _ 22 rfl _) ?_
      rintro _ _ ⟨rfl, rfl⟩
      refine wpL_value rfl (x_xor32u rfl rfl) (wpL_value rfl x_assign ?_)
      refine wpL_nil (thenE_norm ?_)
      refine wpE_seq ?_
      refine wpE_region ?_
      refine wpL_value rfl x_move (wpL_value rfl x_move (wpL_value rfl (x_idxA 1 Tryz.underlying240 I34 rfl rfl rfl (by decide)) ?_))
      refine wpL_value rfl (x_load Tryz.underlying34 rfl rfl (hb7.c (getD_some (d := 0) (by omega)) rfl rfl)) ?_
      refine wpL_value rfl (x_and32u rfl rfl) (wpL_value rfl x_move (wpL_value rfl (x_idxA 2 Tryz.underlying240 I34 rfl rfl rfl (by decide)) ?_))
      refine wpL_value rfl (x_load Tryz.underlying34 rfl rfl (hb7.c (getD_some (d := 0) (by omega)) rfl rfl)) ?_
      refine wpL_value rfl (x_and32u rfl rfl) (wpL_value rfl (x_xor32u rfl rfl) (wpL_value rfl (x_idxA 1 Tryz.underlying240 I34 rfl rfl rfl (by decide)) ?_))
      refine wpL_value rfl (x_load Tryz.underlying34 rfl rfl (hb7.c (getD_some (d := 0) (by omega)) rfl rfl)) ?_
      refine wpL_value rfl (x_idxA 2 Tryz.underlying240 I34 rfl rfl rfl (by decide)) ?_
      refine wpL_value rfl (x_load Tryz.underlying34 rfl rfl (hb7.c (getD_some (d := 0) (by omega)) rfl rfl)) ?_
      refine wpL_value rfl (x_and32u rfl rfl) (wpL_value rfl (x_xor32u rfl rfl) (wpL_value rfl (x_add32u rfl rfl) (wpL_value rfl x_assign ?_)))
      refine wpL_nil (thenE_norm ?_)
      refine wpE_region ?_
      refine wpL_value rfl x_move (wpL_value rfl x_move (wpL_value rfl (x_add32u rfl rfl) (wpL_value rfl x_move (wpL_value rfl (x_idxA 1 Tryz.underlying240 I34 rfl rfl rfl (by decide)) ?_))))
      refine wpL_value rfl (x_load Tryz.underlying34 rfl rfl (hb7.c (getD_some (d := 0) (by omega)) rfl rfl)) ?_
      refine wpL_value rfl (x_idxA 2 Tryz.underlying240 I34 rfl rfl rfl (by decide)) ?_
      refine wpL_value rfl (x_load Tryz.underlying34 rfl rfl (hb7.c (getD_some (d := 0) (by omega)) rfl rfl)) ?_
      refine wpL_value rfl (x_idxA 3 Tryz.underlying240 I34 rfl rfl rfl (by decide)) ?_
      refine wpL_value rfl (x_load Tryz.underlying34 rfl rfl (hb7.c (getD_some (d := 0) (by omega)) rfl rfl)) ?_
      refine wpL_value rfl x_move (wpL_value rfl (x_add32u rfl rfl) (wpL_value rfl x_move (wpL_value rfl (x_idxA 5 Tryz.underlying240 I34 rfl rfl rfl (by decide)) ?_)))
      refine wpL_value rfl (x_load Tryz.underlying34 rfl rfl (hb7.c (getD_some (d := 0) (by omega)) rfl rfl)) ?_
      refine wpL_value rfl (x_idxA 6 Tryz.underlying240 I34 rfl rfl rfl (by decide)) ?_
      refine wpL_value rfl (x_load Tryz.underlying34 rfl rfl (hb7.c (getD_some (d := 0) (by omega)) rfl rfl)) ?_
      refine wpL_value rfl (x_buildV (List.replicate 8 (0 : UInt32)) ((shaRound (schedN l 64) (shaRounds (schedN l 64) s i) i).zipIdx.map fun x => (x.2, x.1)) (l := shaRound (schedN l 64) (shaRounds (schedN l 64) s i) i) Tryz.underlying240 I240 rfl I34 rfl rfl rfl rfl rfl) ?_
      refine wpL_exs rfl (x_storeN 8 I240 rfl (hb7) rfl rfl (hvl) (rfl)) ?_
      rintro w5 ⟨ha5, hc5, hs5⟩
      refine wpL_nil (blockE_norm (thenE_norm ?_))
      refine wpE_region ?_
      refine wpL_value rfl (x_add64 rfl rfl (by omega)) (wpL_value rfl x_move ?_)
      refine wpL_nil (thenE_norm ?_)
      refine Exists.intro (n) (And.intro (by omega) ?_)
      refine ⟨i + 1, vs_cons (int_eq rfl) vs_nil, by omega, ?_, hc3.tr hc5⟩
      rw [shaRounds_succ]; exact ha5
    · skip
      refine wpE_exit (thenE_exit (thenE_exit (blockE_exit (thenE_norm ?_))))
      refine wpE_seq ?_
      refine wpE_seq ?_
      refine wpE_region ?_
      refine wpL_value rfl x_move ?_
      refine wpL_nil (thenE_norm ?_)
      refine wpE_block ?_
      have hob4 : i = 64 := by omega
      obtain rfl := hob4
      refine wpE_loop [102] [15, 102, 103, 104, 105, 106, 107, 108, 109, 110, 111, 112, 113] (fun n vs w' => ∃ i : Nat, vs = [.int .i64 i] ∧ i + n = 8 ∧ Arr w' b9 (shaAdds s (shaRounds (schedN l 64) s 64) i) ∧ Chg [b9] wa w') (8) (by kernel_rfl) ?_ ?_
      · exact ⟨0, rfl, rfl, by rw [shaAdds_zero]; exact hb7, hc3⟩
      · rintro n vs J w4 ⟨i, rfl, hi, hb8, hc4⟩
        refine wpE_seq ?_
        refine wpE_region ?_
        refine wpL_value rfl (x_lss rfl rfl) ?_
        refine wpL_nil (thenE_norm ?_)
        refine wpE_seq ?_
        have hvl2 := (shaAdds_length s (shaRounds (schedN l 64) s 64) i).trans hvl
        refine wpE_cond_d rfl (fun h2 => ?_) (fun h2 => ?_)
        · skip
          refine wpE_skip (thenE_norm ?_)
          refine wpE_seq ?_
          refine wpE_block ?_
          refine wpE_seq ?_
          refine wpE_region ?_
          refine wpL_value rfl x_move (wpL_value rfl x_assign ?_)
          refine wpL_nil (thenE_norm ?_)
          have hob5 : ∃ q, n = q + 1 := ⟨n - 1, by omega⟩
          obtain ⟨n, rfl⟩ := hob5
          refine wpE_draw mixed (.pure 0 (.pure 1 (.read 2 (.pure 3 (.pure 4 (.read 5 (.pure 6 (.pure 7 (.eff 8 [] .nil))))))))) (by kernel_rfl) ?_
          refine wpP_pure rfl rfl rfl (fun _ => x_move) ?_
          refine wpP_pure rfl rfl rfl (fun _ => x_idxA (i) Tryz.underlying240 I34 rfl rfl (by first | rfl | omega) (by first | assumption | omega)) ?_
          refine wpP_rd rfl rfl rfl Tryz.underlying34 rfl rfl (hb8.c (getD_some (d := 0) (by omega)) rfl rfl) ?_
          refine wpP_pure rfl rfl rfl (fun _ => x_move) ?_
          refine wpP_pure rfl rfl rfl (fun _ => x_idxA (i) Tryz.underlying240 I34 rfl rfl (by first | rfl | omega) (by first | assumption | omega)) ?_
          refine wpP_rd rfl rfl rfl Tryz.underlying34 rfl rfl ((h1a.nb hc4 (by omega)).c (getD_some (d := 0) (by omega)) rfl rfl) ?_
          refine wpP_pure rfl rfl rfl (fun _ => (x_add32u rfl rfl)) ?_
          refine wpP_pure rfl rfl rfl (fun _ => x_idxA (i) Tryz.underlying240 I34 rfl rfl (by first | rfl | omega) (by first | assumption | omega)) ?_
          refine wpP_exs rfl rfl rfl (x_store1 (a := _) (k := i) I34 rfl rfl rfl rfl (hb8) rfl (by first | assumption | omega)) ?_
          rintro w5 ⟨ha5, hc5, hs5⟩
          refine ⟨trivial, ?_⟩
          refine wpP_nil (blockE_norm (thenE_norm ?_))
          refine wpE_region ?_
          refine wpL_value rfl (x_add64 rfl rfl (by omega)) (wpL_value rfl x_move ?_)
          refine wpL_nil (thenE_norm ?_)
          refine Exists.intro (n) (And.intro (by omega) ?_)
          refine ⟨i + 1, vs_cons (int_eq rfl) vs_nil, by omega, ?_, hc4.tr hc5⟩
          rw [shaAdds_succ]; exact ha5
        · skip
          refine wpE_exit (thenE_exit (thenE_exit (blockE_exit (thenE_norm ?_))))
          refine wpE_seq ?_
          refine wpE_region ?_
          have hob6 : i = 8 := by omega
          obtain rfl := hob6
          refine wpL_value rfl (x_loadN 8 Tryz.underlying240 rfl I240 rfl rfl (hb8) (by first | assumption | rfl | (simp <;> omega))) ?_
          refine wpL_exs rfl (x_storeN 8 I240 rfl (h2a.nb hc4 (by omega)) rfl rfl (by first | assumption | rfl | (simp <;> omega)) (by first | assumption | rfl | (simp <;> omega))) ?_
          rintro w5 ⟨ha5, hc5, hs5⟩
          refine wpL_nil (thenE_norm ?_)
          refine wpE_ret (fin_retR ?_)
          refine ⟨[arrV (shaNext s l)], ⟨⟨_, rfl, run_loadN 8 Tryz.underlying240 rfl I240 rfl (by rw [shaNext_def]; exact ha5) (shaNext_length _ _ hs)⟩, trivial⟩, rfl, ?_⟩
          exact (hcw.t1 hc4 (by omega)).t1 hc5 (by omega)
theorem Clip_ok (v : Value) (l : List UInt8) (w : World) (hv : Own w v l) :
    Ret Tryz.prog 171 #[v] w fun v' w' => Own w v' l ∧ blkOf v' = blkOf v ∧ w = w' := by
  obtain ⟨p, c, rfl, hc, hp⟩ := id hv
  refine enter [2] Tryz.func171 rfl rfl (Nat.le_of_ble_eq_true rfl) ?_
  refine wpE_seq ?_
  refine wpE_region ?_
  refine wpL_value rfl x_assign ?_
  refine wpL_nil (thenE_norm ?_)
  refine wpE_seq ?_
  refine wpE_region ?_
  refine wpL_value rfl x_move (wpL_value rfl x_move (wpL_value rfl (x_len_slice rfl Tryz.underlying41) (wpL_value rfl x_move (wpL_value rfl (x_len_slice rfl Tryz.underlying41) ?_))))
  refine wpL_ex rfl (x_clip Tryz.underlying41 I5 rfl hv rfl rfl hc) ?_
  rintro v1 ⟨ho1, hb1⟩
  refine wpL_value rfl x_assign ?_
  refine wpL_nil (thenE_norm ?_)
  refine wpE_ret (fin_ret ?_)
  exact ⟨ho1, hb1, rfl⟩
theorem Clone_ok (v : Value) (l : List UInt8) (w : World) (hv : Sl w v l) (hl : l.length ≤ 1000000000) :
    Ret Tryz.prog 193 #[v] w fun v' w' => Own w' v' l ∧ Chg [] w w' ∧ In v' [] w.heap.size := by
  obtain ⟨p, c, rfl, hc, hp⟩ := id hv
  refine enter [2] Tryz.func193 rfl rfl (Nat.le_of_ble_eq_true rfl) ?_
  refine wpE_seq ?_
  refine wpE_region ?_
  refine wpL_value rfl x_assign ?_
  refine wpL_nil (thenE_norm ?_)
  refine wpE_seq ?_
  refine wpE_seq ?_
  refine wpE_region ?_
  refine wpL_value rfl x_move ?_
  refine wpL_value rfl (x_eqlnil (p := p) (q := none) Tryz.underlying41 rfl rfl (.inr rfl)) ?_
  refine wpL_nil (thenE_norm ?_)
  refine wpE_cond_d rfl (fun h => ?_) (fun h => ?_)
  · skip
    refine wpE_seq ?_
    refine wpE_region ?_
    refine wpL_value rfl x_assign ?_
    refine wpL_nil (thenE_norm ?_)
    refine wpE_ret (thenE_ret (fin_ret ?_))
    subst h
    simp only at hp
    subst hp
    exact ⟨Own.nil _, Chg.refl _, In.nil⟩
  · skip
    refine wpE_skip (thenE_norm ?_)
    refine wpE_seq ?_
    refine wpE_region ?_
    refine wpL_exw rfl (x_bs [] ([] : List UInt8) Tryz.underlying41 I5 rfl rfl rfl rfl rfl rfl (by decide)) ?_
    rintro v1 w1 ⟨ho1, hc1, hi1⟩
    refine wpL_value rfl x_move ?_
    refine wpL_append Tryz.underlying41 Tryz.underlying41 I5 (.inr ⟨_, rfl⟩) rfl rfl rfl (by decide) rfl (ho1) ((hv.mod0 hc1).src) rfl rfl (by simp; omega) ?_
    rintro v2 w2 ⟨ho2, hc2, hi2⟩
    refine wpL_value rfl x_assign ?_
    refine wpL_nil (thenE_norm ?_)
    refine wpE_ret (fin_ret ?_)
    exact ⟨ho2, hc1.t0 hc2 hi1.ge, hi2.mono (fun b hb => .inr (hi1.ge b hb)) hc1.1⟩
def HashAt (w0 w : World) (b : Nat) (all : List UInt8) : Prop :=
  Chg [] w0 w ∧ w0.heap.size ≤ b ∧ ∃ rv, Blk w b (encL (stateOf all) ++ [rv, .int .i64 all.length]) ∧ Own w rv (restOf all) ∧ ∀ x ∈ blkOf rv, w0.heap.size ≤ x ∧ x ≠ b
theorem HashAt.lt {w0 w : World} {b : Nat} {all : List UInt8} (h : HashAt w0 w b all) : b < w.heap.size := by
  obtain ⟨_, _, _, h, _⟩ := h; exact h.lt
theorem HashAt.chg0 {w0 w w' : World} {b : Nat} {all : List UInt8} (h : HashAt w0 w b all) (hm : Chg [] w w') : HashAt w0 w' b all := by
  obtain ⟨h1, h2, rv, h3, h4, h5⟩ := h
  exact ⟨h1.tr hm, h2, rv, h3.chg0 hm, h4.mod0 hm, h5⟩
theorem New_ok (w : World) :
    Ret Tryz.prog 141 #[] w fun v w' => ∃ b, v = .pointer (some ⟨b, 0, none⟩) ∧ HashAt w w' b [] := by
  refine enter [0] Tryz.func141 rfl rfl (Nat.le_of_ble_eq_true rfl) ?_
  refine wpE_seq ?_
  refine wpE_region ?_
  refine wpL_value rfl x_assign ?_
  refine wpL_nil (thenE_norm ?_)
  refine wpE_seq ?_
  refine wpE_region ?_
  refine wpL_call rfl C170 (first_ok w) ?_
  rintro _ w1 ⟨rfl, hc1⟩
  refine wpL_value rfl (x_buildL Tryz.underlying243 I243 rfl (zs := encL (List.replicate 8 (0 : UInt32)) ++ [.slice none 0 0, .int .i64 0]) rfl rfl (fill1 (l := encL shaFirst) rfl rfl rfl (by decide) (fill0 (cs' := encL shaFirst ++ [.slice none 0 0, .int .i64 0]) rfl))) ?_
  refine wpL_exw rfl (x_boxB rfl rfl) ?_
  rintro _ w2 ⟨b, rfl, hb, hB, hc2, hl⟩
  refine wpL_value rfl x_assign ?_
  refine wpL_nil (thenE_norm ?_)
  refine wpE_ret (fin_ret ?_)
  refine ⟨b, rfl, hc1.tr hc2, Nat.le_trans hc1.1 hb, .slice none 0 0, ?_, ?_, fun x hx => by simp [blkOf] at hx⟩
  · rw [stateOf_nil]; exact hB
  · rw [restOf_nil]; exact Own.nil _
section
variable {s s' : List UInt32} {u u' v v' : Value}
theorem hc_len (h : s.length = 8) : (encL s ++ [u, v]).length = 10 := by simp [encL_length, h]; rfl
theorem hc_el (h : s.length = 8) : (encL s).length = 8 := by rw [encL_length, h]; rfl
theorem hc_8 (h : s.length = 8) : (encL s ++ [u, v])[8]? = some u := app_at (i := 0) (by rw [hc_el h]) rfl
theorem hc_9 (h : s.length = 8) : (encL s ++ [u, v])[9]? = some v := app_at (i := 1) (by rw [hc_el h]) rfl
theorem hc_s (h : s.length = 8) (h' : s'.length = 8) : spl (encL s ++ [u, v]) 0 (encL s') = encL s' ++ [u, v] := spl_front (by rw [hc_el h, hc_el h'])
theorem hc_s8 (h : s.length = 8) : spl (encL s ++ [u, v]) 8 [u'] = encL s ++ [u', v] := spl_at (r := [v]) (hc_el h).symm
theorem hc_s9 (h : s.length = 8) : spl (encL s ++ [u, v]) 9 [v'] = encL s ++ [u, v'] := by
  have := spl_at (a := encL s ++ [u]) (x := v) (x' := v') (r := []) (k := 9) (by simp [hc_el h])
  simpa using this
end
theorem Write_ok (w0 w : World) (b : Nat) (all m : List UInt8) (bv : Value) (hh : HashAt w0 w b all) (hm : Sl w bv m) (hb : b ∉ blkOf bv) (hl : all.length + m.length ≤ 1000000000) :
    Ret Tryz.prog 142 #[.pointer (some ⟨b, 0, none⟩), bv] w fun v w' => HashAt w0 w' b (all ++ m) := by
  obtain ⟨hc0, hb0, rv, hB, hO, hx⟩ := hh
  obtain ⟨mp, mc, rfl, _, _⟩ := id hm
  have hsl := stateOf_length all
  refine enter [] Tryz.func142 rfl rfl (Nat.le_of_ble_eq_true rfl) ?_
  refine wpE_seq ?_
  refine wpE_region ?_
  refine wpL_value rfl x_move (wpL_value rfl (x_nil rfl) (wpL_value rfl (x_fieldAddr Tryz.underlying243 rfl I3 rfl rfl) ?_))
  refine wpL_value rfl (x_load Tryz.underlying3 rfl rfl (hB.c (hc_9 hsl))) ?_
  refine wpL_value rfl x_move (wpL_value rfl (x_len_slice rfl Tryz.underlying41) (wpL_value rfl (x_add64 rfl rfl (by omega)) (wpL_value rfl (x_nil rfl) (wpL_value rfl (x_fieldAddr Tryz.underlying243 rfl I3 rfl rfl) ?_))))
  refine wpL_exs rfl (x_storeB1 I3 rfl rfl (hB) rfl rfl (show 9 < _ by rw [hc_len hsl]; decide) rfl (hc_s9 hsl)) ?_
  rintro w1 ⟨hB1, hc1, hs1⟩
  refine wpL_nil (thenE_norm ?_)
  refine wpE_seq ?_
  refine wpE_region ?_
  refine wpL_value rfl x_move (wpL_value rfl x_move (wpL_value rfl (x_nil rfl) (wpL_value rfl (x_fieldAddr Tryz.underlying243 rfl I41 rfl rfl) ?_)))
  refine wpL_value rfl (x_load Tryz.underlying41 rfl rfl (hB1.c (hc_8 hsl))) ?_
  refine wpL_call rfl C171 (Clip_ok rv _ w1 (hO.mod hc1 (nb1 fun h => (hx _ h).2 rfl))) ?_
  rintro v2 _ ⟨ho2, hb2, rfl⟩
  refine wpL_value rfl x_move ?_
  refine wpL_append Tryz.underlying41 Tryz.underlying41 I5 (.inr ⟨_, rfl⟩) rfl rfl rfl (by decide) rfl (ho2) ((hm.mod hc1 (nb1 hb)).src) rfl rfl (by rw [restOf_length]; omega) ?_
  rintro v3 w3 ⟨ho3, hc3, hi3⟩
  refine wpL_value rfl (x_nil rfl) (wpL_value rfl (x_fieldAddr Tryz.underlying243 rfl I41 rfl rfl) ?_)
  have hbn : b ∉ blkOf v2 := by rw [hb2]; exact fun h => (hx b h).2 rfl
  have hB3 := hB1.chg hc3 hbn
  have hlt1 := hB1.lt
  obtain ⟨p3, c3, rfl, hc3', hp3⟩ := id ho3
  refine wpL_exs rfl (x_storeB1 I41 rfl rfl (hB3) rfl rfl (show 8 < _ by rw [hc_len hsl]; decide) rfl (hc_s8 hsl)) ?_
  rintro w4 ⟨hB4, hc4, hs4⟩
  refine wpL_nil (thenE_norm ?_)
  refine wpE_block ?_
  have hx3 : ∀ x ∈ blkOf (.slice p3 (restOf all ++ m).length c3), w0.heap.size ≤ x ∧ x ≠ b := by
    intro x hx'
    rcases hi3 x hx' with h | h
    · rw [hb2] at h; exact hx x h
    · have := hc0.1; omega
  generalize htot : restOf all ++ m = tot at *
  have hto : tot.length = all.length % 64 + m.length := by rw [← htot, List.length_append, restOf_length]
  refine wpE_loop [] [23, 24, 25, 26, 27, 28, 29, 30, 31, 32, 33, 34, 35, 36, 37, 38, 39, 40, 41, 42, 43, 44, 45, 46, 47, 48, 49] (fun n vs w' => ∃ (k : Nat) (p : Option Addr) (c : Nat), vs = [] ∧ k + n = tot.length / 64 ∧ Blk w' b (encL (absorb k (stateOf all) tot) ++ [.slice p (tot.drop (64 * k)).length c, .int .i64 (all.length + m.length)]) ∧ Own w' (.slice p (tot.drop (64 * k)).length c) (tot.drop (64 * k)) ∧ (∀ x ∈ blkOf (.slice p (tot.drop (64 * k)).length c), w0.heap.size ≤ x ∧ x ≠ b) ∧ Chg [] w0 w') (tot.length / 64) (by kernel_rfl) ?_ ?_
  · refine ⟨0, p3, c3, rfl, by omega, by rw [absorb_zero]; exact hB4, ho3.mod hc4 ?_, hx3, ?_⟩
    · exact nb1 fun h => (hx3 _ h).2 rfl
    · exact ((hc0.t1 hc1 hb0).t0 hc3 (by rw [hb2]; exact fun x h => (hx x h).1)).t1 hc4 hb0
  · rintro n vs J w5 ⟨k, p, c, rfl, hk, hB5, hO5, hx5, hc5⟩
    refine wpE_seq ?_
    refine wpE_seq ?_
    refine wpE_region ?_
    refine wpL_value rfl x_move (wpL_value rfl (x_nil rfl) (wpL_value rfl (x_fieldAddr Tryz.underlying243 rfl I41 rfl rfl) ?_))
    have hdl : (tot.drop (64 * k)).length = tot.length - 64 * k := List.length_drop
    have hal := absorb_length k (stateOf all) tot hsl
    refine wpL_value rfl (x_load Tryz.underlying41 rfl rfl (hB5.c (hc_8 hal))) ?_
    refine wpL_value rfl (x_len_slice rfl Tryz.underlying41) (wpL_value rfl (x_geq rfl rfl) ?_)
    refine wpL_nil (thenE_norm ?_)
    refine wpE_cond_d rfl (fun h => ?_) (fun h => ?_)
    · skip
      refine wpE_skip (thenE_norm ?_)
      refine wpE_block ?_
      refine wpE_seq ?_
      have hob7 : ∃ q, n = q + 1 := ⟨n - 1, by omega⟩
      obtain ⟨n, rfl⟩ := hob7
      refine wpE_draw mixed (.pure 0 (.pure 1 (.pure 2 (.pure 3 (.read 4 (.pure 5 (.pure 6 (.pure 7 (.read 8 (.pure 9 (.eff 10 [] (.pure 11 (.pure 12 (.eff 13 [] .nil)))))))))))))) (by kernel_rfl) ?_
      refine wpP_pure rfl rfl rfl (fun _ => x_move) ?_
      refine wpP_pure rfl rfl rfl (fun _ => x_move) ?_
      refine wpP_pure rfl rfl rfl (fun _ => (x_nil rfl)) ?_
      refine wpP_pure rfl rfl rfl (fun _ => (x_fieldAddr Tryz.underlying243 rfl I240 rfl rfl)) ?_
      refine wpP_rdAt 8 rfl rfl rfl Tryz.underlying240 rfl I240 rfl (hB5.at front_at) (hal) rfl ?_
      refine wpP_pure rfl rfl rfl (fun _ => x_move) ?_
      refine wpP_pure rfl rfl rfl (fun _ => (x_nil rfl)) ?_
      refine wpP_pure rfl rfl rfl (fun _ => (x_fieldAddr Tryz.underlying243 rfl I41 rfl rfl)) ?_
      refine wpP_rd rfl rfl rfl Tryz.underlying41 rfl rfl (hB5.c (hc_8 hal)) ?_
      refine wpP_ex rfl rfl rfl (x_upto 64 Tryz.underlying41 I5 hO5.sl rfl rfl rfl (by omega)) ?_
      rintro _ ⟨⟨p1, c1, rfl⟩, hs1, hbl1⟩
      refine wpP_call rfl rfl rfl C172 (next_ok _ hal _ _ _ hs1 (by rw [List.length_take]; omega)) ?_
      rintro _ w6 ⟨rfl, hc6⟩
      refine ⟨trivial, ?_⟩
      refine wpP_pure rfl rfl rfl (fun _ => (x_nil rfl)) ?_
      refine wpP_pure rfl rfl rfl (fun _ => (x_fieldAddr Tryz.underlying243 rfl I240 rfl rfl)) ?_
      have hc6 : Chg [] w5 w6 := hc6
      have hnl := shaNext_length (absorb k (stateOf all) tot) ((tot.drop (64 * k)).take 64) hal
      refine wpP_exs rfl rfl rfl (x_storeB (l := encL (shaNext (absorb k (stateOf all) tot) ((tot.drop (64 * k)).take 64))) I240 rfl rfl (hB5.chg0 hc6) rfl (by rw [hc_el hnl]; rfl) (by rw [hc_el hnl, hc_len hal]; decide) (encL_cell _) (hc_s hal hnl)) ?_
      rintro w7 ⟨hB7, hc7, hs7⟩
      refine ⟨trivial, ?_⟩
      refine wpP_nil (thenE_norm ?_)
      refine wpE_region ?_
      refine wpL_value rfl x_move (wpL_value rfl x_move (wpL_value rfl (x_nil rfl) (wpL_value rfl (x_fieldAddr Tryz.underlying243 rfl I41 rfl rfl) ?_)))
      have hO7 := (hO5.mod0 hc6).mod hc7 (nb1 fun h => (hx5 _ h).2 rfl)
      refine wpL_value rfl (x_load Tryz.underlying41 rfl rfl (hB7.c (hc_8 hnl))) ?_
      refine wpL_ex rfl (x_fromO 64 Tryz.underlying41 I5 rfl hO7 rfl rfl rfl (by omega)) ?_
      rintro _ ⟨⟨p2, c2, rfl⟩, ho2, hbl2⟩
      refine wpL_value rfl (x_nil rfl) (wpL_value rfl (x_fieldAddr Tryz.underlying243 rfl I41 rfl rfl) ?_)
      refine wpL_exs rfl (x_storeB1 I41 rfl rfl (hB7) rfl rfl (show 8 < _ by rw [hc_len hnl]; decide) rfl (hc_s8 hnl)) ?_
      rintro w8 ⟨hB8, hc8, hs8⟩
      refine wpL_nil (blockE_norm (thenE_norm ?_))
      refine Exists.intro (n) (And.intro (by omega) ?_)
      have hd2 : (tot.drop (64 * k)).drop 64 = tot.drop (64 * (k + 1)) := by rw [List.drop_drop, show 64 * k + 64 = 64 * (k + 1) from by omega]
      have hd3 : (tot.drop (64 * k)).length - 64 = (tot.drop (64 * (k + 1))).length := by rw [hdl, List.length_drop]; omega
      rw [hd2] at ho2
      rw [hd3] at ho2 hbl2
      have hx7 : ∀ x ∈ blkOf (.slice p2 (tot.drop (64 * (k + 1))).length c2), w0.heap.size ≤ x ∧ x ≠ b := by rw [hbl2]; exact hx5
      refine ⟨k + 1, p2, c2, rfl, by omega, ?_, ho2.mod hc8 (nb1 fun h => (hx7 _ h).2 rfl), hx7, ((hc5.tr hc6).t1 hc7 hb0).t1 hc8 hb0⟩
      rw [absorb_snoc, ← hd3]; exact hB8
    · skip
      refine wpE_exit (thenE_exit (thenE_exit (blockE_exit (fin_end ?_))))
      have hob8 : n = 0 := by omega
      obtain rfl := hob8
      have h1 : absorb k (stateOf all) tot = stateOf (all ++ m) := by rw [state_app, htot]; congr 1
      have h2 : tot.drop (64 * k) = restOf (all ++ m) := by rw [rest_app, htot]; congr 2
      rw [h1] at hB5
      rw [h2] at hO5 hx5
      refine ⟨hc5, hb0, _, ?_, hO5, hx5⟩
      rw [List.length_append, ← h2]; exact hB5
theorem padded_ok (w0 w : World) (b : Nat) (all : List UInt8) (hh : HashAt w0 w b all) (hl : all.length ≤ 1000000000) :
    Ret Tryz.prog 173 #[.pointer (some ⟨b, 0, none⟩)] w fun v w' => Own w' v (restOf all ++ padOf all.length) ∧ Chg [] w w' ∧ In v [] w.heap.size := by
  obtain ⟨hc0, hb0, rv, hB, hO, hx⟩ := hh
  have hsl := stateOf_length all
  have hrl := restOf_length all
  refine enter [2] Tryz.func173 rfl rfl (Nat.le_of_ble_eq_true rfl) ?_
  refine wpE_seq ?_
  refine wpE_region ?_
  refine wpL_value rfl x_assign ?_
  refine wpL_nil (thenE_norm ?_)
  refine wpE_seq ?_
  refine wpE_region ?_
  refine wpL_value rfl x_move (wpL_value rfl (x_nil rfl) (wpL_value rfl (x_fieldAddr Tryz.underlying243 rfl I41 rfl rfl) ?_))
  refine wpL_value rfl (x_load Tryz.underlying41 rfl rfl (hB.c (hc_8 hsl))) ?_
  refine wpL_call rfl C193 (Clone_ok rv _ w hO.sl (by omega)) ?_
  rintro v1 w1 ⟨ho1, hc1, hi1⟩
  refine wpL_push ((0x80 : UInt8)) Tryz.underlying41 I5 rfl rfl rfl (by decide) (by decide) rfl rfl rfl rfl (ho1) (fun _ => rfl) (by omega) ?_
  rintro s1 v2 w2 ⟨ho2, hc2, hi2⟩
  refine wpL_value rfl x_assign ?_
  refine wpL_nil (thenE_norm ?_)
  refine wpE_seq ?_
  refine wpE_block ?_
  have hc12 := hc1.t0 hc2 hi1.ge
  have hi12 : In v2 [] w.heap.size := hi2.mono (fun b hb => .inr (hi1.ge b hb)) hc1.1
  have hn2 : (restOf all ++ [0x80]).length = all.length % 64 + 1 := by rw [List.length_append, hrl]; rfl
  have hob9 := ho2.form hn2
  obtain ⟨p2, c2, rfl⟩ := hob9
  have hz : zeros all.length = (119 - all.length % 64) % 64 := rfl
  refine wpE_loop [3] [3, 11, 12, 13, 14, 15, 16, 17] (fun n vs w' => ∃ (k : Nat) (p : Option Addr) (c : Nat), vs = [.slice p (all.length % 64 + 1 + k) c] ∧ k + n = zeros all.length ∧ Own w' (.slice p (all.length % 64 + 1 + k) c) (restOf all ++ [0x80] ++ List.replicate k 0) ∧ Chg [] w w' ∧ In (.slice p (all.length % 64 + 1 + k) c) [] w.heap.size) (zeros all.length) (by kernel_rfl) ?_ ?_
  · exact ⟨0, p2, c2, rfl, by omega, by simpa using ho2, hc12, hi12⟩
  · rintro n vs J w3 ⟨k, p, c, rfl, hk, ho3, hc3, hi3⟩
    refine wpE_seq ?_
    refine wpE_seq ?_
    refine wpE_region ?_
    refine wpL_value rfl x_move (wpL_value rfl (x_len_slice rfl Tryz.underlying41) (wpL_value rfl (x_rem64 rfl rfl (by omega)) (wpL_value rfl (x_neq rfl rfl) ?_)))
    refine wpL_nil (thenE_norm ?_)
    have hkl : (restOf all ++ [0x80] ++ List.replicate k 0).length = all.length % 64 + 1 + k := by rw [List.length_append, hn2, List.length_replicate]
    refine wpE_cond_d rfl (fun h => ?_) (fun h => ?_)
    · skip
      refine wpE_skip (thenE_norm ?_)
      refine wpE_block ?_
      refine wpE_region ?_
      refine wpL_value rfl x_move ?_
      have hob10 : ∃ q, n = q + 1 := ⟨n - 1, by omega⟩
      obtain ⟨n, rfl⟩ := hob10
      refine wpL_push ((0 : UInt8)) Tryz.underlying41 I5 rfl rfl rfl (by decide) (by decide) rfl rfl rfl rfl (ho3) (fun _ => rfl) (by omega) ?_
      rintro s4 v4 w4 ⟨ho4, hc4, hi4⟩
      refine wpL_value rfl x_assign ?_
      refine wpL_nil (blockE_norm (thenE_norm ?_))
      rw [List.append_assoc, ← List.replicate_succ'] at ho4
      have hc4 : Chg [] w w4 := hc3.t0 hc4 hi3.ge
      have hi4 : In v4 [] w.heap.size := hi4.mono (fun b hb => .inr (hi3.ge b hb)) hc3.1
      have hob11 := ho4.form (n := all.length % 64 + 1 + (k + 1)) (by rw [List.length_append, hn2, List.length_replicate])
      obtain ⟨p4, c4, rfl⟩ := hob11
      refine Exists.intro (n) (And.intro (by omega) ?_)
      exact ⟨k + 1, p4, c4, rfl, by omega, ho4, hc4, hi4⟩
    · skip
      refine wpE_exit (thenE_exit (thenE_exit (blockE_exit (thenE_norm ?_))))
      refine wpE_seq ?_
      refine wpE_region ?_
      refine wpL_value rfl x_move (wpL_value rfl x_move (wpL_value rfl (x_nil rfl) (wpL_value rfl (x_fieldAddr Tryz.underlying243 rfl I3 rfl rfl) ?_)))
      have hk0 : k = zeros all.length := by omega
      refine wpL_value rfl (x_load Tryz.underlying3 rfl rfl ((hB.chg0 hc3).c (hc_9 hsl))) ?_
      refine wpL_value rfl (x_conv64u rfl Tryz.underlying3 Tryz.underlying35) (wpL_value rfl (x_mul64u (b := 8) rfl rfl) ?_)
      have h8 : (toU64 (all.length : Int) * 8).toNat = all.length * 8 := by
        rw [toU64_nat, UInt64.toNat_mul, UInt64.toNat_ofNat']
        show all.length % 18446744073709551616 * 8 % 18446744073709551616 = _
        omega
      refine wpL_call rfl C64 (Put_ok _ _ (toU64 (all.length : Int) * 8) 8 w3 ho3 (by decide) (by omega)) ?_
      rintro v5 w5 ⟨ho5, hc5, hi5⟩
      refine wpL_value rfl x_assign ?_
      refine wpL_nil (thenE_norm ?_)
      refine wpE_ret (fin_ret ?_)
      refine ⟨?_, hc3.t0 hc5 hi3.ge, hi5.mono (fun b hb => .inr (hi3.ge b hb)) hc3.1⟩
      have he : restOf all ++ [0x80] ++ List.replicate k 0 ++ be 8 (toU64 (all.length : Int) * 8).toNat = restOf all ++ padOf all.length := by
        rw [h8, hk0, padOf]; simp
      rw [← he]; exact ho5
theorem HSum_ok (w0 w : World) (b : Nat) (all : List UInt8) (hh : HashAt w0 w b all) (hl : all.length ≤ 1000000000) :
    Ret Tryz.prog 144 #[.pointer (some ⟨b, 0, none⟩)] w fun v w' => v = arrV (shaSum all) ∧ Chg [] w w' := by
  obtain ⟨hc0, hb0, rv, hB, hO, hx⟩ := id hh
  have hsl := stateOf_length all
  have hrl := restOf_length all
  refine enterR [.cell 2 22] Tryz.func144 rfl rfl (Nat.le_of_ble_eq_true rfl) ?_
  refine wpE_seq ?_
  refine wpE_region ?_
  generalize htot : restOf all ++ padOf all.length = tot
  have htl : tot.length % 64 = 0 := by
    rw [← htot, List.length_append, hrl]
    have := pad_length all.length
    omega
  refine wpL_allocA (List.replicate 32 (0 : UInt8)) I22 rfl rfl rfl ?_
  rintro w1 b1 hn1 ha1 hc1 hl1
  refine wpL_nil (thenE_norm ?_)
  have hh1 : HashAt w0 w1 b all := hh.chg0 hc1
  refine wpE_cut [3, 4] [3, 4, 9, 10, 11, 12, 13, 14] (fun vs w' => ∃ (b3 : Nat) (p4 : Option Addr) (c4 : Nat), vs = [.pointer (some ⟨b3, 0, none⟩), .slice p4 tot.length c4] ∧ w1.heap.size ≤ b3 ∧ Arr w' b3 (stateOf all) ∧ Sl w' (.slice p4 tot.length c4) tot ∧ Chg [] w1 w' ∧ b3 ∉ blkOf (.slice p4 tot.length c4)) (by kernel_rfl) ?_ ?_
  · skip
    refine wpE_draw mixed (.pure 0 (.pure 1 (.pure 2 (.read 3 (.pure 4 (.alt (.eff 5 [3] (.eff 6 [3] (.eff 7 [] (.pure 8 .nil)))) (.eff 6 [3] (.eff 5 [3] (.eff 7 [] (.pure 8 .nil)))))))))) (by kernel_rfl) ?_
    refine wpP_pure rfl rfl rfl (fun _ => x_move) ?_
    refine wpP_pure rfl rfl rfl (fun _ => (x_nil rfl)) ?_
    refine wpP_pure rfl rfl rfl (fun _ => (x_fieldAddr Tryz.underlying243 rfl I240 rfl rfl)) ?_
    refine wpP_rdAt 8 rfl rfl rfl Tryz.underlying240 rfl I240 rfl ((hB.chg0 hc1).at front_at) (hsl) rfl ?_
    refine wpP_pure rfl rfl rfl (fun _ => x_move) ?_
    refine wpP_alt ?_ ?_
    · skip
      refine wpP_call rfl rfl rfl C173 (padded_ok w0 _ b all hh1 hl) ?_
      rintro v2 w2 ⟨ho2, hc2, hi2⟩
      rw [htot] at ho2
      have hc2 : Chg [] w1 w2 := hc2
      have hi2 : In v2 [] w1.heap.size := hi2
      refine ⟨⟨((hB.chg0 hc1).chg0 hc2).at front_at, trivial⟩, ?_⟩
      refine wpP_exw rfl rfl rfl (x_allocArr (List.replicate 8 (0 : UInt32)) I240 rfl rfl) ?_
      rintro _ w3 ⟨b3, rfl, hn3, ha3, hc3, hl3⟩
      refine ⟨⟨(((hB.chg0 hc1).chg0 hc2).chg0 hc3).at front_at, trivial⟩, ?_⟩
      refine wpP_exs rfl rfl rfl (x_storeN 8 I240 rfl (ha3) rfl rfl (rfl) (hsl)) ?_
      rintro w4 ⟨ha4, hc4, hs4⟩
      refine ⟨trivial, ?_⟩
      refine wpP_pure rfl rfl rfl (fun _ => x_assign) ?_
      refine wpP_nil (thenE_norm ?_)
      have hob12 := ho2.form rfl
      obtain ⟨p2, c2, rfl⟩ := hob12
      have hlt := ho2.sl.lt
      have hb3 : b3 ∉ blkOf (.slice p2 tot.length c2) := fun h => by have := hlt _ h; omega
      exact ⟨b3, p2, c2, rfl, Nat.le_trans hc2.1 hn3, ha4, ((ho2.sl.mod0 hc3).mod hc4 (nb1 hb3)), (hc2.tr hc3).t1 hc4 (Nat.le_trans hc2.1 hn3), hb3⟩
    · skip
      refine wpP_exw rfl rfl rfl (x_allocArr (List.replicate 8 (0 : UInt32)) I240 rfl rfl) ?_
      rintro _ w2 ⟨b3, rfl, hn3, ha3, hc2, hl3⟩
      have hc2 : Chg [] w1 w2 := hc2
      have hn3 : w1.heap.size ≤ b3 := hn3
      refine ⟨⟨((hB.chg0 hc1).chg0 hc2).at front_at, trivial⟩, ?_⟩
      refine wpP_call rfl rfl rfl C173 (padded_ok w0 w2 b all (hh1.chg0 hc2) hl) ?_
      rintro v2 w3 ⟨ho2, hc3, hi2⟩
      rw [htot] at ho2
      refine ⟨⟨(((hB.chg0 hc1).chg0 hc2).chg0 hc3).at front_at, trivial⟩, ?_⟩
      refine wpP_exs rfl rfl rfl (x_storeN 8 I240 rfl (ha3.chg0 hc3) rfl rfl (rfl) (hsl)) ?_
      rintro w4 ⟨ha4, hc4, hs4⟩
      refine ⟨trivial, ?_⟩
      refine wpP_pure rfl rfl rfl (fun _ => x_assign) ?_
      refine wpP_nil (thenE_norm ?_)
      have hob13 := ho2.form rfl
      obtain ⟨p2, c2, rfl⟩ := hob13
      have hb3 : b3 ∉ blkOf (.slice p2 tot.length c2) := fun h => by have := hi2.ge _ h; omega
      exact ⟨b3, p2, c2, rfl, hn3, ha4, ho2.sl.mod hc4 (nb1 hb3), (hc2.tr hc3).t1 hc4 hn3, hb3⟩
  · rintro vs J w4 ⟨b3, p4, c4, rfl, hb3, ha3, hs4, hc4, hb34⟩
    refine wpE_seq ?_
    refine wpE_block ?_
    refine wpE_loop [4] [4, 15, 16, 17, 18, 19, 20, 21, 22, 23] (fun n vs w' => ∃ (k : Nat) (p : Option Addr) (c : Nat), vs = [.slice p (tot.drop (64 * k)).length c] ∧ k + n = tot.length / 64 ∧ Arr w' b3 (absorb k (stateOf all) tot) ∧ Sl w' (.slice p (tot.drop (64 * k)).length c) (tot.drop (64 * k)) ∧ Chg [] w1 w' ∧ b3 ∉ blkOf (.slice p (tot.drop (64 * k)).length c)) (tot.length / 64) (by kernel_rfl) ?_ ?_
    · exact ⟨0, p4, c4, rfl, by omega, by rw [absorb_zero]; exact ha3, hs4, hc4, hb34⟩
    · rintro n vs J w5 ⟨k, p, c, rfl, hk, ha5, hs5, hc5, hb5⟩
      refine wpE_seq ?_
      refine wpE_seq ?_
      refine wpE_region ?_
      refine wpL_value rfl x_move (wpL_value rfl (x_len_slice rfl Tryz.underlying41) (wpL_value rfl (x_gtr rfl rfl) ?_))
      refine wpL_nil (thenE_norm ?_)
      have hdl : (tot.drop (64 * k)).length = tot.length - 64 * k := List.length_drop
      have hal := absorb_length k (stateOf all) tot hsl
      refine wpE_cond_d rfl (fun h => ?_) (fun h => ?_)
      · skip
        refine wpE_skip (thenE_norm ?_)
        refine wpE_seq ?_
        refine wpE_block ?_
        have hob14 : ∃ q, n = q + 1 := ⟨n - 1, by omega⟩
        obtain ⟨n, rfl⟩ := hob14
        refine wpE_draw mixed (.read 0 (.pure 1 (.pure 2 (.eff 3 [] (.eff 4 [] .nil))))) (by kernel_rfl) ?_
        refine wpP_rdA 8 rfl rfl rfl Tryz.underlying240 rfl I240 rfl rfl (ha5) (hal) ?_
        refine wpP_pure rfl rfl rfl (fun _ => x_move) ?_
        refine wpP_ex rfl rfl rfl (x_upto 64 Tryz.underlying41 I5 hs5 rfl rfl rfl (by omega)) ?_
        rintro _ ⟨⟨p6, c6, rfl⟩, hs6, hbl6⟩
        refine wpP_call rfl rfl rfl C172 (next_ok _ hal _ _ _ hs6 (by rw [List.length_take]; omega)) ?_
        rintro _ w6 ⟨rfl, hc6⟩
        refine ⟨trivial, ?_⟩
        have hc6 : Chg [] w5 w6 := hc6
        have hnl := shaNext_length (absorb k (stateOf all) tot) ((tot.drop (64 * k)).take 64) hal
        refine wpP_exs rfl rfl rfl (x_storeN 8 I240 rfl (ha5.chg0 hc6) rfl rfl (hal) (hnl)) ?_
        rintro w7 ⟨ha7, hc7, hs7⟩
        refine ⟨trivial, ?_⟩
        refine wpP_nil (blockE_norm (thenE_norm ?_))
        refine wpE_region ?_
        refine wpL_value rfl x_move ?_
        refine wpL_ex rfl (x_from 64 Tryz.underlying41 I5 rfl ((hs5.mod0 hc6).mod hc7 (nb1 hb5)) rfl rfl rfl (by omega)) ?_
        rintro _ ⟨⟨p8, c8, rfl⟩, hs8, hbl8⟩
        refine wpL_value rfl x_assign ?_
        refine wpL_nil (thenE_norm ?_)
        have hd2 : (tot.drop (64 * k)).drop 64 = tot.drop (64 * (k + 1)) := by rw [List.drop_drop, show 64 * k + 64 = 64 * (k + 1) from by omega]
        have hd3 : (tot.drop (64 * k)).length - 64 = (tot.drop (64 * (k + 1))).length := by rw [hdl, List.length_drop]; omega
        rw [hd2, hd3] at hs8
        rw [hd3] at hbl8
        rw [← absorb_snoc] at ha7
        refine Exists.intro (n) (And.intro (by omega) ?_)
        refine ⟨k + 1, p8, c8, ?_, by omega, ha7, hs8, (hc5.tr hc6).t1 hc7 hb3, by rw [hbl8]; exact hb5⟩
        rw [← hd3]; rfl
      · skip
        refine wpE_exit (thenE_exit (thenE_exit (blockE_exit (thenE_norm ?_))))
        refine wpE_seq ?_
        refine wpE_region ?_
        have hob15 : n = 0 := by omega
        obtain rfl := hob15
        have hfin : absorb k (stateOf all) tot = absorb ((all ++ padOf all.length).length / 64) shaFirst (all ++ padOf all.length) := by
          rw [← sum_rest, htot]; congr 1
        generalize hst : absorb k (stateOf all) tot = st at *
        have hsum : shaSum all = st.flatMap putBigL := by rw [shaSum_def, ← hfin]
        refine wpL_allocA (List.replicate 32 (0 : UInt8)) I22 rfl rfl rfl ?_
        rintro w6 b6 hn6 ha6 hc6 hl6
        refine wpL_nil (thenE_norm ?_)
        refine wpE_seq ?_
        refine wpE_seq ?_
        refine wpE_region ?_
        refine wpL_value rfl (x_loadN 8 Tryz.underlying240 rfl I240 rfl rfl (ha5.chg0 hc6) (hal)) ?_
        refine wpL_value rfl x_move ?_
        refine wpL_nil (thenE_norm ?_)
        refine wpE_block ?_
        refine wpE_loop [25] [6, 7, 8, 25, 26, 27, 28, 29, 30, 31, 32, 33, 34, 35, 36] (fun n vs w' => ∃ i : Nat, vs = [.int .i64 i] ∧ i + n = 8 ∧ Arr w' b6 ((st.take i).flatMap putBigL ++ List.replicate (32 - 4 * i) 0) ∧ Chg [] w5 w' ∧ b6 < w'.heap.size) (8) (by kernel_rfl) ?_ ?_
        · exact ⟨0, rfl, rfl, ha6, hc6, hl6⟩
        · rintro n vs J w7 ⟨i, rfl, hi, ha7, hc7, hl7⟩
          refine wpE_seq ?_
          refine wpE_region ?_
          refine wpL_value rfl (x_lss rfl rfl) ?_
          refine wpL_nil (thenE_norm ?_)
          refine wpE_seq ?_
          refine wpE_cond_d rfl (fun h2 => ?_) (fun h2 => ?_)
          · skip
            refine wpE_skip (thenE_norm ?_)
            refine wpE_seq ?_
            refine wpE_block ?_
            refine wpE_seq ?_
            refine wpE_region ?_
            refine wpL_value rfl x_move ?_
            have hob16 : ∃ q, n = q + 1 := ⟨n - 1, by omega⟩
            obtain ⟨n, rfl⟩ := hob16
            refine wpL_value rfl (x_idxV (i) Tryz.underlying240 Tryz.underlying34 rfl I34 rfl rfl rfl (by first | rfl | omega) (by first | assumption | omega) (getD_some (d := 0) (by omega)) rfl) ?_
            refine wpL_value rfl x_assign (wpL_value rfl x_assign ?_)
            refine wpL_nil (thenE_norm ?_)
            refine wpE_seq ?_
            refine wpE_region ?_
            refine wpL_value rfl x_move ?_
            refine wpL_call rfl C174 (PutBig_ok _ w7) ?_
            rintro _ w8 ⟨rfl, hc8⟩
            refine wpL_allocA (List.replicate 4 (0 : UInt8)) I238 rfl rfl rfl ?_
            rintro w9 b9 hn9 ha9 hc9 hl9
            refine wpL_exs rfl (x_storeN 4 I238 rfl (ha9) rfl rfl (by first | assumption | rfl | (simp <;> omega)) (by first | assumption | rfl | (simp <;> omega))) ?_
            rintro wa ⟨haa, hca, hsa⟩
            refine wpL_nil (thenE_norm ?_)
            refine wpE_draw mixed (.pure 0 (.pure 1 (.pure 2 (.pure 3 (.eff 4 [] .nil))))) (by kernel_rfl) ?_
            refine wpP_pure rfl rfl rfl (fun _ => x_move) ?_
            refine wpP_pure rfl rfl rfl (fun _ => (x_mul64 rfl rfl (by omega))) ?_
            refine wpP_pure rfl rfl rfl (fun _ => x_arr_from (4 * i) Tryz.underlying22 I5 rfl rfl (by first | rfl | omega) (by omega)) ?_
            refine wpP_pure rfl rfl rfl (fun _ => x_arr_full Tryz.underlying238 I5 rfl) ?_
            refine wpP_exv rfl rfl rfl (x_copyArr (k := 4 * i) Tryz.underlying41 I5 rfl rfl rfl rfl ((haa.sl (n := 4) (c := 4) rfl (by decide)).srcH rfl) (((ha7.chg0 hc8).chg0 hc9).nb hca (by have := hc8.1; omega)) (by rw [List.length_append, flatMap_put_length, List.length_take, List.length_replicate]; omega)) ?_
            rintro wb ⟨hab, hcb, hsb⟩
            refine ⟨trivial, ?_⟩
            refine wpP_nil (blockE_norm (thenE_norm ?_))
            refine wpE_region ?_
            refine wpL_value rfl (x_add64 rfl rfl (by omega)) (wpL_value rfl x_move ?_)
            refine wpL_nil (thenE_norm ?_)
            have hcb : Chg [b6] wa wb := hcb
            have hpl : (putBigL (st.getD i 0)).length = 4 := rfl
            have htk : ((st.take i).flatMap putBigL).length = 4 * i := by rw [flatMap_put_length, List.length_take]; omega
            rw [hpl, Nat.min_eq_left (by omega), show (putBigL (st.getD i 0)).take 4 = putBigL (st.getD i 0) from rfl, spl_app htk.symm hpl.symm, List.drop_replicate] at hab
            refine Exists.intro (n) (And.intro (by omega) ?_)
            refine ⟨i + 1, vs_cons (int_eq rfl) vs_nil, by omega, ?_, (((hc7.tr hc8).tr hc9).t1 hca (by have := hc7.1; have := hc8.1; omega)).t1 hcb (by omega), ?_⟩
            · rw [List.take_add_one, getD_some (d := 0) (by omega : i < st.length), List.flatMap_append, show 32 - 4 * (i + 1) = 32 - 4 * i - 4 from by omega]
              simpa using hab
            · have := hcb.1; have := hca.1; have := hc9.1; have := hc8.1; omega
          · skip
            refine wpE_exit (thenE_exit (thenE_exit (blockE_exit (thenE_norm ?_))))
            refine wpE_seq ?_
            refine wpE_region ?_
            have hob17 : i = 8 := by omega
            obtain rfl := hob17
            rw [List.take_of_length_le (by omega), show 32 - 4 * 8 = 0 from rfl, List.replicate_zero, List.append_nil, ← hsum] at ha7
            refine wpL_value rfl (x_loadN 32 Tryz.underlying22 rfl I22 rfl rfl (ha7) (shaSum_length _)) ?_
            refine wpL_exs rfl (x_storeN 32 I22 rfl (((ha1.chg0 hc5).chg0 hc7)) rfl rfl (rfl) (shaSum_length _)) ?_
            rintro w8 ⟨ha8, hc8, hs8⟩
            refine wpL_nil (thenE_norm ?_)
            refine wpE_ret (fin_retR ?_)
            exact ⟨[arrV (shaSum all)], ⟨⟨_, rfl, run_loadN 32 Tryz.underlying22 rfl I22 rfl ha8 (shaSum_length _)⟩, trivial⟩, rfl, ((hc1.tr hc5).tr hc7).t1 hc8 (by omega)⟩
end Go.Proofs.YtenhmbhflgnhlaaGreat

