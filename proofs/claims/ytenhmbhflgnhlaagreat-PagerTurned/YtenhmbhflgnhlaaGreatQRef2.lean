/- A page of which a byte was changed on the disk, or another page's first sector stands in its place, is told as what stands there opens to, or that it isn't sealed so; other pages are as they were: by the document's seals. It holds for every input; there are no conditions. -/
import Derived.Test.YtenhmbhflgnhlaaGreatQRef1
import Derived.Test.YtenhmbhflgnhlaaGreatSac1
namespace Go.Proofs.YtenhmbhflgnhlaaGreat
open Go Go.Sac
set_option maxRecDepth 100000
set_option maxHeartbeats 4000000
theorem rConstants_ok (w : World) : Ret Tryz.prog 185 #[] w fun v w' => v = arrV shaK ∧ Chg [] w w' := by
  refine enterR [.cell 0 253] Tryz.func185 rfl rfl (Nat.le_of_ble_eq_true rfl) ?_
  refine wpE_seq ?_
  refine wpE_region ?_
  refine wpL_allocA (List.replicate 64 (0 : UInt32)) I253 rfl rfl rfl ?_
  rintro w1 b1 hn1 ha1 hc1 hl1
  refine wpL_nil (thenE_norm ?_)
  refine wpE_seq ?_
  refine wpE_region ?_
  refine wpL_value rfl (x_buildV (List.replicate 64 (0 : UInt32)) (shaK.zipIdx.map fun x => (x.2, x.1)) (l := shaK) Tryz.underlying253 I253 rfl I34 (by kernel_rfl) rfl (by kernel_rfl) rfl (by kernel_rfl)) ?_
  refine wpL_exs rfl (x_storeN 64 I253 rfl (ha1) rfl rfl (by first | assumption | rfl | (simp <;> omega)) (by first | assumption | rfl | (simp <;> omega))) ?_
  rintro w4 ⟨ha4, hc4, hs4⟩
  refine wpL_nil (thenE_norm ?_)
  refine wpE_ret (fin_retR ?_)
  exact ⟨[arrV shaK], ⟨⟨_, rfl, run_loadN 64 Tryz.underlying253 rfl I253 rfl ha4 rfl⟩, trivial⟩, rfl, hc1.t1 hc4 (by omega)⟩
theorem rTurned_ok (x : UInt32) (a b c : Int) (s t u : Nat) (ha : -a % 32 = s) (hb : -b % 32 = t) (hc : -c % 32 = u) (h1 : 0 < a ∧ a < 32 ∧ 0 < b ∧ b < 32 ∧ 0 < c ∧ c < 32) (w : World) :
    Ret Tryz.prog 187 #[.int .u32 x.toNat, .int .i64 a, .int .i64 b, .int .i64 c] w fun v w' => v = .int .u32 (rot32 x s ^^^ rot32 x t ^^^ rot32 x u).toNat ∧ w = w' := by
  refine enter [8] Tryz.func187 rfl rfl (Nat.le_of_ble_eq_true rfl) ?_
  refine wpE_seq ?_
  refine wpE_region ?_
  refine wpL_value rfl (x_as (v := .int .u32 ((0 : UInt32).toNat : Nat)) rfl) ?_
  refine wpL_nil (thenE_norm ?_)
  refine wpE_seq ?_
  refine wpE_region ?_
  refine wpL_value rfl x_move (wpL_value rfl x_move (wpL_value rfl (x_neg64 rfl (by omega)) ?_))
  refine wpL_call rfl C165 (rRotl_ok x (-a) s ha w) ?_
  rintro _ _ ⟨rfl, rfl⟩
  refine wpL_value rfl x_move (wpL_value rfl x_move (wpL_value rfl (x_neg64 rfl (by omega)) ?_))
  refine wpL_call rfl C165 (rRotl_ok x (-b) t hb w) ?_
  rintro _ _ ⟨rfl, rfl⟩
  refine wpL_value rfl (x_xor32u rfl rfl) (wpL_value rfl x_move (wpL_value rfl x_move (wpL_value rfl (x_neg64 rfl (by omega)) ?_)))
  refine wpL_call rfl C165 (rRotl_ok x (-c) u hc w) ?_
  rintro _ _ ⟨rfl, rfl⟩
  refine wpL_value rfl (x_xor32u rfl rfl) (wpL_value rfl x_assign ?_)
  refine wpL_nil (thenE_norm ?_)
  refine wpE_ret (fin_ret ?_)
  exact ⟨rfl, rfl⟩
theorem rBlock_ok (s : List UInt32) (hs : s.length = 8) (b : Value) (l : List UInt8) (w : World) (hb : Sl w b l) (hl : l.length = 64) :
    Ret Tryz.prog 166 #[arrV s, b] w fun v w' => v = arrV (shaNext s l) ∧ Chg [] w w' := by
  have hob1 := hb.form hl
  obtain ⟨bp, bc, rfl⟩ := hob1
  refine enterR [.cell 4 234] Tryz.func166 rfl rfl (Nat.le_of_ble_eq_true rfl) ?_
  refine wpE_seq ?_
  refine wpE_region ?_
  refine wpL_boxA (l := s) rfl rfl ?_
  rintro w1 b1 hn1 ha1 hc1 hl1
  refine wpL_allocA (List.replicate 8 (0 : UInt32)) I234 rfl rfl rfl ?_
  rintro w2 b2 hn2 ha2 hc2 hl2
  refine wpL_nil (thenE_norm ?_)
  refine wpE_seq ?_
  refine wpE_region ?_
  refine wpL_allocA (List.replicate 64 (0 : UInt32)) I253 rfl rfl rfl ?_
  rintro w3 b3 hn3 ha3 hc3 hl3
  refine wpL_nil (thenE_norm ?_)
  refine wpE_seq ?_
  refine wpE_region ?_
  refine wpL_call rfl C185 (rConstants_ok w3) ?_
  rintro _ w4 ⟨rfl, hc4⟩
  refine wpL_allocA (List.replicate 64 (0 : UInt32)) I253 rfl rfl rfl ?_
  rintro w5 b5 hn5 ha5 hc5 hl5
  refine wpL_exs rfl (x_storeN 64 I253 rfl (ha5) rfl rfl (rfl) (rfl)) ?_
  rintro w6 ⟨ha6, hc6, hs6⟩
  refine wpL_nil (thenE_norm ?_)
  refine wpE_seq ?_
  refine wpE_seq ?_
  refine wpE_region ?_
  refine wpL_value rfl x_assign ?_
  refine wpL_nil (thenE_norm ?_)
  refine wpE_block ?_
  have hc16 : Chg [] w w6 := ((((hc1.tr hc2).tr hc3).tr hc4).tr hc5).t1 hc6 (by have := hc4.1; omega)
  have k4 := hc4.1
  have h1a : Arr w6 b1 s := ((((ha1.chg0 hc2).chg0 hc3).chg0 hc4).chg0 hc5).nb hc6 (by omega)
  have h2a : Arr w6 b2 (List.replicate 8 (0 : UInt32)) := (((ha2.chg0 hc3).chg0 hc4).chg0 hc5).nb hc6 (by omega)
  have h3a : Arr w6 b3 (List.replicate 64 (0 : UInt32)) := ((ha3.chg0 hc4).chg0 hc5).nb hc6 (by omega)
  refine wpE_loopF [1, 2, 4, 5, 6, 7] (fun n vs w' => ∃ i : Nat, vs = [.slice bp 64 bc, .pointer (some ⟨b1, 0, none⟩), .pointer (some ⟨b2, 0, none⟩), .pointer (some ⟨b3, 0, none⟩), .pointer (some ⟨b5, 0, none⟩), .int .i64 i] ∧ i + n = 64 ∧ Arr w' b3 (schedN l i) ∧ Chg [b3] w6 w') (64) ?_ ?_
  · exact ⟨0, rfl, rfl, by rw [schedN_zero]; exact h3a, Chg.refl' _ _⟩
  · rintro n vs J w7 ⟨i, rfl, hi, ha7, hc7⟩
    refine wpE_seq ?_
    refine wpE_seq ?_
    refine wpE_region ?_
    refine wpL_value rfl x_move (wpL_value rfl (x_lss rfl rfl) ?_)
    refine wpL_nil (thenE_norm ?_)
    have hsl := schedN_length l i
    have hc7' : Chg [] w w7 := hc16.t1 hc7 (by omega)
    refine wpE_cond_d rfl (fun h => ?_) (fun h => ?_)
    · skip
      refine wpE_skip (thenE_norm ?_)
      refine wpE_seq ?_
      refine wpE_block ?_
      refine wpE_seq ?_
      refine wpE_seq ?_
      refine wpE_region ?_
      refine wpL_value rfl x_move (wpL_value rfl (x_lss rfl rfl) ?_)
      refine wpL_nil (thenE_norm ?_)
      have hob2 : ∃ q, n = q + 1 := ⟨n - 1, by omega⟩
      obtain ⟨n, rfl⟩ := hob2
      refine wpE_cond_d rfl (fun h16 => ?_) (fun h16 => ?_)
      · skip
        refine wpE_seq ?_
        refine wpE_region ?_
        refine wpL_value rfl x_move (wpL_value rfl x_move (wpL_value rfl x_move (wpL_value rfl (x_mul64 rfl rfl (by omega)) (wpL_value rfl x_move (wpL_value rfl (x_mul64 rfl rfl (by omega)) (wpL_value rfl (x_add64 rfl rfl (by omega)) ?_))))))
        refine wpL_ex rfl (x_fromto (4 * i) (4 * i + 4) Tryz.underlying41 I5 rfl (hb.mod0 hc7') rfl rfl rfl rfl rfl (by omega)) ?_
        rintro _ ⟨⟨p1, c1, rfl⟩, hs1, hbl1⟩
        refine wpL_call rfl C186 (rBig_ok _ _ w7 hs1 (by rw [List.length_take, List.length_drop]; omega)) ?_
        rintro _ _ ⟨rfl, rfl⟩
        refine wpL_value rfl (x_idxA (i) Tryz.underlying253 I34 rfl rfl (by first | rfl | omega) (by first | assumption | omega)) ?_
        refine wpL_exs rfl (x_store1 (a := bigL ((l.drop (4 * i)).take (4 * i + 4 - 4 * i))) (k := i) I34 rfl rfl rfl rfl (ha7) rfl (by first | assumption | omega)) ?_
        rintro w8 ⟨ha8, hc8, hs8⟩
        refine wpL_nil (thenE_norm ?_)
        refine wpE_exit (thenE_exit (blockE_exit (thenE_norm ?_)))
        refine wpE_region ?_
        refine wpL_value rfl x_move (wpL_value rfl (x_add64 rfl rfl (by omega)) (wpL_value rfl x_assign ?_))
        refine wpL_nil (thenE_norm ?_)
        refine Exists.intro (n) (And.intro (by omega) ?_)
        refine ⟨i + 1, rfl, by omega, ?_, hc7.tr hc8⟩
        rw [show 4 * i + 4 - 4 * i = 4 by omega, bigL_take] at ha8
        rw [schedN_succ, schedAt, if_pos (by omega)]; exact ha8
      · skip
        refine wpE_skip (thenE_norm ?_)
        refine wpE_seq ?_
        refine wpE_draw mixed (.pure 0 (.pure 1 (.pure 2 (.read 3 (.pure 4 (.pure 5 (.pure 6 (.read 7 (.pure 8 (.pure 9 .nil)))))))))) (by kernel_rfl) ?_
        refine wpP_pure rfl rfl rfl (fun _ => x_move) ?_
        refine wpP_pure rfl rfl rfl (fun _ => (x_sub64 rfl rfl (by omega))) ?_
        refine wpP_pure rfl rfl rfl (fun _ => x_idxA (i - 15) Tryz.underlying253 I34 rfl rfl (by first | rfl | omega) (by first | assumption | omega)) ?_
        refine wpP_rd rfl rfl rfl Tryz.underlying34 rfl rfl (ha7.c (getD_some (d := 0) (by omega)) rfl rfl) ?_
        refine wpP_pure rfl rfl rfl (fun _ => x_move) ?_
        refine wpP_pure rfl rfl rfl (fun _ => (x_sub64 rfl rfl (by omega))) ?_
        refine wpP_pure rfl rfl rfl (fun _ => x_idxA (i - 2) Tryz.underlying253 I34 rfl rfl (by first | rfl | omega) (by first | assumption | omega)) ?_
        refine wpP_rd rfl rfl rfl Tryz.underlying34 rfl rfl (ha7.c (getD_some (d := 0) (by omega)) rfl rfl) ?_
        refine wpP_pure rfl rfl rfl (fun _ => x_assign) ?_
        refine wpP_pure rfl rfl rfl (fun _ => x_assign) ?_
        refine wpP_nil (thenE_norm ?_)
        refine wpE_seq ?_
        refine wpE_region ?_
        refine wpL_value rfl x_move ?_
        refine wpL_call rfl C165 (rRotl_ok ((schedN l i).getD (i - 15) 0) (-7) 25 (by decide) _) ?_
        rintro _ _ ⟨rfl, rfl⟩
        refine wpL_value rfl x_move ?_
        refine wpL_call rfl C165 (rRotl_ok ((schedN l i).getD (i - 15) 0) (-18) 14 (by decide) _) ?_
        rintro _ _ ⟨rfl, rfl⟩
        refine wpL_value rfl (x_xor32u rfl rfl) (wpL_value rfl x_move (wpL_value rfl (x_shr32u rfl rfl (s := 3) rfl) (wpL_value rfl (x_xor32u rfl rfl) (wpL_value rfl x_assign ?_))))
        refine wpL_nil (thenE_norm ?_)
        refine wpE_seq ?_
        refine wpE_region ?_
        refine wpL_value rfl x_move ?_
        refine wpL_call rfl C165 (rRotl_ok ((schedN l i).getD (i - 2) 0) (-17) 15 (by decide) _) ?_
        rintro _ _ ⟨rfl, rfl⟩
        refine wpL_value rfl x_move ?_
        refine wpL_call rfl C165 (rRotl_ok ((schedN l i).getD (i - 2) 0) (-19) 13 (by decide) _) ?_
        rintro _ _ ⟨rfl, rfl⟩
        refine wpL_value rfl (x_xor32u rfl rfl) (wpL_value rfl x_move (wpL_value rfl (x_shr32u rfl rfl (s := 10) rfl) (wpL_value rfl (x_xor32u rfl rfl) (wpL_value rfl x_assign ?_))))
        refine wpL_nil (thenE_norm ?_)
        refine wpE_draw mixed (.pure 0 (.pure 1 (.pure 2 (.pure 3 (.read 4 (.pure 5 (.pure 6 (.pure 7 (.pure 8 (.pure 9 (.read 10 (.pure 11 (.pure 12 (.pure 13 (.pure 14 (.eff 15 [] .nil)))))))))))))))) (by kernel_rfl) ?_
        refine wpP_pure rfl rfl rfl (fun _ => x_move) ?_
        refine wpP_pure rfl rfl rfl (fun _ => x_move) ?_
        refine wpP_pure rfl rfl rfl (fun _ => (x_sub64 rfl rfl (by omega))) ?_
        refine wpP_pure rfl rfl rfl (fun _ => x_idxA (i - 16) Tryz.underlying253 I34 rfl rfl (by first | rfl | omega) (by first | assumption | omega)) ?_
        refine wpP_rd rfl rfl rfl Tryz.underlying34 rfl rfl (ha7.c (getD_some (d := 0) (by omega)) rfl rfl) ?_
        refine wpP_pure rfl rfl rfl (fun _ => x_move) ?_
        refine wpP_pure rfl rfl rfl (fun _ => (x_add32u rfl rfl)) ?_
        refine wpP_pure rfl rfl rfl (fun _ => x_move) ?_
        refine wpP_pure rfl rfl rfl (fun _ => (x_sub64 rfl rfl (by omega))) ?_
        refine wpP_pure rfl rfl rfl (fun _ => x_idxA (i - 7) Tryz.underlying253 I34 rfl rfl (by first | rfl | omega) (by first | assumption | omega)) ?_
        refine wpP_rd rfl rfl rfl Tryz.underlying34 rfl rfl (ha7.c (getD_some (d := 0) (by omega)) rfl rfl) ?_
        refine wpP_pure rfl rfl rfl (fun _ => (x_add32u rfl rfl)) ?_
        refine wpP_pure rfl rfl rfl (fun _ => x_move) ?_
        refine wpP_pure rfl rfl rfl (fun _ => (x_add32u rfl rfl)) ?_
        refine wpP_pure rfl rfl rfl (fun _ => x_idxA (i) Tryz.underlying253 I34 rfl rfl (by first | rfl | omega) (by first | assumption | omega)) ?_
        refine wpP_exs rfl rfl rfl (x_store1 (a := ((schedN l i).getD (i - 16) 0 + (rot32 ((schedN l i).getD (i - 15) 0) 25 ^^^ rot32 ((schedN l i).getD (i - 15) 0) 14 ^^^ shr32 ((schedN l i).getD (i - 15) 0) 3) + (schedN l i).getD (i - 7) 0 + (rot32 ((schedN l i).getD (i - 2) 0) 15 ^^^ rot32 ((schedN l i).getD (i - 2) 0) 13 ^^^ shr32 ((schedN l i).getD (i - 2) 0) 10))) (k := i) I34 rfl rfl rfl rfl (ha7) rfl (by first | assumption | omega)) ?_
        rintro w8 ⟨ha8, hc8, hs8⟩
        refine ⟨trivial, ?_⟩
        refine wpP_nil (blockE_norm (thenE_norm ?_))
        refine wpE_region ?_
        refine wpL_value rfl x_move (wpL_value rfl (x_add64 rfl rfl (by omega)) (wpL_value rfl x_assign ?_))
        refine wpL_nil (thenE_norm ?_)
        refine Exists.intro (n) (And.intro (by omega) ?_)
        refine ⟨i + 1, rfl, by omega, ?_, hc7.tr hc8⟩
        rw [add4] at ha8
        rw [schedN_succ, schedAt, if_neg (by omega)]; exact ha8
    · skip
      refine wpE_exit (thenE_exit (thenE_exit (blockE_exit (thenE_norm ?_))))
      refine wpE_seq ?_
      refine wpE_region ?_
      have hob3 : i = 64 := by omega
      obtain rfl := hob3
      have h1b := h1a.nb hc7 (by omega)
      have h5b : Arr w7 b5 shaK := ha6.nb hc7 (by omega)
      have h2b := h2a.nb hc7 (by omega)
      refine wpL_value rfl (x_loadN 8 Tryz.underlying234 rfl I234 rfl rfl (h1b) (by first | assumption | rfl | (simp <;> omega))) ?_
      refine wpL_allocA (List.replicate 8 (0 : UInt32)) I234 rfl rfl rfl ?_
      rintro w8 b8 hn8 ha8 hc8 hl8
      refine wpL_exs rfl (x_storeN 8 I234 rfl (ha8) rfl rfl (by first | assumption | rfl | (simp <;> omega)) (by first | assumption | rfl | (simp <;> omega))) ?_
      rintro w9 ⟨ha9, hc9, hs9⟩
      refine wpL_nil (thenE_norm ?_)
      refine wpE_seq ?_
      refine wpE_seq ?_
      refine wpE_region ?_
      refine wpL_value rfl x_assign ?_
      refine wpL_nil (thenE_norm ?_)
      refine wpE_block ?_
      have k7 := hc7.1
      have h1c : Arr w9 b1 s := (h1b.chg0 hc8).nb hc9 (by omega)
      have h2c : Arr w9 b2 (List.replicate 8 (0 : UInt32)) := (h2b.chg0 hc8).nb hc9 (by omega)
      have h5c : Arr w9 b5 shaK := (h5b.chg0 hc8).nb hc9 (by omega)
      have h3c : Arr w9 b3 (schedN l 64) := (ha7.chg0 hc8).nb hc9 (by omega)
      have hc09 : Chg [] w w9 := (hc7'.tr hc8).t1 hc9 (by have := hc7'.1; omega)
      refine wpE_loopF [2, 4, 5, 6, 12, 13] (fun n vs w' => ∃ i : Nat, vs = [.pointer (some ⟨b1, 0, none⟩), .pointer (some ⟨b2, 0, none⟩), .pointer (some ⟨b3, 0, none⟩), .pointer (some ⟨b5, 0, none⟩), .pointer (some ⟨b8, 0, none⟩), .int .i64 i] ∧ i + n = 64 ∧ Arr w' b8 (shaRounds (schedN l 64) s i) ∧ Chg [b8] w9 w') (64) ?_ ?_
      · exact ⟨0, rfl, rfl, by rw [shaRounds_zero]; exact ha9, Chg.refl' _ _⟩
      · rintro n vs J wr ⟨i, rfl, hi, hv, hcr⟩
        refine wpE_seq ?_
        refine wpE_seq ?_
        refine wpE_region ?_
        refine wpL_value rfl x_move (wpL_value rfl (x_lss rfl rfl) ?_)
        refine wpL_nil (thenE_norm ?_)
        have hvl := shaRounds_length (schedN l 64) s hs i
        have hkl : shaK.length = 64 := rfl
        have h5r := h5c.nb hcr (by omega)
        have h3r := h3c.nb hcr (by omega)
        refine wpE_cond_d rfl (fun h => ?_) (fun h => ?_)
        · skip
          refine wpE_skip (thenE_norm ?_)
          refine wpE_seq ?_
          refine wpE_block ?_
          refine wpE_seq ?_
          have hob4 : ∃ q, n = q + 1 := ⟨n - 1, by omega⟩
          obtain ⟨n, rfl⟩ := hob4
          refine wpE_draw mixed (.pure 0 (.read 1 (.pure 2 (.read 3 (.pure 4 (.pure 5 .nil)))))) (by kernel_rfl) ?_
          refine wpP_pure rfl rfl rfl (fun _ => (x_idxA 0 Tryz.underlying234 I34 rfl rfl rfl (by decide))) ?_
          refine wpP_rd rfl rfl rfl Tryz.underlying34 rfl rfl (hv.c (getD_some (d := 0) (by omega)) rfl rfl) ?_
          refine wpP_pure rfl rfl rfl (fun _ => (x_idxA 4 Tryz.underlying234 I34 rfl rfl rfl (by decide))) ?_
          refine wpP_rd rfl rfl rfl Tryz.underlying34 rfl rfl (hv.c (getD_some (d := 0) (by omega)) rfl rfl) ?_
          refine wpP_pure rfl rfl rfl (fun _ => x_assign) ?_
          refine wpP_pure rfl rfl rfl (fun _ => x_assign) ?_
          refine wpP_nil (thenE_norm ?_)
          refine wpE_seq ?_
          refine wpE_draw mixed (.pure 0 (.read 1 (.pure 2 (.pure 5 (.pure 6 (.read 7 (.pure 8 (.pure 9 (.pure 10 (.pure 11 (.read 12 (.pure 13 (.pure 14 (.pure 16 (.pure 17 (.read 18 (.pure 20 (.pure 21 (.read 22 (.eff 3 [1, 7, 12, 18, 22] (.pure 4 (.pure 15 (.pure 19 (.pure 23 (.pure 24 .nil))))))))))))))))))))))))) (by kernel_rfl) ?_
          refine wpP_pure rfl rfl rfl (fun _ => (x_idxA 7 Tryz.underlying234 I34 rfl rfl rfl (by decide))) ?_
          refine wpP_rd rfl rfl rfl Tryz.underlying34 rfl rfl (hv.c (getD_some (d := 0) (by omega)) rfl rfl) ?_
          refine wpP_pure rfl rfl rfl (fun _ => x_move) ?_
          refine wpP_pure rfl rfl rfl (fun _ => x_move) ?_
          refine wpP_pure rfl rfl rfl (fun _ => (x_idxA 5 Tryz.underlying234 I34 rfl rfl rfl (by decide))) ?_
          refine wpP_rd rfl rfl rfl Tryz.underlying34 rfl rfl (hv.c (getD_some (d := 0) (by omega)) rfl rfl) ?_
          refine wpP_pure rfl rfl rfl (fun _ => (x_and32u rfl rfl)) ?_
          refine wpP_pure rfl rfl rfl (fun _ => x_move) ?_
          refine wpP_pure rfl rfl rfl (fun _ => (x_com32u rfl)) ?_
          refine wpP_pure rfl rfl rfl (fun _ => (x_idxA 6 Tryz.underlying234 I34 rfl rfl rfl (by decide))) ?_
          refine wpP_rd rfl rfl rfl Tryz.underlying34 rfl rfl (hv.c (getD_some (d := 0) (by omega)) rfl rfl) ?_
          refine wpP_pure rfl rfl rfl (fun _ => (x_and32u rfl rfl)) ?_
          refine wpP_pure rfl rfl rfl (fun _ => (x_xor32u rfl rfl)) ?_
          refine wpP_pure rfl rfl rfl (fun _ => x_move) ?_
          refine wpP_pure rfl rfl rfl (fun _ => x_idxA (i) Tryz.underlying253 I34 rfl rfl (by first | rfl | omega) (by first | assumption | omega)) ?_
          refine wpP_rd rfl rfl rfl Tryz.underlying34 rfl rfl (h5r.c (getD_some (d := 0) (by omega)) rfl rfl) ?_
          refine wpP_pure rfl rfl rfl (fun _ => x_move) ?_
          refine wpP_pure rfl rfl rfl (fun _ => x_idxA (i) Tryz.underlying253 I34 rfl rfl (by first | rfl | omega) (by first | assumption | omega)) ?_
          refine wpP_rd rfl rfl rfl Tryz.underlying34 rfl rfl (h3r.c (getD_some (d := 0) (by omega)) rfl rfl) ?_
          refine wpP_call rfl rfl rfl C187 (rTurned_ok ((shaRounds (schedN l 64) s i).getD 4 0) 6 11 25 26 21 7 (by decide) (by decide) (by decide) (by decide) _) ?_
          rintro _ _ ⟨rfl, rfl⟩
          refine ⟨⟨hv.c (getD_some (d := 0) (by omega)) rfl rfl, hv.c (getD_some (d := 0) (by omega)) rfl rfl, hv.c (getD_some (d := 0) (by omega)) rfl rfl, h5r.c (getD_some (d := 0) (by omega)) rfl rfl, h3r.c (getD_some (d := 0) (by omega)) rfl rfl, trivial⟩, ?_⟩
          refine wpP_pure rfl rfl rfl (fun _ => (x_add32u rfl rfl)) ?_
          refine wpP_pure rfl rfl rfl (fun _ => (x_add32u rfl rfl)) ?_
          refine wpP_pure rfl rfl rfl (fun _ => (x_add32u rfl rfl)) ?_
          refine wpP_pure rfl rfl rfl (fun _ => (x_add32u rfl rfl)) ?_
          refine wpP_pure rfl rfl rfl (fun _ => x_assign) ?_
          refine wpP_nil (thenE_norm ?_)
          refine wpE_seq ?_
          refine wpE_draw mixed (.pure 0 (.pure 2 (.pure 3 (.read 4 (.pure 5 (.pure 6 (.pure 7 (.read 8 (.pure 9 (.pure 10 (.pure 11 (.read 12 (.pure 13 (.read 14 (.pure 15 (.pure 16 (.eff 1 [4, 8, 12, 14] (.pure 17 (.pure 18 .nil))))))))))))))))))) (by kernel_rfl) ?_
          refine wpP_pure rfl rfl rfl (fun _ => x_move) ?_
          refine wpP_pure rfl rfl rfl (fun _ => x_move) ?_
          refine wpP_pure rfl rfl rfl (fun _ => (x_idxA 1 Tryz.underlying234 I34 rfl rfl rfl (by decide))) ?_
          refine wpP_rd rfl rfl rfl Tryz.underlying34 rfl rfl (hv.c (getD_some (d := 0) (by omega)) rfl rfl) ?_
          refine wpP_pure rfl rfl rfl (fun _ => (x_and32u rfl rfl)) ?_
          refine wpP_pure rfl rfl rfl (fun _ => x_move) ?_
          refine wpP_pure rfl rfl rfl (fun _ => (x_idxA 2 Tryz.underlying234 I34 rfl rfl rfl (by decide))) ?_
          refine wpP_rd rfl rfl rfl Tryz.underlying34 rfl rfl (hv.c (getD_some (d := 0) (by omega)) rfl rfl) ?_
          refine wpP_pure rfl rfl rfl (fun _ => (x_and32u rfl rfl)) ?_
          refine wpP_pure rfl rfl rfl (fun _ => (x_xor32u rfl rfl)) ?_
          refine wpP_pure rfl rfl rfl (fun _ => (x_idxA 1 Tryz.underlying234 I34 rfl rfl rfl (by decide))) ?_
          refine wpP_rd rfl rfl rfl Tryz.underlying34 rfl rfl (hv.c (getD_some (d := 0) (by omega)) rfl rfl) ?_
          refine wpP_pure rfl rfl rfl (fun _ => (x_idxA 2 Tryz.underlying234 I34 rfl rfl rfl (by decide))) ?_
          refine wpP_rd rfl rfl rfl Tryz.underlying34 rfl rfl (hv.c (getD_some (d := 0) (by omega)) rfl rfl) ?_
          refine wpP_pure rfl rfl rfl (fun _ => (x_and32u rfl rfl)) ?_
          refine wpP_pure rfl rfl rfl (fun _ => (x_xor32u rfl rfl)) ?_
          refine wpP_call rfl rfl rfl C187 (rTurned_ok ((shaRounds (schedN l 64) s i).getD 0 0) 2 13 22 30 19 10 (by decide) (by decide) (by decide) (by decide) _) ?_
          rintro _ _ ⟨rfl, rfl⟩
          refine ⟨⟨hv.c (getD_some (d := 0) (by omega)) rfl rfl, hv.c (getD_some (d := 0) (by omega)) rfl rfl, hv.c (getD_some (d := 0) (by omega)) rfl rfl, hv.c (getD_some (d := 0) (by omega)) rfl rfl, trivial⟩, ?_⟩
          refine wpP_pure rfl rfl rfl (fun _ => (x_add32u rfl rfl)) ?_
          refine wpP_pure rfl rfl rfl (fun _ => x_assign) ?_
          refine wpP_nil (thenE_norm ?_)
          refine wpE_region ?_
          refine wpL_value rfl x_move (wpL_value rfl x_move (wpL_value rfl (x_add32u rfl rfl) (wpL_value rfl (x_idxA 0 Tryz.underlying234 I34 rfl rfl rfl (by decide)) ?_)))
          refine wpL_value rfl (x_load Tryz.underlying34 rfl rfl (hv.c (getD_some (d := 0) (by omega)) rfl rfl)) ?_
          refine wpL_value rfl (x_idxA 1 Tryz.underlying234 I34 rfl rfl rfl (by decide)) ?_
          refine wpL_value rfl (x_load Tryz.underlying34 rfl rfl (hv.c (getD_some (d := 0) (by omega)) rfl rfl)) ?_
          refine wpL_value rfl (x_idxA 2 Tryz.underlying234 I34 rfl rfl rfl (by decide)) ?_
          refine wpL_value rfl (x_load Tryz.underlying34 rfl rfl (hv.c (getD_some (d := 0) (by omega)) rfl rfl)) ?_
          refine wpL_value rfl (x_idxA 3 Tryz.underlying234 I34 rfl rfl rfl (by decide)) ?_
          refine wpL_value rfl (x_load Tryz.underlying34 rfl rfl (hv.c (getD_some (d := 0) (by omega)) rfl rfl)) ?_
          refine wpL_value rfl x_move (wpL_value rfl (x_add32u rfl rfl) (wpL_value rfl (x_idxA 4 Tryz.underlying234 I34 rfl rfl rfl (by decide)) ?_))
          refine wpL_value rfl (x_load Tryz.underlying34 rfl rfl (hv.c (getD_some (d := 0) (by omega)) rfl rfl)) ?_
          refine wpL_value rfl (x_idxA 5 Tryz.underlying234 I34 rfl rfl rfl (by decide)) ?_
          refine wpL_value rfl (x_load Tryz.underlying34 rfl rfl (hv.c (getD_some (d := 0) (by omega)) rfl rfl)) ?_
          refine wpL_value rfl (x_idxA 6 Tryz.underlying234 I34 rfl rfl rfl (by decide)) ?_
          refine wpL_value rfl (x_load Tryz.underlying34 rfl rfl (hv.c (getD_some (d := 0) (by omega)) rfl rfl)) ?_
          refine wpL_value rfl (x_buildV (List.replicate 8 (0 : UInt32)) ((shaRound (schedN l 64) (shaRounds (schedN l 64) s i) i).zipIdx.map fun x => (x.2, x.1)) (l := shaRound (schedN l 64) (shaRounds (schedN l 64) s i) i) Tryz.underlying234 I234 rfl I34 rfl rfl rfl rfl rfl) ?_
          refine wpL_exs rfl (x_storeN 8 I234 rfl (hv) rfl rfl (hvl) (rfl)) ?_
          rintro wt ⟨ha5, hc5, hs5⟩
          refine wpL_nil (blockE_norm (thenE_norm ?_))
          refine wpE_region ?_
          refine wpL_value rfl x_move (wpL_value rfl (x_add64 rfl rfl (by omega)) (wpL_value rfl x_assign ?_))
          refine wpL_nil (thenE_norm ?_)
          refine Exists.intro (n) (And.intro (by omega) ?_)
          refine ⟨i + 1, rfl, by omega, ?_, hcr.tr hc5⟩
          rw [shaRounds_succ]; exact ha5
        · skip
          refine wpE_exit (thenE_exit (thenE_exit (blockE_exit (thenE_norm ?_))))
          refine wpE_seq ?_
          refine wpE_seq ?_
          refine wpE_region ?_
          refine wpL_value rfl x_assign ?_
          refine wpL_nil (thenE_norm ?_)
          refine wpE_block ?_
          have hob5 : i = 64 := by omega
          obtain rfl := hob5
          have h1r := h1c.nb hcr (by omega)
          refine wpE_loopF [2, 4, 12, 18] (fun n vs w' => ∃ i : Nat, vs = [.pointer (some ⟨b1, 0, none⟩), .pointer (some ⟨b2, 0, none⟩), .pointer (some ⟨b8, 0, none⟩), .int .i64 i] ∧ i + n = 8 ∧ Arr w' b1 (hAdds s (shaRounds (schedN l 64) s 64) i) ∧ Chg [b1] wr w') (8) ?_ ?_
          · exact ⟨0, rfl, rfl, by rw [hAdds_zero]; exact h1r, Chg.refl' _ _⟩
          · rintro n vs J ws ⟨i, rfl, hi, hh, hcs⟩
            refine wpE_seq ?_
            refine wpE_seq ?_
            refine wpE_region ?_
            refine wpL_value rfl x_move (wpL_value rfl (x_lss rfl rfl) ?_)
            refine wpL_nil (thenE_norm ?_)
            have hhl := (hAdds_length s (shaRounds (schedN l 64) s 64) i).trans hs
            have hvs := hv.nb hcs (by omega)
            refine wpE_cond_d rfl (fun h2 => ?_) (fun h2 => ?_)
            · skip
              refine wpE_skip (thenE_norm ?_)
              refine wpE_seq ?_
              refine wpE_block ?_
              have hob6 : ∃ q, n = q + 1 := ⟨n - 1, by omega⟩
              obtain ⟨n, rfl⟩ := hob6
              refine wpE_draw mixed (.pure 0 (.pure 1 (.pure 2 (.read 3 (.pure 4 (.pure 5 (.read 6 (.pure 7 (.pure 8 (.eff 9 [] .nil)))))))))) (by kernel_rfl) ?_
              refine wpP_pure rfl rfl rfl (fun _ => x_move) ?_
              refine wpP_pure rfl rfl rfl (fun _ => x_move) ?_
              refine wpP_pure rfl rfl rfl (fun _ => x_idxA (i) Tryz.underlying234 I34 rfl rfl (by first | rfl | omega) (by first | assumption | omega)) ?_
              refine wpP_rd rfl rfl rfl Tryz.underlying34 rfl rfl (hh.c (getD_some (d := 0) (by omega)) rfl rfl) ?_
              refine wpP_pure rfl rfl rfl (fun _ => x_move) ?_
              refine wpP_pure rfl rfl rfl (fun _ => x_idxA (i) Tryz.underlying234 I34 rfl rfl (by first | rfl | omega) (by first | assumption | omega)) ?_
              refine wpP_rd rfl rfl rfl Tryz.underlying34 rfl rfl (hvs.c (getD_some (d := 0) (by omega)) rfl rfl) ?_
              refine wpP_pure rfl rfl rfl (fun _ => (x_add32u rfl rfl)) ?_
              refine wpP_pure rfl rfl rfl (fun _ => x_idxA (i) Tryz.underlying234 I34 rfl rfl (by first | rfl | omega) (by first | assumption | omega)) ?_
              refine wpP_exs rfl rfl rfl (x_store1 (a := _) (k := i) I34 rfl rfl rfl rfl (hh) rfl (by first | assumption | omega)) ?_
              rintro wt ⟨ha5, hc5, hs5⟩
              refine ⟨trivial, ?_⟩
              refine wpP_nil (blockE_norm (thenE_norm ?_))
              refine wpE_region ?_
              refine wpL_value rfl x_move (wpL_value rfl (x_add64 rfl rfl (by omega)) (wpL_value rfl x_assign ?_))
              refine wpL_nil (thenE_norm ?_)
              refine Exists.intro (n) (And.intro (by omega) ?_)
              refine ⟨i + 1, rfl, by omega, ?_, hcs.tr hc5⟩
              rw [hAdds_succ]; exact ha5
            · skip
              refine wpE_exit (thenE_exit (thenE_exit (blockE_exit (thenE_norm ?_))))
              refine wpE_seq ?_
              refine wpE_region ?_
              have hob7 : i = 8 := by omega
              obtain rfl := hob7
              refine wpL_value rfl (x_loadN 8 Tryz.underlying234 rfl I234 rfl rfl (hh) (by first | assumption | rfl | (simp <;> omega))) ?_
              have h2s : Arr ws b2 (List.replicate 8 (0 : UInt32)) := (h2c.nb hcr (by omega)).nb hcs (by omega)
              refine wpL_exs rfl (x_storeN 8 I234 rfl (h2s) rfl rfl (by first | assumption | rfl | (simp <;> omega)) (by first | assumption | rfl | (simp <;> omega))) ?_
              rintro wt ⟨ha5, hc5, hs5⟩
              refine wpL_nil (thenE_norm ?_)
              refine wpE_ret (fin_retR ?_)
              rw [hAdds_eq _ _ hs hvl, ← shaNext_def] at ha5
              exact ⟨[arrV (shaNext s l)], ⟨⟨_, rfl, run_loadN 8 Tryz.underlying234 rfl I234 rfl ha5 (shaNext_length _ _ hs)⟩, trivial⟩, rfl, ((hc09.t1 hcr (by have := hc7'.1; omega)).t1 hcs (by omega)).t1 hc5 (by omega)⟩
end Go.Proofs.YtenhmbhflgnhlaaGreat
