/- every row of calls, crashes, the power going within a commit: what each tells -/
import Derived.Test.YtenhmbhflgnhlaaGreatQKeys32
import Derived.Test.YtenhmbhflgnhlaaGreatSac1
namespace Go.Proofs.YtenhmbhflgnhlaaGreat
open Go Go.Sac
set_option maxRecDepth 100000
set_option maxHeartbeats 4000000
theorem isNaN32_ok (x : UInt32) (w : World) :
    Ret Tryz.prog 184 #[.int .u32 x.toNat] w fun v w' => v = .bool false ∧ w' = w := by
  refine enter [2] Tryz.func184 rfl rfl (Nat.le_of_ble_eq_true rfl) ?_
  refine wpE_seq ?_
  refine wpE_region ?_
  refine wpL_value rfl x_assign ?_
  refine wpL_nil (thenE_norm ?_)
  refine wpE_seq ?_
  refine wpE_region ?_
  refine wpL_value rfl x_move (wpL_value rfl x_move (wpL_value rfl (x_neq32u rfl rfl) (wpL_value rfl x_assign ?_)))
  refine wpL_nil (thenE_norm ?_)
  refine wpE_ret (fin_ret ?_)
  have hx : (decide (x ≠ x)) = false := by simp
  refine ⟨?_, rfl⟩
  show Value.bool (decide (x ≠ x)) = _
  rw [hx]
theorem Less32_ok (x y : UInt32) (w : World) :
    Ret Tryz.prog 162 #[.int .u32 x.toNat, .int .u32 y.toNat] w fun v w' => v = .bool (decide (x < y)) ∧ w' = w := by
  refine enter [4] Tryz.func162 rfl rfl (Nat.le_of_ble_eq_true rfl) ?_
  refine wpE_seq ?_
  refine wpE_region ?_
  refine wpL_value rfl x_assign ?_
  refine wpL_nil (thenE_norm ?_)
  refine wpE_seq ?_
  refine wpE_region ?_
  refine wpL_value rfl x_move ?_
  refine wpL_call rfl C184 (isNaN32_ok x w) ?_
  rintro _ w1 ⟨rfl, rfl⟩
  refine wpL_value rfl x_move (wpL_no rfl rfl (wpL_no rfl rfl (wpL_no rfl rfl (wpL_value rfl (x_pick_f rfl) (wpL_value rfl x_move (wpL_yes rfl (wpL_value rfl x_move (wpL_yes rfl (wpL_value rfl x_move (wpL_yes rfl (wpL_value rfl (x_lss32u rfl rfl) (wpL_value rfl (x_pick_f rfl) (wpL_value rfl x_assign ?_)))))))))))))
  refine wpL_nil (thenE_norm ?_)
  refine wpE_ret (fin_ret ?_)
  exact ⟨rfl, rfl⟩
theorem insert32_ok (v : Value) (l : List UInt32) (w : World) (ho : Own w v l) (hl : l.length ≤ 1000) :
    Ret Tryz.prog 156 #[v, .int .i64 0, .int .i64 l.length] w fun _ w' => Own w' v (sortU l) ∧ Chg (blkOf v) w w' := by
  have hob1 := ho.form rfl
  obtain ⟨pv, cv, rfl⟩ := hob1
  refine enter [] Tryz.func156 rfl rfl (Nat.le_of_ble_eq_true rfl) ?_
  refine wpE_seq ?_
  refine wpE_region ?_
  refine wpL_value rfl x_move (wpL_value rfl (x_add64 rfl rfl (by omega)) (wpL_value rfl x_assign ?_))
  refine wpL_nil (thenE_norm ?_)
  refine wpE_block ?_
  refine wpE_loopF [0, 1, 2, 6] (fun n vs w' => ∃ (i : Nat) (l' : List UInt32), vs = [.slice pv l.length cv, .int .i64 0, .int .i64 l.length, .int .i64 i] ∧ i + n = l.length + 1 ∧ 1 ≤ i ∧ Own w' (.slice pv l.length cv) l' ∧ SrtU l l' i ∧ Chg (blkOf (.slice pv l.length cv)) w w') (l.length) ?_ ?_
  · exact ⟨1, l, rfl, by omega, Nat.le_refl _, ho, SrtU.start l, Chg.refl' _ _⟩
  · rintro n vs J w1 ⟨i, l1, rfl, hi, hi1, ho1, hs1, hc1⟩
    refine wpE_seq ?_
    refine wpE_seq ?_
    refine wpE_region ?_
    refine wpL_value rfl x_move (wpL_value rfl x_move (wpL_value rfl (x_lss rfl rfl) ?_))
    refine wpL_nil (thenE_norm ?_)
    refine wpE_cond_d rfl (fun h => ?_) (fun h => ?_)
    · skip
      refine wpE_skip (thenE_norm ?_)
      refine wpE_seq ?_
      refine wpE_block ?_
      refine wpE_seq ?_
      refine wpE_region ?_
      refine wpL_value rfl x_move (wpL_value rfl x_assign ?_)
      refine wpL_nil (thenE_norm ?_)
      refine wpE_block ?_
      have hob2 : ∃ q, n = q + 1 := ⟨n - 1, by omega⟩
      obtain ⟨n, rfl⟩ := hob2
      have hl1 := hs1.length
      refine wpE_loopF [0, 1, 2, 6, 7] (fun n2 vs w' => ∃ (l' : List UInt32), vs = [.slice pv l.length cv, .int .i64 0, .int .i64 l.length, .int .i64 i, .int .i64 n2] ∧ n2 ≤ i ∧ Own w' (.slice pv l.length cv) l' ∧ MidU l l' i n2 ∧ Chg (blkOf (.slice pv l.length cv)) w w') (i) ?_ ?_
      · exact ⟨l1, rfl, Nat.le_refl _, ho1, hs1.mid, hc1⟩
      · rintro j vs J2 w2 ⟨l2, rfl, hji, ho2, hm2, hc2⟩
        refine wpE_seq ?_
        refine wpE_seq ?_
        have hl2 := hm2.length
        refine wpE_draw mixed (.pure 0 (.pure 1 (.pure 2 (.pure 3 (.pure 4 (.pure 5 (.pure 6 (.read 7 (.pure 8 (.pure 9 (.pure 10 (.pure 11 (.read 12 (.eff 13 [] (.pure 14 .nil))))))))))))))) (by kernel_rfl) ?_
        refine wpP_pure rfl rfl rfl (fun _ => x_move) ?_
        refine wpP_pure rfl rfl rfl (fun _ => x_move) ?_
        by_cases hj : 0 < j
        · skip
          refine wpP_pure rfl rfl rfl (fun _ => x_to (x_gtr rfl rfl) (congrArg Value.bool (decide_eq_true ((by omega))))) ?_
          refine wpP_pure rfl rfl rfl (fun _ => x_move) ?_
          refine wpP_pure rfl rfl rfl (fun _ => x_move) ?_
          refine wpP_pure rfl rfl rfl (fun _ => x_move) ?_
          refine wpP_ex rfl rfl rfl (x_idx (j) Tryz.underlying65 I34 rfl (ho2.sl) rfl rfl (by first | rfl | omega) (by omega)) ?_
          rintro _ ⟨b1, o1, rfl, he1, hb1⟩
          refine wpP_rd rfl rfl rfl Tryz.underlying34 rfl rfl ((ho2.sl.at he1 (getD_some (d := 0) (by omega))).c0 rfl) ?_
          refine wpP_pure rfl rfl rfl (fun _ => x_move) ?_
          refine wpP_pure rfl rfl rfl (fun _ => x_move) ?_
          refine wpP_pure rfl rfl rfl (fun _ => (x_sub64 rfl rfl (by omega))) ?_
          refine wpP_ex rfl rfl rfl (x_idx (j - 1) Tryz.underlying65 I34 rfl (ho2.sl) rfl rfl (by first | rfl | omega) (by omega)) ?_
          rintro _ ⟨b2, o2, rfl, he2, hb2⟩
          refine wpP_rd rfl rfl rfl Tryz.underlying34 rfl rfl ((ho2.sl.at he2 (getD_some (d := 0) (by omega))).c0 rfl) ?_
          refine wpP_call rfl rfl rfl C162 (Less32_ok (l2.getD j 0) (l2.getD (j - 1) 0) _) ?_
          rintro _ w3 ⟨rfl, hw3⟩
          refine ⟨trivial, ?_⟩
          refine wpP_pure rfl rfl rfl (fun _ => (x_pick_t rfl)) ?_
          refine wpP_nil (thenE_norm ?_)
          have hc3 : Chg [] w2 w3 := by rw [hw3]; exact Chg.heap rfl
          have ho3 := ho2.mod0 hc3
          refine wpE_cond_d rfl (fun hless => ?_) (fun hless => ?_)
          · skip
            refine wpE_skip (thenE_norm ?_)
            refine wpE_seq ?_
            refine wpE_block ?_
            have hob3 : ∃ q, j = q + 1 := ⟨j - 1, by omega⟩
            obtain ⟨j, rfl⟩ := hob3
            refine wpE_draw mixed (.pure 0 (.pure 1 (.pure 2 (.pure 3 (.pure 4 (.pure 5 (.pure 6 (.pure 7 (.pure 8 (.read 9 (.pure 10 (.pure 11 (.pure 12 (.read 13 (.pure 14 (.eff 15 [] (.pure 16 (.eff 17 [] .nil)))))))))))))))))) (by kernel_rfl) ?_
            refine wpP_pure rfl rfl rfl (fun _ => x_move) ?_
            refine wpP_pure rfl rfl rfl (fun _ => x_move) ?_
            refine wpP_pure rfl rfl rfl (fun _ => x_move) ?_
            refine wpP_pure rfl rfl rfl (fun _ => x_move) ?_
            refine wpP_pure rfl rfl rfl (fun _ => (x_sub64 rfl rfl (by omega))) ?_
            refine wpP_pure rfl rfl rfl (fun _ => x_move) ?_
            refine wpP_pure rfl rfl rfl (fun _ => x_move) ?_
            refine wpP_pure rfl rfl rfl (fun _ => (x_sub64 rfl rfl (by omega))) ?_
            refine wpP_ex rfl rfl rfl (x_idx (j) Tryz.underlying65 I34 rfl (ho3.sl) rfl rfl (by first | rfl | omega) (by omega)) ?_
            rintro _ ⟨b4, o4, rfl, he4, hb4⟩
            refine wpP_rd rfl rfl rfl Tryz.underlying34 rfl rfl ((ho3.sl.at he4 (getD_some (d := 0) (by omega))).c0 rfl) ?_
            refine wpP_pure rfl rfl rfl (fun _ => x_move) ?_
            refine wpP_pure rfl rfl rfl (fun _ => x_move) ?_
            refine wpP_ex rfl rfl rfl (x_idx (j + 1) Tryz.underlying65 I34 rfl (ho3.sl) rfl rfl (by first | rfl | omega) (by omega)) ?_
            rintro _ ⟨b5, o5, rfl, he5, hb5⟩
            refine wpP_rd rfl rfl rfl Tryz.underlying34 rfl rfl ((ho3.sl.at he5 (getD_some (d := 0) (by omega))).c0 rfl) ?_
            refine wpP_ex rfl rfl rfl (x_idx (j + 1) Tryz.underlying65 I34 rfl (ho3.sl) rfl rfl (by first | rfl | omega) (by omega)) ?_
            rintro _ ⟨b6, o6, rfl, he6, hb6⟩
            refine wpP_exs rfl rfl rfl (x_storeO (a := l2.getD j 0) I34 rfl (ho3.mod0 (drw _)) rfl (he6) rfl rfl (by omega)) ?_
            rintro w7 ⟨ho7, hc7, hs7⟩
            refine ⟨trivial, ?_⟩
            refine wpP_ex rfl rfl rfl (x_idx (j) Tryz.underlying65 I34 rfl (ho7.sl) rfl rfl (by first | rfl | omega) (by simp; omega)) ?_
            rintro _ ⟨b8, o8, rfl, he8, hb8⟩
            refine wpP_exs rfl rfl rfl (x_storeO (a := l2.getD (j + 1) 0) I34 rfl (ho7) rfl (he8) rfl rfl (by simp; omega)) ?_
            rintro w9 ⟨ho9, hc9, hs9⟩
            refine ⟨trivial, ?_⟩
            refine wpP_nil (blockE_norm (thenE_norm ?_))
            refine wpE_region ?_
            refine wpL_value rfl x_move (wpL_value rfl (x_sub64 rfl rfl (by omega)) (wpL_value rfl x_assign ?_))
            refine wpL_nil (thenE_norm ?_)
            refine Exists.intro (j) (And.intro (by omega) ?_)
            have e9 : (l2.set (j + 1) (l2.getD j 0)).set j (l2.getD (j + 1) 0) = swapU l2 (j + 1) := by simp [swapU]
            rw [e9] at ho9
            have hcx : Chg (blkOf (.slice pv l.length cv)) w w9 := ((hc2.tr0 (hc3.tr (drw _))).tr hc7).tr hc9
            exact ⟨swapU l2 (j + 1), vs_cons rfl (vs_cons rfl (vs_cons rfl (vs_cons rfl (vs_cons (int_eq (by omega)) vs_nil)))), by omega, ho9, hm2.swap (by omega) hji (by omega) hless, hcx⟩
          · skip
            refine wpE_exit (thenE_exit (thenE_exit (blockE_exit (blockE_norm (thenE_norm ?_)))))
            refine wpE_region ?_
            refine wpL_value rfl x_move (wpL_value rfl (x_add64 rfl rfl (by omega)) (wpL_value rfl x_assign ?_))
            refine wpL_nil (thenE_norm ?_)
            have hstop : j = 0 ∨ ¬ l2.getD j 0 < l2.getD (j - 1) 0 := .inr hless
            have ho2 := ho3
            have hc2 := hc2.tr0 hc3
            refine Exists.intro (n) (And.intro (by omega) ?_)
            refine ⟨i + 1, l2, ?_, by omega, by omega, ho2, hm2.done hji hstop, hc2⟩
            exact vs_cons rfl (vs_cons rfl (vs_cons rfl (vs_cons (int_eq (by omega)) vs_nil)))
        · skip
          refine wpP_pure rfl rfl rfl (fun _ => x_to (x_gtr rfl rfl) (congrArg Value.bool (decide_eq_false ((by omega))))) ?_
          refine wpP_pure rfl rfl rfl (fun _ => x_move) ?_
          refine wpP_no rfl rfl rfl ?_
          refine wpP_no rfl rfl rfl ?_
          refine wpP_no rfl rfl rfl ?_
          refine wpP_nor rfl rfl rfl ?_
          refine wpP_no rfl rfl rfl ?_
          refine wpP_no rfl rfl rfl ?_
          refine wpP_no rfl rfl rfl ?_
          refine wpP_no rfl rfl rfl ?_
          refine wpP_nor rfl rfl rfl ?_
          refine wpP_noe rfl rfl rfl ?_
          refine wpP_pure rfl rfl rfl (fun _ => (x_pick_f rfl)) ?_
          refine wpP_nil (thenE_norm ?_)
          refine wpE_cond_f (rfl) ?_
          refine wpE_exit (thenE_exit (thenE_exit (blockE_exit (blockE_norm (thenE_norm ?_)))))
          refine wpE_region ?_
          refine wpL_value rfl x_move (wpL_value rfl (x_add64 rfl rfl (by omega)) (wpL_value rfl x_assign ?_))
          refine wpL_nil (thenE_norm ?_)
          have hstop : j = 0 ∨ ¬ l2.getD j 0 < l2.getD (j - 1) 0 := .inl (by omega)
          have ho2 := ho2.mod0 (drw _)
          have hc2 := hc2.tr0 (drw _)
          refine Exists.intro (n) (And.intro (by omega) ?_)
          refine ⟨i + 1, l2, ?_, by omega, by omega, ho2, hm2.done hji hstop, hc2⟩
          exact vs_cons rfl (vs_cons rfl (vs_cons rfl (vs_cons (int_eq (by omega)) vs_nil)))
    · skip
      refine wpE_exit (thenE_exit (thenE_exit (blockE_exit (fin_end ?_))))
      rw [hs1.sort (by rw [hs1.length]; omega)] at ho1
      exact ⟨ho1, hc1⟩
theorem pdq32_ok (v : Value) (l : List UInt32) (lim : Int) (w : World) (ho : Own w v l) (hl : l.length ≤ 12) :
    Ret Tryz.prog 131 #[v, .int .i64 0, .int .i64 l.length, .int .i64 lim] w fun _ w' => Own w' v (sortU l) ∧ Chg (blkOf v) w w' := by
  refine enter [] Tryz.func131 rfl rfl (Nat.le_of_ble_eq_true rfl) ?_
  refine wpE_seq ?_
  refine wpE_region ?_
  refine wpL_value rfl x_assign ?_
  refine wpL_nil (thenE_norm ?_)
  refine wpE_seq ?_
  refine wpE_region ?_
  refine wpL_value rfl x_assign ?_
  refine wpL_nil (thenE_norm ?_)
  refine wpE_block ?_
  refine wpE_loopF [0, 1, 2, 3, 8, 9] (fun n vs w' => vs = [v, .int .i64 0, .int .i64 l.length, .int .i64 lim, .bool true, .bool true] ∧ w' = w) (0) ?_ ?_
  · exact ⟨rfl, rfl⟩
  · rintro n vs J w1 ⟨rfl, rfl⟩
    refine wpE_block ?_
    refine wpE_seq ?_
    refine wpE_region ?_
    refine wpL_value rfl x_move (wpL_value rfl x_move (wpL_value rfl (x_sub64 rfl rfl (by omega)) (wpL_value rfl x_assign ?_)))
    refine wpL_nil (thenE_norm ?_)
    refine wpE_seq ?_
    refine wpE_seq ?_
    refine wpE_region ?_
    refine wpL_value rfl x_move (wpL_value rfl (x_leq rfl rfl) ?_)
    refine wpL_nil (thenE_norm ?_)
    refine wpE_cond_dt rfl (by omega) ?_
    refine wpE_seq ?_
    refine wpE_region ?_
    refine wpL_value rfl x_move (wpL_value rfl x_move (wpL_value rfl x_move ?_))
    refine wpL_call rfl C156 (insert32_ok v l _ ho (by omega)) ?_
    rintro _ w2 ⟨ho2, hc2⟩
    refine wpL_nil (thenE_norm ?_)
    refine wpE_ret (thenE_ret (blockE_ret (thenE_ret (blockE_ret (fin_ret ?_)))))
    exact ⟨ho2, hc2⟩
theorem Len64_ok (x : UInt64) (w : World) (hx : x.toNat < 256) :
    Ret Tryz.prog 155 #[.int .u64 x.toNat] w fun v w' => (∃ k : Int, v = .int .i64 k) ∧ w' = w := by
  have hge : ∀ b : UInt64, 256 ≤ b.toNat → ¬ x ≥ b := fun b hb h => by
    have := UInt64.le_iff_toNat_le.1 h
    omega
  refine enter [2] Tryz.func155 rfl rfl (Nat.le_of_ble_eq_true rfl) ?_
  refine wpE_seq ?_
  refine wpE_region ?_
  refine wpL_value rfl x_assign ?_
  refine wpL_nil (thenE_norm ?_)
  refine wpE_seq ?_
  refine wpE_seq ?_
  refine wpE_region ?_
  refine wpL_value rfl x_move (wpL_value rfl (x_geq64u (b := 4294967296) rfl rfl) ?_)
  refine wpL_nil (thenE_norm ?_)
  refine wpE_cond_df rfl (hge _ (by decide)) ?_
  refine wpE_skip (thenE_norm ?_)
  refine wpE_seq ?_
  refine wpE_seq ?_
  refine wpE_region ?_
  refine wpL_value rfl x_move (wpL_value rfl (x_geq64u (b := 65536) rfl rfl) ?_)
  refine wpL_nil (thenE_norm ?_)
  refine wpE_cond_df rfl (hge _ (by decide)) ?_
  refine wpE_skip (thenE_norm ?_)
  refine wpE_seq ?_
  refine wpE_seq ?_
  refine wpE_region ?_
  refine wpL_value rfl x_move (wpL_value rfl (x_geq64u (b := 256) rfl rfl) ?_)
  refine wpL_nil (thenE_norm ?_)
  refine wpE_cond_df rfl (hge _ (by decide)) ?_
  refine wpE_skip (thenE_norm ?_)
  refine wpE_seq ?_
  refine wpE_region ?_
  refine wpL_value rfl x_move (wpL_value rfl x_move (wpL_value rfl (x_conv8u rfl Tryz.underlying35 Tryz.underlying5) ?_))
  refine wpL_ex rfl ((⟨_, fun _ => x_indexStr Tryz.underlying9 rfl rfl (Int.natCast_nonneg _) (getD_some (d := 0) (by show _ < 256; exact UInt8.toNat_lt _)), ⟨_, rfl, UInt8.toNat_lt _⟩⟩ : ∃ v, (∀ w', exec _ _ _ _ w' = .ok (.value v) w') ∧ ∃ b : UInt8, v = .int .u8 b.toNat ∧ b.toNat < 256)) ?_
  rintro _ ⟨b, rfl, hb⟩
  refine wpL_value rfl (x_convI rfl Tryz.underlying5 Tryz.underlying3 (by omega)) (wpL_value rfl (x_add64 rfl rfl (by omega)) (wpL_value rfl x_assign ?_))
  refine wpL_nil (thenE_norm ?_)
  refine wpE_ret (fin_ret ?_)
  exact ⟨⟨_, rfl⟩, rfl⟩
theorem BLen_ok (x : UInt64) (w : World) (hx : x.toNat < 256) :
    Ret Tryz.prog 129 #[.int .u64 x.toNat] w fun v w' => (∃ k : Int, v = .int .i64 k) ∧ w' = w := by
  refine enter [2] Tryz.func129 rfl rfl (Nat.le_of_ble_eq_true rfl) ?_
  refine wpE_seq ?_
  refine wpE_region ?_
  refine wpL_value rfl x_assign ?_
  refine wpL_nil (thenE_norm ?_)
  refine wpE_seq ?_
  refine wpE_cond_f (rfl) ?_
  refine wpE_skip (thenE_norm ?_)
  refine wpE_seq ?_
  refine wpE_region ?_
  refine wpL_value rfl x_move ?_
  refine wpL_call rfl C155 (Len64_ok x w hx) ?_
  rintro _ w1 ⟨⟨k, rfl⟩, rfl⟩
  refine wpL_value rfl x_assign ?_
  refine wpL_nil (thenE_norm ?_)
  refine wpE_ret (fin_ret ?_)
  exact ⟨⟨k, rfl⟩, rfl⟩
theorem Sort32_ok (v : Value) (l : List UInt32) (w : World) (ho : Own w v l) (hl : l.length ≤ 12) :
    Ret Tryz.prog 111 #[v] w fun _ w' => Own w' v (sortU l) ∧ Chg (blkOf v) w w' := by
  have hf := ho.form rfl
  obtain ⟨pv, cv, rfl⟩ := hf
  have h64 : (toU64 (l.length : Int)).toNat = l.length := by rw [toU64_nat, UInt64.toNat_ofNat_of_lt' (show l.length < 18446744073709551616 by omega)]
  refine enter [] Tryz.func111 rfl rfl (Nat.le_of_ble_eq_true rfl) ?_
  refine wpE_seq ?_
  refine wpE_region ?_
  refine wpL_value rfl x_move (wpL_value rfl (x_len_slice rfl Tryz.underlying65) (wpL_value rfl x_assign ?_))
  refine wpL_nil (thenE_norm ?_)
  refine wpE_region ?_
  refine wpL_value rfl x_move (wpL_value rfl x_move (wpL_value rfl x_move (wpL_value rfl (x_conv64u rfl Tryz.underlying3 Tryz.underlying130) ?_)))
  refine wpL_call rfl C129 (BLen_ok (toU64 l.length) _ (by omega)) ?_
  rintro _ w1 ⟨⟨k, rfl⟩, rfl⟩
  refine wpL_call rfl C131 (pdq32_ok (.slice pv l.length cv) l k _ ho hl) ?_
  rintro _ w2 ⟨ho2, hc2⟩
  refine wpL_nil (fin_end ?_)
  exact ⟨ho2, hc2⟩
end Go.Proofs.YtenhmbhflgnhlaaGreat

