/- every row of calls, crashes, the power going within a commit: what each tells -/
import Derived.Test.YtenhmbhflgnhlaaGreatQModel3
import Derived.Test.YtenhmbhflgnhlaaGreatSac2
namespace Go.Proofs.YtenhmbhflgnhlaaGreat
open Go Go.Sac
set_option maxRecDepth 100000
set_option maxHeartbeats 4000000
theorem pgsL_succ (f : PgF) (i : Nat) : pgsL f (i + 1) = pgsL f i ++ (if f (UInt32.ofNat i) = true then [UInt32.ofNat i] else []) := by
  unfold pgsL
  rw [List.range_succ, List.filter_append, List.map_append]
  congr 1
  by_cases h : f (UInt32.ofNat i) = true <;> simp [h]
theorem pgsL_pre (f : PgF) (i : Nat) : ∀ n, i ≤ n → ∃ z, pgsL f n = pgsL f i ++ z
  | 0, h => ⟨[], by rw [show i = 0 by omega, List.append_nil]⟩
  | n + 1, h => by
    by_cases hi : i = n + 1
    · exact ⟨[], by rw [hi, List.append_nil]⟩
    · obtain ⟨z, hz⟩ := pgsL_pre f i n (by omega)
      exact ⟨z ++ _, by rw [pgsL_succ, hz, List.append_assoc]⟩
theorem pgsL_at (f : PgF) {i n : Nat} (hi : i < n) (hf : f (UInt32.ofNat i) = true) : (pgsL f n)[(pgsL f i).length]? = some (UInt32.ofNat i) := by
  obtain ⟨z, hz⟩ := pgsL_pre f (i + 1) n hi
  rw [hz, pgsL_succ, if_pos hf, List.append_assoc, List.getElem?_append_right (Nat.le_refl _), Nat.sub_self]
  rfl
section
variable {w0 w : World} {b r n k : Nat} {kv : Value} {R : PR} {key : List UInt8} {ds : DSt} {P : Pg} {V : UInt32 → List UInt8}
theorem alike_ok (hS : PS w0 w b kv r R n k key ds P V) (hn : n ≤ 12) (mb : Nat) (pv ov : Value) (M : Mdl) (hM : MAt w mb pv ov M) (hl : M.p.length = n) :
    Ret Tryz.prog 40 #[.pointer (some ⟨R.pb, 0, none⟩), .pointer (some ⟨mb, 0, none⟩)] w fun v w' => (∃ β, v = .bool β ∧ (β = true ↔ SameP n P V M)) ∧ PS w0 w' b kv r R n k key ds P V ∧ MAt w' mb pv ov M ∧ Chg [] w w' := by
  have hfm := hM.p.form hl
  obtain ⟨pp, pc, hfm⟩ := hfm
  subst hfm
  refine enter [4] Tryz.func40 rfl rfl (Nat.le_of_ble_eq_true rfl) ?_
  refine wpE_seq ?_
  refine wpE_region ?_
  refine wpL_value rfl x_assign ?_
  refine wpL_nil (thenE_norm ?_)
  refine wpE_seq ?_
  refine wpE_region ?_
  refine wpL_value rfl x_move ?_
  refine wpL_call rfl C36 (used_run hS hn) ?_
  rintro lv w1 ⟨ho1, hS1, hc1, hi1⟩
  refine wpL_value rfl x_assign ?_
  refine wpL_nil (thenE_norm ?_)
  refine wpE_seq ?_
  refine wpE_region ?_
  refine wpL_value rfl x_assign ?_
  refine wpL_nil (thenE_norm ?_)
  refine wpE_seq ?_
  refine wpE_seq ?_
  refine wpE_region ?_
  refine wpL_value rfl x_assign ?_
  refine wpL_nil (thenE_norm ?_)
  refine wpE_block ?_
  have hfl := ho1.form rfl
  obtain ⟨pl, cl, hfl⟩ := hfl
  subst hfl
  have hll := pgsL_length P.now.used n
  refine wpE_loopF [0, 1, 5, 6, 7] (fun q vs w' => ∃ (i kk : Nat), vs = [.pointer (some ⟨R.pb, 0, none⟩), .pointer (some ⟨mb, 0, none⟩), .slice pl (pgsL P.now.used n).length cl, .int .i64 kk, .int .i64 i] ∧ i + q = n ∧ kk = (pgsL M.usedF i).length ∧ (pgsL P.now.used n).take kk = pgsL M.usedF i ∧ (∀ j, j < i → (M.get j).used = true → ReadSame P V M j) ∧ Chg [] w1 w') (n) ?_ ?_
  · exact ⟨0, 0, rfl, by omega, rfl, rfl, fun j hj => by omega, Chg.refl _⟩
  · rintro q vs J w2 ⟨i, kk, rfl, hi, hkk, htk, hrd, hc2⟩
    refine wpE_seq ?_
    refine wpE_seq ?_
    refine wpE_region ?_
    refine wpL_value rfl x_move (wpL_value rfl x_move (wpL_value rfl (x_nil rfl) (wpL_value rfl (x_fieldAddr Tryz.underlying119 rfl I117 rfl rfl) ?_)))
    have hS2 := hS1.chg0 hc2
    have hM2 := (hM.chg0 hc1).chg0 hc2
    have ho2 := ho1.mod0 hc2
    have hkl := pgsL_length M.usedF i
    refine wpL_value rfl (x_load Tryz.underlying117 rfl rfl (hM2.blk.c (off := 0) rfl)) ?_
    refine wpL_value rfl (x_len_slice rfl Tryz.underlying117) (wpL_value rfl (x_lss rfl rfl) ?_)
    refine wpL_nil (thenE_norm ?_)
    refine wpE_cond_d rfl (fun hlt => ?_) (fun hlt => ?_)
    · skip
      refine wpE_skip (thenE_norm ?_)
      refine wpE_seq ?_
      refine wpE_block ?_
      refine wpE_seq ?_
      refine wpE_seq ?_
      refine wpE_region ?_
      refine wpL_value rfl x_move (wpL_value rfl (x_nil rfl) (wpL_value rfl (x_fieldAddr Tryz.underlying119 rfl I117 rfl rfl) ?_))
      have hob1 : ∃ z, q = z + 1 := ⟨q - 1, by omega⟩
      obtain ⟨q, rfl⟩ := hob1
      have hin : i < n := by omega
      have hil : i < M.p.length := by omega
      have hiu : toU32 (i : Int) = UInt32.ofNat i := toU32_nat i
      have hus := usedF_at M (show i < 4294967296 by omega)
      have hps := pgsL_succ M.usedF i
      refine wpL_value rfl (x_load Tryz.underlying117 rfl rfl (hM2.blk.c (off := 0) rfl)) ?_
      refine wpL_value rfl x_move ?_
      refine wpL_ex rfl (x_idx (i) Tryz.underlying117 I154 rfl (hM2.p.sl) rfl rfl (by first | rfl | omega) (hil)) ?_
      rintro _ ⟨b1, o1, rfl, he1, hb1⟩
      refine wpL_value rfl (x_fieldAddr Tryz.underlying154 rfl I4 rfl rfl) ?_
      have hat := hM2.p.sl.at he1 (M.at hil)
      by_cases hu : (M.get i).used = true
      · skip
        rw [hus, if_pos hu] at hps
        have hlat : SameP n P V M → (pgsL P.now.used n)[kk]? = some (UInt32.ofNat i) := fun h => by
          rw [h.used, hkk]; exact pgsL_at _ hin (by rw [hus]; exact hu)
        refine wpL_value rfl (x_load Tryz.underlying4 rfl rfl (hat.c0 (show (Flat.enc (M.get i))[0]? = some (.bool true) from congrArg (fun x => some (Value.bool x)) hu))) ?_
        refine wpL_value rfl (x_not rfl) ?_
        refine wpL_nil (thenE_norm ?_)
        refine wpE_cond_f (rfl) ?_
        refine wpE_skip (thenE_norm ?_)
        refine wpE_seq ?_
        refine wpE_seq ?_
        refine wpE_region ?_
        refine wpL_value rfl x_move (wpL_value rfl x_move (wpL_value rfl (x_len_slice rfl Tryz.underlying65) ?_))
        by_cases hkn : kk < (pgsL P.now.used n).length
        · skip
          refine wpL_value rfl (x_to (x_geq rfl rfl) (congrArg Value.bool (decide_eq_false (by omega)))) ?_
          refine wpL_value rfl x_move (wpL_yes rfl (wpL_value rfl x_move (wpL_yes rfl (wpL_value rfl x_move (wpL_yes rfl ?_)))))
          refine wpL_ex rfl (x_idx (kk) Tryz.underlying65 I34 rfl (ho2.sl) rfl rfl (by first | rfl | omega) (hkn)) ?_
          rintro _ ⟨b2, o2, rfl, he2, hb2⟩
          refine wpL_yes rfl ?_
          refine wpL_value rfl (x_load Tryz.underlying34 rfl rfl (((ho2.sl.at he2 (getD_some (d := 0) hkn)).c0 rfl))) ?_
          refine wpL_yes rfl (wpL_value rfl x_move (wpL_yes rfl (wpL_value rfl (x_conv32u rfl Tryz.underlying3 Tryz.underlying34) (wpL_yes rfl (wpL_value rfl (x_neq32u rfl rfl) (wpL_value rfl (x_pick_f rfl) ?_))))))
          refine wpL_nil (thenE_norm ?_)
          refine wpE_cond_d rfl (fun hne => ?_) (fun hne => ?_)
          · skip
            refine wpE_seq ?_
            refine wpE_region ?_
            refine wpL_value rfl x_assign ?_
            refine wpL_nil (thenE_norm ?_)
            refine wpE_ret (thenE_ret (blockE_ret (thenE_ret (thenE_ret (blockE_ret (thenE_ret (fin_ret ?_)))))))
            have hne : ¬ (pgsL P.now.used n).getD kk 0 = UInt32.ofNat i := by rw [← hiu]; exact hne
            refine ⟨⟨false, rfl, fun h => Bool.noConfusion h, fun h => ?_⟩, hS2, hM2, hc1.tr hc2⟩
            have := hlat h
            rw [getD_some (d := 0) hkn] at this
            exact absurd (Option.some.inj this) hne
          · skip
            refine wpE_skip (thenE_norm ?_)
            refine wpE_seq ?_
            refine wpE_region ?_
            refine wpL_value rfl x_move (wpL_value rfl (x_add64 rfl rfl (by omega)) (wpL_value rfl x_assign ?_))
            refine wpL_nil (thenE_norm ?_)
            refine wpE_seq ?_
            refine wpE_region ?_
            refine wpL_value rfl x_move (wpL_value rfl x_move (wpL_value rfl (x_conv32u rfl Tryz.underlying3 Tryz.underlying34) ?_))
            have heq : (pgsL P.now.used n).getD kk 0 = UInt32.ofNat i := by
              rw [← hiu]; exact Classical.byContradiction fun h => hne h
            have htk2 : (pgsL P.now.used n).take (kk + 1) = pgsL M.usedF (i + 1) := by
              rw [List.take_add_one, htk, getD_some (d := 0) hkn, heq, hps]; rfl
            have hkk2 : kk + 1 = (pgsL M.usedF (i + 1)).length := by rw [hps, List.length_append, ← hkk]; rfl
            by_cases hw : P.now.written (UInt32.ofNat i) = true
            · skip
              refine wpL_call rfl C29 ((read_run hS2 (toU32 (i : Int)) (by rw [hiu]; exact hw) :)) ?_
              rintro _ w3 ⟨⟨rv, rfl, hsr⟩, hS3, hc3⟩
              refine wpL_value rfl x_move (wpL_value rfl (x_extract rfl rfl) (wpL_value rfl (x_extract rfl rfl) (wpL_value rfl x_assign (wpL_value rfl x_assign ?_))))
              refine wpL_nil (thenE_norm ?_)
              refine wpE_seq ?_
              refine wpE_region ?_
              refine wpL_value rfl x_move (wpL_value rfl x_move ?_)
              rw [hiu] at hsr
              by_cases hwm : (M.get i).written = true
              · skip
                have hr : readM M i = ((M.get i).b, 0) := if_pos ⟨hil, hu, hwm⟩
                refine wpL_call rfl C90 (mRead_ok w3 mb (.slice pp n pc) ov M (hM2.chg0 hc3) (by omega) i (by omega)) ?_
                rintro v4 w4 ⟨hv4, hh4⟩
                rw [hr] at hv4
                subst hv4
                refine wpL_value rfl x_move (wpL_value rfl (x_extract rfl rfl) (wpL_value rfl (x_extract rfl rfl) (wpL_value rfl x_assign (wpL_value rfl x_assign ?_))))
                refine wpL_nil (thenE_norm ?_)
                refine wpE_seq ?_
                refine wpE_region ?_
                refine wpL_value rfl x_move (wpL_value rfl x_move ?_)
                refine wpL_value rfl (x_to (x_neq rfl rfl) (congrArg Value.bool (decide_eq_false (fun h => h rfl)))) ?_
                refine wpL_value rfl x_move (wpL_yes rfl (wpL_value rfl x_move (wpL_yes rfl ?_)))
                refine wpL_value rfl (x_b2s Tryz.underlying41 Tryz.underlying5 Tryz.underlying9 (hsr.heap hh4) rfl) ?_
                refine wpL_yes rfl (wpL_value rfl x_move (wpL_yes rfl (wpL_value rfl (x_neS rfl rfl) (wpL_value rfl (x_pick_f rfl) ?_))))
                refine wpL_nil (thenE_norm ?_)
                refine wpE_cond_d rfl (fun hne => ?_) (fun hne => ?_)
                · skip
                  refine wpE_seq ?_
                  refine wpE_region ?_
                  refine wpL_value rfl x_assign ?_
                  refine wpL_nil (thenE_norm ?_)
                  refine wpE_ret (blockE_ret (thenE_ret (thenE_ret (blockE_ret (thenE_ret (fin_ret ?_))))))
                  refine ⟨⟨false, rfl, fun h => Bool.noConfusion h, fun h => ?_⟩, hS3.chg0 (Chg.heap hh4), (hM2.chg0 hc3).chg0 (Chg.heap hh4), ((hc1.tr hc2).tr hc3).tr (Chg.heap hh4)⟩
                  rcases h.read i hin hu with ⟨_, _, q3⟩ | ⟨q1, _⟩
                  · exact absurd q3.symm hne
                  · rw [hw] at q1; cases q1
                · skip
                  refine wpE_skip (blockE_norm (thenE_norm ?_))
                  refine wpE_region ?_
                  refine wpL_value rfl x_move (wpL_value rfl (x_add64 rfl rfl (by omega)) (wpL_value rfl x_assign ?_))
                  refine wpL_nil (thenE_norm ?_)
                  have hrs : ReadSame P V M i := .inl ⟨hw, hwm, (Classical.byContradiction fun h => hne h : V (UInt32.ofNat i) = (M.get i).b).symm⟩
                  refine Exists.intro (q) (And.intro (by omega) ?_)
                  exact ⟨i + 1, kk + 1, vs_cons rfl (vs_cons rfl (vs_cons rfl (vs_cons (int_eq (by omega)) (vs_cons (int_eq (by omega)) vs_nil)))), by omega, hkk2, htk2, fun j hj hju => by
                    rcases (by omega : j < i ∨ j = i) with h | h
                    · exact hrd j h hju
                    · rw [h]; exact hrs, (hc2.tr hc3).tr (Chg.heap hh4)⟩
              · skip
                have hwm2 : (M.get i).written = false := by simpa using hwm
                have hr : readM M i = ([], 71) := if_neg (fun h => hwm h.2.2)
                refine wpL_call rfl C90 (mRead_ok w3 mb (.slice pp n pc) ov M (hM2.chg0 hc3) (by omega) i (by omega)) ?_
                rintro v4 w4 ⟨hv4, hh4⟩
                rw [hr] at hv4
                subst hv4
                refine wpL_value rfl x_move (wpL_value rfl (x_extract rfl rfl) (wpL_value rfl (x_extract rfl rfl) (wpL_value rfl x_assign (wpL_value rfl x_assign ?_))))
                refine wpL_nil (thenE_norm ?_)
                refine wpE_seq ?_
                refine wpE_region ?_
                refine wpL_value rfl x_move (wpL_value rfl x_move ?_)
                refine wpL_value rfl (x_to (x_neq rfl rfl) (congrArg Value.bool (decide_eq_true (by decide)))) ?_
                refine wpL_value rfl x_move (wpL_no rfl rfl (wpL_no rfl rfl (wpL_no rfl rfl (wpL_no rfl rfl (wpL_value rfl (x_pick_t rfl) ?_)))))
                refine wpL_nil (thenE_norm ?_)
                refine wpE_cond_t (rfl) ?_
                refine wpE_seq ?_
                refine wpE_region ?_
                refine wpL_value rfl x_assign ?_
                refine wpL_nil (thenE_norm ?_)
                refine wpE_ret (blockE_ret (thenE_ret (thenE_ret (blockE_ret (thenE_ret (fin_ret ?_))))))
                refine ⟨⟨false, rfl, fun h => Bool.noConfusion h, fun h => ?_⟩, hS3.chg0 (Chg.heap hh4), (hM2.chg0 hc3).chg0 (Chg.heap hh4), ((hc1.tr hc2).tr hc3).tr (Chg.heap hh4)⟩
                rcases h.read i hin hu with ⟨_, q2, _⟩ | ⟨q1, _⟩
                · rw [hwm2] at q2; cases q2
                · rw [hw] at q1; cases q1
            · skip
              have hw2 : P.now.written (UInt32.ofNat i) = false := by simpa using hw
              refine wpL_call rfl C29 ((read_none hS2 (toU32 (i : Int)) (by rw [hiu]; exact hw2) :)) ?_
              rintro _ w3 ⟨rfl, hS3, hc3⟩
              refine wpL_value rfl x_move (wpL_value rfl (x_extract rfl rfl) (wpL_value rfl (x_extract rfl rfl) (wpL_value rfl x_assign (wpL_value rfl x_assign ?_))))
              refine wpL_nil (thenE_norm ?_)
              refine wpE_seq ?_
              refine wpE_region ?_
              refine wpL_value rfl x_move (wpL_value rfl x_move ?_)
              by_cases hwm : (M.get i).written = true
              · skip
                have hr : readM M i = ((M.get i).b, 0) := if_pos ⟨hil, hu, hwm⟩
                refine wpL_call rfl C90 (mRead_ok w3 mb (.slice pp n pc) ov M (hM2.chg0 hc3) (by omega) i (by omega)) ?_
                rintro v4 w4 ⟨hv4, hh4⟩
                rw [hr] at hv4
                subst hv4
                refine wpL_value rfl x_move (wpL_value rfl (x_extract rfl rfl) (wpL_value rfl (x_extract rfl rfl) (wpL_value rfl x_assign (wpL_value rfl x_assign ?_))))
                refine wpL_nil (thenE_norm ?_)
                refine wpE_seq ?_
                refine wpE_region ?_
                refine wpL_value rfl x_move (wpL_value rfl x_move ?_)
                refine wpL_value rfl (x_to (x_neq rfl rfl) (congrArg Value.bool (decide_eq_true ((by show (71 : Int) ≠ 0; decide))))) ?_
                refine wpL_value rfl x_move (wpL_no rfl rfl (wpL_no rfl rfl (wpL_no rfl rfl (wpL_no rfl rfl (wpL_value rfl (x_pick_t rfl) ?_)))))
                refine wpL_nil (thenE_norm ?_)
                refine wpE_cond_t (rfl) ?_
                refine wpE_seq ?_
                refine wpE_region ?_
                refine wpL_value rfl x_assign ?_
                refine wpL_nil (thenE_norm ?_)
                refine wpE_ret (blockE_ret (thenE_ret (thenE_ret (blockE_ret (thenE_ret (fin_ret ?_))))))
                refine ⟨⟨false, rfl, fun h => Bool.noConfusion h, fun h => ?_⟩, hS3.chg0 (Chg.heap hh4), (hM2.chg0 hc3).chg0 (Chg.heap hh4), ((hc1.tr hc2).tr hc3).tr (Chg.heap hh4)⟩
                rcases h.read i hin hu with ⟨q1, _, _⟩ | ⟨_, q2⟩
                · rw [hw2] at q1; cases q1
                · rw [hwm] at q2; cases q2
              · skip
                have hwm2 : (M.get i).written = false := by simpa using hwm
                have hr : readM M i = ([], 71) := if_neg (fun h => hwm h.2.2)
                refine wpL_call rfl C90 (mRead_ok w3 mb (.slice pp n pc) ov M (hM2.chg0 hc3) (by omega) i (by omega)) ?_
                rintro v4 w4 ⟨hv4, hh4⟩
                rw [hr] at hv4
                subst hv4
                refine wpL_value rfl x_move (wpL_value rfl (x_extract rfl rfl) (wpL_value rfl (x_extract rfl rfl) (wpL_value rfl x_assign (wpL_value rfl x_assign ?_))))
                refine wpL_nil (thenE_norm ?_)
                refine wpE_seq ?_
                refine wpE_region ?_
                refine wpL_value rfl x_move (wpL_value rfl x_move ?_)
                refine wpL_value rfl (x_to (x_neq rfl rfl) (congrArg Value.bool (decide_eq_false (fun h => h rfl)))) ?_
                refine wpL_value rfl x_move (wpL_yes rfl (wpL_value rfl x_move (wpL_yes rfl ?_)))
                refine wpL_value rfl (x_b2s Tryz.underlying41 Tryz.underlying5 Tryz.underlying9 (Sl.nil (α := UInt8) w4 0) rfl) ?_
                refine wpL_yes rfl (wpL_value rfl x_move (wpL_yes rfl (wpL_value rfl (x_neS rfl rfl) (wpL_value rfl (x_pick_f rfl) ?_))))
                refine wpL_nil (thenE_norm ?_)
                refine wpE_cond_df rfl (fun h => h rfl) ?_
                refine wpE_skip (blockE_norm (thenE_norm ?_))
                refine wpE_region ?_
                refine wpL_value rfl x_move (wpL_value rfl (x_add64 rfl rfl (by omega)) (wpL_value rfl x_assign ?_))
                refine wpL_nil (thenE_norm ?_)
                have hrs : ReadSame P V M i := .inr ⟨hw2, hwm2⟩
                refine Exists.intro (q) (And.intro (by omega) ?_)
                exact ⟨i + 1, kk + 1, vs_cons rfl (vs_cons rfl (vs_cons rfl (vs_cons (int_eq (by omega)) (vs_cons (int_eq (by omega)) vs_nil)))), by omega, hkk2, htk2, fun j hj hju => by
                  rcases (by omega : j < i ∨ j = i) with h | h
                  · exact hrd j h hju
                  · rw [h]; exact hrs, (hc2.tr hc3).tr (Chg.heap hh4)⟩
        · skip
          refine wpL_value rfl (x_to (x_geq rfl rfl) (congrArg Value.bool (decide_eq_true (by omega)))) ?_
          refine wpL_value rfl x_move (wpL_no rfl rfl (wpL_no rfl rfl (wpL_no rfl rfl (wpL_no rfl rfl (wpL_no rfl rfl (wpL_no rfl rfl (wpL_no rfl rfl (wpL_value rfl (x_pick_t rfl) ?_))))))))
          refine wpL_nil (thenE_norm ?_)
          refine wpE_cond_t (rfl) ?_
          refine wpE_seq ?_
          refine wpE_region ?_
          refine wpL_value rfl x_assign ?_
          refine wpL_nil (thenE_norm ?_)
          refine wpE_ret (thenE_ret (blockE_ret (thenE_ret (thenE_ret (blockE_ret (thenE_ret (fin_ret ?_)))))))
          refine ⟨⟨false, rfl, fun h => Bool.noConfusion h, fun h => ?_⟩, hS2, hM2, hc1.tr hc2⟩
          have := hlat h
          rw [List.getElem?_eq_none (by omega)] at this
          cases this
      · skip
        rw [hus, if_neg hu, List.append_nil] at hps
        have hu : (M.get i).used = false := by simpa using hu
        refine wpL_value rfl (x_load Tryz.underlying4 rfl rfl (hat.c0 (show (Flat.enc (M.get i))[0]? = some (.bool false) from congrArg (fun x => some (Value.bool x)) hu))) ?_
        refine wpL_value rfl (x_not rfl) ?_
        refine wpL_nil (thenE_norm ?_)
        refine wpE_cond_t (rfl) ?_
        refine wpE_exit (thenE_exit (blockE_exit (thenE_norm ?_)))
        refine wpE_region ?_
        refine wpL_value rfl x_move (wpL_value rfl (x_add64 rfl rfl (by omega)) (wpL_value rfl x_assign ?_))
        refine wpL_nil (thenE_norm ?_)
        refine Exists.intro (q) (And.intro (by omega) ?_)
        refine ⟨i + 1, kk, rfl, by omega, by rw [hps]; exact hkk, by rw [hps]; exact htk, fun j hj hju => ?_, hc2⟩
        rcases (by omega : j < i ∨ j = i) with h | h
        · exact hrd j h hju
        · rw [h, hu] at hju; cases hju
    · skip
      refine wpE_exit (thenE_exit (thenE_exit (blockE_exit (thenE_norm ?_))))
      refine wpE_seq ?_
      have hin : i = n := by omega
      subst hin
      have hcw : Chg [] w w2 := hc1.tr hc2
      have hkk3 : kk ≤ (pgsL P.now.used i).length := by
        have := congrArg List.length htk
        rw [List.length_take] at this
        omega
      have hused : kk = (pgsL P.now.used i).length ↔ pgsL P.now.used i = pgsL M.usedF i := by
        constructor
        · intro h
          rw [← htk, h, List.take_length]
        · intro h
          rw [hkk, h]
      refine wpE_draw mixed (.pure 0 (.pure 1 (.pure 2 (.pure 3 (.pure 4 (.pure 5 (.pure 7 (.eff 6 [] (.eff 8 [] (.pure 9 (.pure 10 (.pure 11 (.pure 12 (.pure 14 (.pure 15 (.pure 16 (.read 17 (.eff 13 [17] (.pure 18 (.pure 19 (.pure 20 (.pure 21 (.pure 23 (.pure 24 (.pure 25 (.read 26 (.eff 22 [26] (.pure 27 (.pure 28 (.pure 29 (.pure 30 (.pure 32 (.pure 33 (.pure 34 (.read 35 (.pure 36 (.eff 31 [35] (.pure 37 (.pure 38 (.pure 39 .nil)))))))))))))))))))))))))))))))))))))))) (by kernel_rfl) ?_
      refine wpP_pure rfl rfl rfl (fun _ => x_move) ?_
      refine wpP_pure rfl rfl rfl (fun _ => x_move) ?_
      refine wpP_pure rfl rfl rfl (fun _ => (x_len_slice rfl Tryz.underlying65)) ?_
      by_cases ha : kk = (pgsL P.now.used i).length
      · skip
        refine wpP_pure rfl rfl rfl (fun _ => x_to (x_eql rfl rfl) (congrArg Value.bool (decide_eq_true (by omega)))) ?_
        refine wpP_pure rfl rfl rfl (fun _ => x_move) ?_
        refine wpP_pure rfl rfl rfl (fun _ => x_move) ?_
        refine wpP_pure rfl rfl rfl (fun _ => x_move) ?_
        refine wpP_call rfl rfl rfl C32 ((room_run (hS2.chg0 (drw _)) :)) ?_
        rintro _ w3 ⟨rfl, hS3, hc3⟩
        refine ⟨trivial, ?_⟩
        have hM3 := (hM2.chg0 (drw _)).chg0 hc3
        have hc3' : Chg [] w w3 := (hcw.tr (drw _)).tr hc3
        refine wpP_call rfl rfl rfl C92 (mRoom_ok w3 mb (.slice pp i pc) ov M hM3 (by omega)) ?_
        rintro v4 w4 ⟨hv4, hh4⟩
        refine ⟨trivial, ?_⟩
        rw [hl] at hv4
        subst hv4
        have hS4 := hS3.chg0 (Chg.heap hh4)
        have hM4 := hM3.chg0 (Chg.heap hh4)
        have hc4' : Chg [] w w4 := hc3'.tr (Chg.heap hh4)
        by_cases hb : roomN P i = roomM M i
        · skip
          refine wpP_pure rfl rfl rfl (fun _ => x_to (x_eql rfl rfl) (congrArg Value.bool (decide_eq_true (by omega)))) ?_
          refine wpP_pure rfl rfl rfl (fun _ => (x_pick_t rfl)) ?_
          refine wpP_pure rfl rfl rfl (fun _ => x_move) ?_
          refine wpP_pure rfl rfl rfl (fun _ => x_move) ?_
          refine wpP_pure rfl rfl rfl (fun _ => x_move) ?_
          refine wpP_pure rfl rfl rfl (fun _ => (x_nil rfl)) ?_
          refine wpP_pure rfl rfl rfl (fun _ => (x_fieldAddr Tryz.underlying119 rfl I34 rfl rfl)) ?_
          refine wpP_rd rfl rfl rfl Tryz.underlying34 rfl rfl (hM4.blk.c (off := 2) rfl) ?_
          refine wpP_call rfl rfl rfl C37 ((root_run hS4 :)) ?_
          rintro _ w5 ⟨rfl, hS5, hc5⟩
          have hM5 := hM4.chg0 hc5
          refine ⟨⟨hM5.blk.c (off := 2) rfl, trivial⟩, ?_⟩
          by_cases hcr : P.now.root = M.root
          · skip
            refine wpP_pure rfl rfl rfl (fun _ => x_to (x_eql32u rfl rfl) (congrArg Value.bool (decide_eq_true (hcr)))) ?_
            refine wpP_pure rfl rfl rfl (fun _ => (x_pick_t rfl)) ?_
            refine wpP_pure rfl rfl rfl (fun _ => x_move) ?_
            refine wpP_pure rfl rfl rfl (fun _ => x_move) ?_
            refine wpP_pure rfl rfl rfl (fun _ => x_move) ?_
            refine wpP_pure rfl rfl rfl (fun _ => (x_nil rfl)) ?_
            refine wpP_pure rfl rfl rfl (fun _ => (x_fieldAddr Tryz.underlying119 rfl I9 rfl rfl)) ?_
            refine wpP_rd rfl rfl rfl Tryz.underlying9 rfl rfl (hM5.blk.c (off := 4) rfl) ?_
            refine wpP_call rfl rfl rfl C38 ((meta_run hS5 :)) ?_
            rintro _ w6 ⟨rfl, hS6, hc6⟩
            have hM6 := hM5.chg0 hc6
            refine ⟨⟨hM6.blk.c (off := 4) rfl, trivial⟩, ?_⟩
            by_cases hd : P.now.txt = M.txt
            · skip
              refine wpP_pure rfl rfl rfl (fun _ => x_to (x_eqS rfl rfl) (congrArg Value.bool (decide_eq_true (hd)))) ?_
              refine wpP_pure rfl rfl rfl (fun _ => (x_pick_t rfl)) ?_
              refine wpP_pure rfl rfl rfl (fun _ => x_move) ?_
              refine wpP_pure rfl rfl rfl (fun _ => x_move) ?_
              refine wpP_pure rfl rfl rfl (fun _ => x_move) ?_
              refine wpP_pure rfl rfl rfl (fun _ => (x_nil rfl)) ?_
              refine wpP_pure rfl rfl rfl (fun _ => (x_fieldAddr Tryz.underlying119 rfl I117 rfl rfl)) ?_
              refine wpP_rd rfl rfl rfl Tryz.underlying117 rfl rfl (hM6.blk.c (off := 0) rfl) ?_
              refine wpP_pure rfl rfl rfl (fun _ => (x_len_slice rfl Tryz.underlying117)) ?_
              refine wpP_call rfl rfl rfl C31 ((len_run hS6 :)) ?_
              rintro _ w7 ⟨rfl, hS7, hc7⟩
              have hM7 := hM6.chg0 hc7
              refine ⟨⟨hM7.blk.c (off := 0) rfl, trivial⟩, ?_⟩
              refine wpP_pure rfl rfl rfl (fun _ => (x_eql rfl rfl)) ?_
              refine wpP_pure rfl rfl rfl (fun _ => (x_pick_t rfl)) ?_
              refine wpP_pure rfl rfl rfl (fun _ => x_assign) ?_
              refine wpP_nil (thenE_norm ?_)
              refine wpE_ret (fin_ret ?_)
              exact ⟨⟨true, congrArg Value.bool (decide_eq_true rfl), fun _ => ⟨hused.1 ha, hrd, hb, hcr, hd⟩, fun _ => rfl⟩, hS7, hM7, ((hc4'.tr hc5).tr hc6).tr hc7⟩
            · skip
              refine wpP_pure rfl rfl rfl (fun _ => x_to (x_eqS rfl rfl) (congrArg Value.bool (decide_eq_false (hd)))) ?_
              refine wpP_pure rfl rfl rfl (fun _ => (x_pick_t rfl)) ?_
              refine wpP_pure rfl rfl rfl (fun _ => x_move) ?_
              refine wpP_no rfl rfl rfl ?_
              refine wpP_no rfl rfl rfl ?_
              refine wpP_no rfl rfl rfl ?_
              refine wpP_no rfl rfl rfl ?_
              refine wpP_nor rfl rfl rfl ?_
              refine wpP_no rfl rfl rfl ?_
              refine wpP_noe rfl rfl rfl ?_
              refine wpP_no rfl rfl rfl ?_
              refine wpP_pure rfl rfl rfl (fun _ => (x_pick_f rfl)) ?_
              refine wpP_pure rfl rfl rfl (fun _ => x_assign) ?_
              refine wpP_nil (thenE_norm ?_)
              refine wpE_ret (fin_ret ?_)
              exact ⟨⟨false, rfl, fun h => Bool.noConfusion h, fun h => absurd h.txt hd⟩, hS6, hM6, (hc4'.tr hc5).tr hc6⟩
          · skip
            refine wpP_pure rfl rfl rfl (fun _ => x_to (x_eql32u rfl rfl) (congrArg Value.bool (decide_eq_false (hcr)))) ?_
            refine wpP_pure rfl rfl rfl (fun _ => (x_pick_t rfl)) ?_
            refine wpP_pure rfl rfl rfl (fun _ => x_move) ?_
            refine wpP_no rfl rfl rfl ?_
            refine wpP_no rfl rfl rfl ?_
            refine wpP_no rfl rfl rfl ?_
            refine wpP_no rfl rfl rfl ?_
            refine wpP_nor rfl rfl rfl ?_
            refine wpP_noe rfl rfl rfl ?_
            refine wpP_no rfl rfl rfl ?_
            refine wpP_pure rfl rfl rfl (fun _ => (x_pick_f rfl)) ?_
            refine wpP_pure rfl rfl rfl (fun _ => x_move) ?_
            refine wpP_no rfl rfl rfl ?_
            refine wpP_no rfl rfl rfl ?_
            refine wpP_no rfl rfl rfl ?_
            refine wpP_no rfl rfl rfl ?_
            refine wpP_nor rfl rfl rfl ?_
            refine wpP_no rfl rfl rfl ?_
            refine wpP_noe rfl rfl rfl ?_
            refine wpP_no rfl rfl rfl ?_
            refine wpP_pure rfl rfl rfl (fun _ => (x_pick_f rfl)) ?_
            refine wpP_pure rfl rfl rfl (fun _ => x_assign) ?_
            refine wpP_nil (thenE_norm ?_)
            refine wpE_ret (fin_ret ?_)
            exact ⟨⟨false, rfl, fun h => Bool.noConfusion h, fun h => absurd h.root hcr⟩, hS5, hM5, hc4'.tr hc5⟩
        · skip
          refine wpP_pure rfl rfl rfl (fun _ => x_to (x_eql rfl rfl) (congrArg Value.bool (decide_eq_false (by omega)))) ?_
          refine wpP_pure rfl rfl rfl (fun _ => (x_pick_t rfl)) ?_
          refine wpP_pure rfl rfl rfl (fun _ => x_move) ?_
          refine wpP_no rfl rfl rfl ?_
          refine wpP_no rfl rfl rfl ?_
          refine wpP_no rfl rfl rfl ?_
          refine wpP_no rfl rfl rfl ?_
          refine wpP_nor rfl rfl rfl ?_
          refine wpP_noe rfl rfl rfl ?_
          refine wpP_no rfl rfl rfl ?_
          refine wpP_pure rfl rfl rfl (fun _ => (x_pick_f rfl)) ?_
          refine wpP_pure rfl rfl rfl (fun _ => x_move) ?_
          refine wpP_no rfl rfl rfl ?_
          refine wpP_no rfl rfl rfl ?_
          refine wpP_no rfl rfl rfl ?_
          refine wpP_no rfl rfl rfl ?_
          refine wpP_nor rfl rfl rfl ?_
          refine wpP_noe rfl rfl rfl ?_
          refine wpP_no rfl rfl rfl ?_
          refine wpP_pure rfl rfl rfl (fun _ => (x_pick_f rfl)) ?_
          refine wpP_pure rfl rfl rfl (fun _ => x_move) ?_
          refine wpP_no rfl rfl rfl ?_
          refine wpP_no rfl rfl rfl ?_
          refine wpP_no rfl rfl rfl ?_
          refine wpP_no rfl rfl rfl ?_
          refine wpP_nor rfl rfl rfl ?_
          refine wpP_no rfl rfl rfl ?_
          refine wpP_noe rfl rfl rfl ?_
          refine wpP_no rfl rfl rfl ?_
          refine wpP_pure rfl rfl rfl (fun _ => (x_pick_f rfl)) ?_
          refine wpP_pure rfl rfl rfl (fun _ => x_assign) ?_
          refine wpP_nil (thenE_norm ?_)
          refine wpE_ret (fin_ret ?_)
          exact ⟨⟨false, rfl, fun h => Bool.noConfusion h, fun h => absurd h.room hb⟩, hS4, hM4, hc4'⟩
      · skip
        refine wpP_pure rfl rfl rfl (fun _ => x_to (x_eql rfl rfl) (congrArg Value.bool (decide_eq_false (by omega)))) ?_
        refine wpP_pure rfl rfl rfl (fun _ => x_move) ?_
        refine wpP_no rfl rfl rfl ?_
        refine wpP_no rfl rfl rfl ?_
        refine wpP_noe rfl rfl rfl ?_
        refine wpP_noe rfl rfl rfl ?_
        refine wpP_no rfl rfl rfl ?_
        refine wpP_pure rfl rfl rfl (fun _ => (x_pick_f rfl)) ?_
        refine wpP_pure rfl rfl rfl (fun _ => x_move) ?_
        refine wpP_no rfl rfl rfl ?_
        refine wpP_no rfl rfl rfl ?_
        refine wpP_no rfl rfl rfl ?_
        refine wpP_no rfl rfl rfl ?_
        refine wpP_nor rfl rfl rfl ?_
        refine wpP_noe rfl rfl rfl ?_
        refine wpP_no rfl rfl rfl ?_
        refine wpP_pure rfl rfl rfl (fun _ => (x_pick_f rfl)) ?_
        refine wpP_pure rfl rfl rfl (fun _ => x_move) ?_
        refine wpP_no rfl rfl rfl ?_
        refine wpP_no rfl rfl rfl ?_
        refine wpP_no rfl rfl rfl ?_
        refine wpP_no rfl rfl rfl ?_
        refine wpP_nor rfl rfl rfl ?_
        refine wpP_noe rfl rfl rfl ?_
        refine wpP_no rfl rfl rfl ?_
        refine wpP_pure rfl rfl rfl (fun _ => (x_pick_f rfl)) ?_
        refine wpP_pure rfl rfl rfl (fun _ => x_move) ?_
        refine wpP_no rfl rfl rfl ?_
        refine wpP_no rfl rfl rfl ?_
        refine wpP_no rfl rfl rfl ?_
        refine wpP_no rfl rfl rfl ?_
        refine wpP_nor rfl rfl rfl ?_
        refine wpP_no rfl rfl rfl ?_
        refine wpP_noe rfl rfl rfl ?_
        refine wpP_no rfl rfl rfl ?_
        refine wpP_pure rfl rfl rfl (fun _ => (x_pick_f rfl)) ?_
        refine wpP_pure rfl rfl rfl (fun _ => x_assign) ?_
        refine wpP_nil (thenE_norm ?_)
        refine wpE_ret (fin_ret ?_)
        refine ⟨⟨false, rfl, fun h => Bool.noConfusion h, fun h => absurd (hused.2 h.used) ha⟩, hS2.chg0 (drw _), hM2.chg0 (drw _), hcw.tr (drw _)⟩
end
end Go.Proofs.YtenhmbhflgnhlaaGreat

