/- every row of calls, crashes, the power going within a commit: what each tells -/
import Derived.Test.YtenhmbhflgnhlaaGreatQPager2
import Derived.Test.YtenhmbhflgnhlaaGreatSac1
namespace Go.Proofs.YtenhmbhflgnhlaaGreat
open Go Go.Sac
set_option maxRecDepth 100000
set_option maxHeartbeats 4000000
theorem sign_ok (w : World) (k : List UInt8) (hk : k.length = 32) (bv : Value) (l : List UInt8) (hb : Sl w bv l) (hl : l.length ≤ 1000000) :
    Ret Tryz.prog 126 #[arrV k, bv] w fun v w' => v = arrV (signL k l) ∧ Chg [] w w' := by
  refine enterR [.cell 4 22] Tryz.func126 rfl rfl (Nat.le_of_ble_eq_true rfl) ?_
  refine wpE_seq ?_
  refine wpE_region ?_
  refine wpL_boxA (l := k) rfl rfl ?_
  rintro w1 b1 hn1 ha1 hc1 hl1
  refine wpL_allocA (List.replicate 32 (0 : UInt8)) I22 rfl rfl rfl ?_
  rintro w2 b2 hn2 ha2 hc2 hl2
  refine wpL_nil (thenE_norm ?_)
  refine wpE_seq ?_
  refine wpE_region ?_
  refine wpL_value rfl (x_loadN 32 Tryz.underlying23 rfl I23 rfl rfl (ha1.chg0 hc2) (hk)) ?_
  refine wpL_call rfl C117 (Derive_ok k hk tSuper 0 0 rfl w2 (by decide)) ?_
  rintro _ w3 ⟨rfl, hc3⟩
  have hdl := deriveL_length k tSuper 0
  refine wpL_allocA (List.replicate 32 (0 : UInt8)) I23 rfl rfl rfl ?_
  rintro w4 b4 hn4 ha4 hc4 hl4
  refine wpL_exs rfl (x_storeN 32 I23 rfl (ha4) rfl rfl (rfl) (hdl)) ?_
  rintro w5 ⟨ha5, hc5, hs5⟩
  refine wpL_nil (thenE_norm ?_)
  refine wpE_seq ?_
  refine wpE_region ?_
  refine wpL_value rfl (x_arr_full Tryz.underlying23 I5 rfl) ?_
  refine wpL_value rfl x_move ?_
  have hc25 : Chg [] w w5 := (((hc1.tr hc2).tr hc3).tr hc4).t1 hc5 (by have := hc1.1; have := hc2.1; have := hc3.1; omega)
  refine wpL_call rfl C123 (Mac_ok _ bv _ l w5 (ha5.sl (n := 32) (c := 32) hdl (Nat.le_refl _)) (hb.mod0 hc25) (by omega) (by omega)) ?_
  rintro _ w6 ⟨rfl, hc6⟩
  have ha26 : Arr w6 b2 (List.replicate 32 (0 : UInt8)) := (((ha2.chg0 hc3).chg0 hc4).nb hc5 (by have := hc3.1; omega)).chg0 hc6
  refine wpL_exs rfl (x_storeN 32 I22 rfl (ha26) rfl rfl (rfl) (macL_length _ _)) ?_
  rintro w7 ⟨ha7, hc7, hs7⟩
  refine wpL_nil (thenE_norm ?_)
  refine wpE_ret (fin_retR ?_)
  exact ⟨[arrV (signL k l)], ⟨⟨_, rfl, run_loadN 32 Tryz.underlying22 rfl I22 rfl ha7 (macL_length _ _)⟩, trivial⟩, rfl, (hc25.tr hc6).t1 hc7 (by have := hc1.1; omega)⟩
theorem marks_ok (w : World) (r : Nat) (f : PgF) (hf : SetAt w r f) (hlt : ∀ k, f k = true → k.toNat < 400) :
    Ret Tryz.prog 125 #[.map (some r)] w fun v w' => v = arrV (marksL f) ∧ Chg [] w w' := by
  obtain ⟨m, hm, hmf⟩ := hf
  have hnd := hm.nodup
  refine enterR [.cell 2 193] Tryz.func125 rfl rfl (Nat.le_of_ble_eq_true rfl) ?_
  refine wpE_seq ?_
  refine wpE_region ?_
  refine wpL_allocA (List.replicate 50 (0 : UInt8)) I193 rfl rfl rfl ?_
  rintro w1 b1 hn1 ha1 hc1 hl1
  refine wpL_nil (thenE_norm ?_)
  refine wpE_seq ?_
  refine wpE_region ?_
  refine wpL_allocA (List.replicate 50 (0 : UInt8)) I193 rfl rfl rfl ?_
  rintro w2 b2 hn2 ha2 hc2 hl2
  refine wpL_nil (thenE_norm ?_)
  refine wpE_seq ?_
  refine wpE_seq ?_
  refine wpE_region ?_
  refine wpL_value rfl x_move ?_
  refine wpL_exv rfl (x_range Tryz.underlying121 rfl ((hm.mod hc1 (by simp)).mod hc2 (by simp))) ?_
  rintro w3 ⟨hit, hc3, hs3⟩
  refine wpL_nil (thenE_norm ?_)
  refine wpE_block ?_
  have hrl := hm.lt
  have hb1 : w.heap.size ≤ w1.heap.size := hc1.1
  refine wpE_loop [] [4, 5, 8, 9, 10, 11, 12, 13, 14, 15, 16, 17, 18, 19, 20, 21, 22] (fun n vs w' => ∃ (left : List (UInt32 × Value)) (l : List UInt8), vs = [] ∧ left.length = n ∧ IterAt w' w2.heap.size r m left ∧ Arr w' b2 l ∧ l.length = 50 ∧ (∀ j, j < 400 → bitAt l j = (f (UInt32.ofNat j) && !decide (UInt32.ofNat j ∈ left.map (·.1)))) ∧ Arr w' b1 (List.replicate 50 (0 : UInt8)) ∧ Chg [] w w') (m.length) (by kernel_rfl) ?_ ?_
  · refine ⟨m, _, by simp, rfl, hit, ha2.chg0 hc3, rfl, fun j hj => ?_, (ha1.chg0 hc2).chg0 hc3, (hc1.tr hc2).tr hc3⟩
    rw [bitAt_zero]
    cases hfj : f (UInt32.ofNat j) with
    | false => rfl
    | true =>
      have : (UInt32.ofNat j, Value.bool true) ∈ m := (mget_mem hnd).1 (by rw [hmf, if_pos hfj])
      rw [decide_eq_true (List.mem_map.2 ⟨_, this, rfl⟩)]; rfl
  · rintro n vs J w4 ⟨left, l, rfl, hln, hit4, ha4, hll, hbit, hb4, hc4⟩
    refine wpE_seq ?_
    refine wpE_region ?_
    refine wpL_next rfl (hit4) rfl ?_ ?_
    · rintro h0
      refine wpL_value rfl (x_extract rfl rfl) ?_
      refine wpL_nil (thenE_norm ?_)
      refine wpE_seq ?_
      refine wpE_cond_f (rfl) ?_
      refine wpE_exit (thenE_exit (thenE_exit (blockE_exit (thenE_norm ?_))))
      refine wpE_seq ?_
      refine wpE_region ?_
      subst h0
      have hl : l = marksL f := bits_marks hll (fun j hj => by rw [hbit j hj]; simp)
      refine wpL_value rfl (x_loadN 50 Tryz.underlying193 rfl I193 rfl rfl (ha4) (hll)) ?_
      refine wpL_exs rfl (x_storeN 50 I193 rfl (hb4) rfl rfl (rfl) (hll)) ?_
      rintro w5 ⟨ha5, hc5, hs5⟩
      refine wpL_nil (thenE_norm ?_)
      refine wpE_ret (fin_retR ?_)
      subst hl
      exact ⟨[arrV (marksL f)], ⟨⟨_, rfl, run_loadN 50 Tryz.underlying193 rfl I193 rfl ha5 hll⟩, trivial⟩, rfl, hc4.t1 hc5 hn1⟩
    · rintro a k v b' w5 hsp hit5 hcur hc5 hs5
      refine wpL_value rfl (x_extract rfl rfl) ?_
      refine wpL_nil (thenE_norm ?_)
      refine wpE_seq ?_
      refine wpE_cond_t (rfl) ?_
      refine wpE_skip (thenE_norm ?_)
      refine wpE_block ?_
      refine wpE_seq ?_
      refine wpE_region ?_
      have hsub := hit4.sub
      have hkm : (k, v) ∈ m := hsub.subset (by rw [hsp]; simp)
      have hfk : f k = true ∧ v = .bool true := by
        have h1 := (mget_mem hnd).2 hkm
        rw [hmf] at h1
        by_cases hfk : f k = true
        · rw [if_pos hfk] at h1
          exact ⟨hfk, (Option.some.inj h1).symm⟩
        · rw [if_neg hfk] at h1; cases h1
      obtain ⟨hfk, rfl⟩ := hfk
      have hk4 := hlt k hfk
      have hc45 : Chg [] w w5 := hc4.t1 hc5 (by have := hc2.1; omega)
      have hq2 : b2 ≠ w2.heap.size := by omega
      have hq1 : b1 ≠ w2.heap.size := by have := hc2.1; omega
      have ha5 := ha4.nb hc5 hq2
      have hk8 : (k / 8).toNat = k.toNat / 8 := by rw [UInt32.toNat_div]; rfl
      have hk7 : (k % 8).toNat = k.toNat % 8 := by rw [UInt32.toNat_mod]; rfl
      refine wpL_value rfl (x_entry rfl hcur) ?_
      refine wpL_value rfl (x_extract rfl rfl) (wpL_value rfl (x_extract rfl rfl) (wpL_value rfl x_assign (wpL_value rfl x_assign ?_)))
      refine wpL_nil (thenE_norm ?_)
      refine wpE_seq ?_
      refine wpE_region ?_
      refine wpL_value rfl x_move ?_
      refine wpL_nil (thenE_norm ?_)
      refine wpE_cond_t (rfl) ?_
      refine wpE_region ?_
      refine wpL_value rfl x_move (wpL_value rfl (x_quo32u (b := 8) rfl rfl (by decide)) ?_)
      refine wpL_value rfl (x_idxA (k.toNat / 8) Tryz.underlying193 I5 rfl rfl (by first | rfl | omega) (by first | assumption | omega)) ?_
      refine wpL_value rfl (x_load Tryz.underlying5 rfl rfl (ha5.c (getD_some (d := 0) (by omega)) rfl rfl)) ?_
      refine wpL_value rfl x_move (wpL_value rfl (x_rem32u (b := 8) rfl rfl (by decide)) ?_)
      refine wpL_value rfl (x_shl8u (a := 1) (s := k.toNat % 8) rfl rfl (by rw [hk7])) ?_
      refine wpL_value rfl (x_or8u rfl rfl) ?_
      refine wpL_value rfl (x_idxA (k.toNat / 8) Tryz.underlying193 I5 rfl rfl (by first | rfl | omega) (by first | assumption | omega)) ?_
      refine wpL_exs rfl (x_store1 (a := orBit (l.getD (k.toNat / 8) 0) (k.toNat % 8)) (k := k.toNat / 8) I5 rfl rfl rfl rfl (ha5) rfl (by first | assumption | omega)) ?_
      rintro w6 ⟨ha6, hc6, hs6⟩
      refine wpL_nil (blockE_norm (thenE_norm ?_))
      have hlen : (a ++ b').length + 1 = left.length := by rw [hsp]; simp; omega
      refine Exists.intro ((a ++ b').length) (And.intro (by omega) ?_)
      refine ⟨a ++ b', _, rfl, rfl, hit5.mod hc6 (by simpa using Ne.symm hq2) (by simp; omega), ha6, by rw [List.length_set]; exact hll, fun j hj => ?_, (hb4.nb hc5 hq1).nb hc6 (by omega), hc45.t1 hc6 (by omega)⟩
      have hb := bitAt_set l k.toNat j (by omega)
      have hnl : (left.map (·.1)).Nodup := hnd.sublist (hsub.map _)
      show bitAt (l.set (k.toNat / 8) (l.getD (k.toNat / 8) 0 ||| shl8 1 (k.toNat % 8))) j = _
      rw [hb, hbit j hj]
      rw [hsp] at hnl ⊢
      simp only [List.map_append, List.map_cons, List.nodup_append, List.nodup_cons] at hnl
      by_cases hjk : j = k.toNat
      · subst hjk
        rw [UInt32.ofNat_toNat, hfk, decide_eq_true rfl, Bool.true_or, Bool.true_and]
        have hnm : k ∉ (a ++ b').map (·.1) := by
          rw [List.map_append, List.mem_append]
          rintro (h | h)
          · exact hnl.2.2 k h k (by simp) rfl
          · exact hnl.2.1.1 h
        rw [decide_eq_false hnm]; rfl
      · have hne : UInt32.ofNat j ≠ k := fun h => hjk (by rw [← h, UInt32.toNat_ofNat']; omega)
        rw [decide_eq_false hjk, Bool.false_or]
        congr 2
        simp [hne]
def belowF (l : List UInt8) (n : Nat) : PgF := fun j => decide (j.toNat < n) && bitAt l j.toNat
theorem belowF_add (l : List UInt8) (n : Nat) (hn : n < 400) (h : bitAt l n = true) : addPg (belowF l n) (UInt32.ofNat n) = belowF l (n + 1) := by
  funext j
  unfold addPg belowF
  by_cases hj : j.toNat = n
  · have : j = UInt32.ofNat n := by rw [← hj, UInt32.ofNat_toNat]
    rw [decide_eq_true this, hj, h]; simp
  · have : j ≠ UInt32.ofNat n := fun e => hj (by rw [e, UInt32.toNat_ofNat']; omega)
    rw [decide_eq_false this, Bool.false_or]
    congr 1
    rw [Bool.eq_iff_iff]; simp; omega
theorem belowF_skip (l : List UInt8) (n : Nat) (h : bitAt l n = false) : belowF l n = belowF l (n + 1) := by
  funext j
  unfold belowF
  by_cases hj : j.toNat = n
  · rw [hj, h]; simp
  · congr 1
    rw [Bool.eq_iff_iff]; simp; omega
theorem belowF_none (l : List UInt8) : belowF l 0 = noPg := by funext j; simp [belowF, noPg]
theorem pages_ok (w : World) (l : List UInt8) (hl : l.length = 50) :
    Ret Tryz.prog 133 #[arrV l] w fun v w' => ∃ r, v = .map (some r) ∧ SetAt w' r (pagesF l) ∧ Chg [] w w' ∧ w.heap.size ≤ r := by
  refine enter [2] Tryz.func133 rfl rfl (Nat.le_of_ble_eq_true rfl) ?_
  refine wpE_seq ?_
  refine wpE_region ?_
  refine wpL_boxA (l := l) rfl rfl ?_
  rintro w1 b1 hn1 ha1 hc1 hl1
  refine wpL_value rfl x_assign ?_
  refine wpL_nil (thenE_norm ?_)
  refine wpE_seq ?_
  refine wpE_region ?_
  refine wpL_exw rfl (x_mkM UInt32) ?_
  rintro _ w2 ⟨r, rfl, hr, hm2, hc2, hl2⟩
  refine wpL_value rfl x_assign ?_
  refine wpL_nil (thenE_norm ?_)
  refine wpE_seq ?_
  refine wpE_seq ?_
  refine wpE_region ?_
  refine wpL_value rfl (x_loadN 50 Tryz.underlying193 rfl I193 rfl rfl (ha1.chg0 hc2) (hl)) ?_
  refine wpL_value rfl x_move ?_
  refine wpL_nil (thenE_norm ?_)
  refine wpE_block ?_
  have hs2 := SetAt.nil hm2
  rw [← belowF_none l] at hs2
  refine wpE_loop [9] [4, 5, 6, 9, 10, 11, 12, 13, 14, 15, 16, 17, 18, 19, 20, 21, 22, 23, 24, 25, 26, 27, 28] (fun n vs w' => ∃ i : Nat, vs = [.int .i64 i] ∧ i + n = 50 ∧ SetAt w' r (belowF l (8 * i)) ∧ Chg [] w w') (50) (by kernel_rfl) ?_ ?_
  · exact ⟨0, rfl, rfl, hs2, hc1.tr hc2⟩
  · rintro n vs J w3 ⟨i, rfl, hi, hs3, hc3⟩
    refine wpE_seq ?_
    refine wpE_region ?_
    refine wpL_value rfl (x_lss rfl rfl) ?_
    refine wpL_nil (thenE_norm ?_)
    refine wpE_seq ?_
    refine wpE_cond_d rfl (fun h => ?_) (fun h => ?_)
    · skip
      refine wpE_skip (thenE_norm ?_)
      refine wpE_seq ?_
      refine wpE_block ?_
      refine wpE_seq ?_
      refine wpE_region ?_
      refine wpL_value rfl x_move ?_
      have hob1 : ∃ q, n = q + 1 := ⟨n - 1, by omega⟩
      obtain ⟨n, rfl⟩ := hob1
      have hli : l[i]? = some (l.getD i 0) := getD_some (by omega)
      refine wpL_value rfl (x_idxV (i) Tryz.underlying193 Tryz.underlying5 rfl I5 rfl rfl rfl (by first | rfl | omega) (by omega) (hli) rfl) ?_
      refine wpL_value rfl x_assign (wpL_value rfl x_assign ?_)
      refine wpL_nil (thenE_norm ?_)
      refine wpE_seq ?_
      refine wpE_region ?_
      refine wpL_value rfl x_move ?_
      refine wpL_nil (thenE_norm ?_)
      refine wpE_block ?_
      refine wpE_loop [13] [6, 13, 14, 15, 16, 17, 18, 19, 20, 21, 22, 23, 24, 25, 26, 27] (fun n2 vs w' => ∃ k : Nat, vs = [.int .i64 k] ∧ k + n2 = 8 ∧ SetAt w' r (belowF l (8 * i + k)) ∧ Chg [] w w') (8) (by kernel_rfl) ?_ ?_
      · exact ⟨0, rfl, rfl, hs3, hc3⟩
      · rintro n2 vs2 J2 w4 ⟨k, rfl, hk, hs4, hc4⟩
        refine wpE_seq ?_
        refine wpE_region ?_
        refine wpL_value rfl (x_lss rfl rfl) ?_
        refine wpL_nil (thenE_norm ?_)
        refine wpE_seq ?_
        refine wpE_cond_d rfl (fun h8 => ?_) (fun h8 => ?_)
        · skip
          refine wpE_skip (thenE_norm ?_)
          refine wpE_seq ?_
          refine wpE_block ?_
          refine wpE_seq ?_
          refine wpE_region ?_
          refine wpL_value rfl x_move (wpL_value rfl x_assign ?_)
          refine wpL_nil (thenE_norm ?_)
          refine wpE_seq ?_
          refine wpE_region ?_
          refine wpL_value rfl x_move (wpL_value rfl x_move ?_)
          have hob2 : ∃ q, n2 = q + 1 := ⟨n2 - 1, by omega⟩
          obtain ⟨n2, rfl⟩ := hob2
          have hbk : bitAt l (8 * i + k) = (l.getD i 0).toNat.testBit k := by
            unfold bitAt
            rw [show (8 * i + k) / 8 = i by omega, show (8 * i + k) % 8 = k by omega]
          have hb1 := bit_one (l.getD i 0) k (by omega)
          refine wpL_value rfl (x_shr8u rfl rfl (s := k) rfl) ?_
          refine wpL_value rfl (x_and8u (b := 1) rfl rfl) (wpL_value rfl (x_eql8u (b := 1) rfl rfl) ?_)
          refine wpL_nil (thenE_norm ?_)
          refine wpE_cond_d rfl (fun hbit => ?_) (fun hbit => ?_)
          · skip
            refine wpE_region ?_
            refine wpL_value rfl x_move (wpL_value rfl x_move (wpL_value rfl (x_mul64 rfl rfl (by omega)) (wpL_value rfl x_move (wpL_value rfl (x_add64 rfl rfl (by omega)) (wpL_value rfl (x_conv32u rfl Tryz.underlying3 Tryz.underlying34) ?_)))))
            have hbit : bitAt l (8 * i + k) = true := by rw [hbk]; exact hb1.1 hbit
            obtain ⟨m, hm, hml⟩ := hs4
            have hkey : toU32 (8 * (i : Int) + (k : Int)) = UInt32.ofNat (8 * i + k) := by
              rw [show 8 * (i : Int) + (k : Int) = ((8 * i + k : Nat) : Int) by omega, toU32_nat]
            refine wpL_exs rfl (x_mapUpdate (k := toU32 (8 * (i : Int) + (k : Int))) Tryz.underlying121 (keyOk_u32 Tryz.underlying34) rfl rfl rfl hm) ?_
            rintro w5 ⟨hm5, hc5, hs5⟩
            refine wpL_nil (blockE_norm (thenE_norm ?_))
            refine wpE_region ?_
            refine wpL_value rfl (x_add64 rfl rfl (by omega)) (wpL_value rfl x_move ?_)
            refine wpL_nil (thenE_norm ?_)
            have hs5' : SetAt w5 r (belowF l (8 * i + (k + 1))) := ⟨_, hm5, by
              rw [hkey]
              have := set_law hml (UInt32.ofNat (8 * i + k))
              rw [belowF_add l _ (by omega) hbit] at this
              exact this⟩
            refine Exists.intro (n2) (And.intro (by omega) ?_)
            exact ⟨k + 1, vs_cons (int_eq (by omega)) vs_nil, by omega, hs5', hc4.t1 hc5 (by have := hc1.1; omega)⟩
          · skip
            refine wpE_skip (blockE_norm (thenE_norm ?_))
            refine wpE_region ?_
            refine wpL_value rfl (x_add64 rfl rfl (by omega)) (wpL_value rfl x_move ?_)
            refine wpL_nil (thenE_norm ?_)
            have hbit : bitAt l (8 * i + k) = false := by
              rw [hbk]
              cases hc : (l.getD i 0).toNat.testBit k with
              | false => rfl
              | true => exact absurd (hb1.2 hc) hbit
            refine Exists.intro (n2) (And.intro (by omega) ?_)
            exact ⟨k + 1, vs_cons (int_eq (by omega)) vs_nil, by omega, by rw [← Nat.add_assoc, ← belowF_skip l _ hbit]; exact hs4, hc4⟩
        · skip
          refine wpE_exit (thenE_exit (thenE_exit (blockE_exit (blockE_norm (thenE_norm ?_)))))
          refine wpE_region ?_
          refine wpL_value rfl (x_add64 rfl rfl (by omega)) (wpL_value rfl x_move ?_)
          refine wpL_nil (thenE_norm ?_)
          refine Exists.intro (n) (And.intro (by omega) ?_)
          exact ⟨i + 1, vs_cons (int_eq (by omega)) vs_nil, by omega, by rw [show 8 * (i + 1) = 8 * i + k by omega]; exact hs4, hc4⟩
    · skip
      refine wpE_exit (thenE_exit (thenE_exit (blockE_exit (thenE_norm ?_))))
      refine wpE_seq ?_
      refine wpE_region ?_
      refine wpL_value rfl x_move (wpL_value rfl x_assign ?_)
      refine wpL_nil (thenE_norm ?_)
      refine wpE_ret (fin_ret ?_)
      have h0 : i = 50 := by omega
      subst h0
      exact ⟨r, rfl, hs3, hc3, by have := hc1.1; omega⟩
end Go.Proofs.YtenhmbhflgnhlaaGreat

