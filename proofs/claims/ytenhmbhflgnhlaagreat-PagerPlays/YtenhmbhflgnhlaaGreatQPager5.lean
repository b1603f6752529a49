/- every row of calls, crashes, the power going within a commit: what each tells -/
import Derived.Test.YtenhmbhflgnhlaaGreatQPager4
namespace Go.Proofs.YtenhmbhflgnhlaaGreat
open Go Go.Sac
set_option maxRecDepth 100000
set_option maxHeartbeats 4000000
def sup0C : List Value := [.int .u32 0, str [], .map none, .map none, .int .u64 0, .int .u32 0]
def parV (k b : List UInt8) (n : Nat) (v : Value) (w : World) : Prop :=
  (parsedL k b = none ∧ ∃ cs : List Value, cs.length = 6 ∧ (∀ q ∈ cs, isCell q = true) ∧ v = .tuple #[.agg cs.toArray, .bool false]) ∨
  (∃ s u r, parsedL k b = some s ∧ v = .tuple #[supV s u r, .bool true] ∧ SetAt w u s.used ∧ SetAt w r s.written ∧ n ≤ u ∧ n ≤ r ∧ u ≠ r)
theorem parsed_none {k b : List UInt8} (h : b.length < 56 ∨ 200 < txN b ∨ b.length < 150 + txN b) : parsedL k b = none := by
  unfold parsedL; rw [if_pos h]
theorem parsed_ok (w : World) (k : List UInt8) (hk : k.length = 32) (bv : Value) (b : List UInt8) (hb : Sl w bv b) (hl : b.length ≤ 1000) (h0 : b = [] ∨ 56 ≤ b.length) :
    Ret Tryz.prog 114 #[arrV k, bv] w fun v w' => parV k b w.heap.size v w' ∧ Chg [] w w' := by
  obtain ⟨pb, cb, rfl⟩ := hb.form rfl
  refine enterR [.cell 4 125, .tmp 5] Tryz.func114 rfl rfl (Nat.le_of_ble_eq_true rfl) ?_
  refine wpE_seq ?_
  refine wpE_region ?_
  refine wpL_boxA (l := k) rfl rfl ?_
  rintro w1 b1 hn1 ha1 hc1 hl1
  refine wpL_exw rfl (x_allocB (l := sup0C) I125 rfl rfl) ?_
  rintro _ w2 ⟨b4, rfl, hn2, hB2, hc2, hl2⟩
  refine wpL_value rfl x_assign ?_
  refine wpL_nil (thenE_norm ?_)
  refine wpE_seq ?_
  refine wpE_region ?_
  refine wpL_exw rfl (x_allocB (l := sup0C) I125 rfl rfl) ?_
  rintro _ w3 ⟨b6, rfl, hn3, hB3, hc3, hl3⟩
  refine wpL_nil (thenE_norm ?_)
  refine wpE_seq ?_
  refine wpE_region ?_
  refine wpL_value rfl x_move ?_
  have hc03 : Chg [] w w3 := (hc1.tr hc2).tr hc3
  have hb3 := hb.mod0 hc03
  refine wpL_call rfl C81 (Get_ok _ b 8 w3 hb3 (by decide) (by omega)) ?_
  rintro v4 w4 ⟨hv4, hh4⟩
  unfold getV at hv4
  by_cases hz : b = []
  · skip
    rw [if_pos (by rw [hz]; decide)] at hv4
    subst hv4
    have hb4 := hb3.heap hh4
    refine wpL_value rfl x_move (wpL_value rfl (x_extract rfl rfl) (wpL_value rfl (x_extract rfl rfl) (wpL_value rfl (x_extract rfl rfl) (wpL_value rfl x_assign (wpL_value rfl x_assign (wpL_value rfl x_assign ?_))))))
    refine wpL_nil (thenE_norm ?_)
    refine wpE_seq ?_
    refine wpE_region ?_
    refine wpL_value rfl x_move ?_
    refine wpL_call rfl C81 (Get_ok _ b 4 w4 hb4 (by decide) (by omega)) ?_
    rintro v5 w5 ⟨hv5, hh5⟩
    unfold getV at hv5
    rw [if_pos (by rw [hz]; decide)] at hv5
    subst hv5
    have hb5 := hb4.heap hh5
    refine wpL_value rfl x_move (wpL_value rfl (x_extract rfl rfl) (wpL_value rfl (x_extract rfl rfl) (wpL_value rfl (x_extract rfl rfl) (wpL_value rfl x_assign (wpL_value rfl x_assign (wpL_value rfl x_assign ?_))))))
    refine wpL_nil (thenE_norm ?_)
    refine wpE_seq ?_
    refine wpE_region ?_
    refine wpL_value rfl x_move ?_
    refine wpL_call rfl C81 (Get_ok _ b 4 w5 hb5 (by decide) (by omega)) ?_
    rintro v6 w6 ⟨hv6, hh6⟩
    unfold getV at hv6
    rw [if_pos (by rw [hz]; decide)] at hv6
    subst hv6
    have hb6 := hb5.heap hh6
    refine wpL_value rfl x_move (wpL_value rfl (x_extract rfl rfl) (wpL_value rfl (x_extract rfl rfl) (wpL_value rfl (x_extract rfl rfl) (wpL_value rfl x_assign (wpL_value rfl x_assign (wpL_value rfl x_assign ?_))))))
    refine wpL_nil (thenE_norm ?_)
    refine wpE_seq ?_
    refine wpE_region ?_
    refine wpL_value rfl x_move ?_
    refine wpL_call rfl C132 (GetText_ok _ b 200 w6 hb6 (by omega) (by decide)) ?_
    rintro v7 w7 ⟨hv7, hh7⟩
    unfold getTV at hv7
    rw [if_pos (.inl (by rw [hz]; decide))] at hv7
    obtain ⟨e, he, rfl⟩ := hv7
    refine wpL_value rfl x_move (wpL_value rfl (x_extract rfl rfl) (wpL_value rfl (x_extract rfl rfl) (wpL_value rfl (x_extract rfl rfl) (wpL_value rfl x_assign (wpL_value rfl x_assign (wpL_value rfl x_assign ?_))))))
    refine wpL_nil (thenE_norm ?_)
    refine wpE_seq ?_
    refine wpE_region ?_
    refine wpL_allocA (List.replicate 50 (0 : UInt8)) I193 rfl rfl rfl ?_
    rintro w8 b16 hn8 ha8 hc8 hl8
    refine wpL_allocA (List.replicate 50 (0 : UInt8)) I193 rfl rfl rfl ?_
    rintro w9 b17 hn9 ha9 hc9 hl9
    refine wpL_nil (thenE_norm ?_)
    refine wpE_seq ?_
    refine wpE_region ?_
    refine wpL_allocA (List.replicate 32 (0 : UInt8)) I22 rfl rfl rfl ?_
    rintro w10 b18 hn10 ha10 hc10 hl10
    refine wpL_nil (thenE_norm ?_)
    refine wpE_seq ?_
    refine wpE_seq ?_
    refine wpE_region ?_
    refine wpL_value rfl x_move ?_
    refine wpL_value rfl (x_to (x_neq rfl rfl) (congrArg Value.bool (decide_eq_true (he)))) ?_
    refine wpL_value rfl x_move (wpL_no rfl rfl (wpL_no rfl rfl (wpL_no rfl rfl (wpL_value rfl (x_pick_t rfl) ?_))))
    refine wpL_nil (thenE_norm ?_)
    refine wpE_cond_t (rfl) ?_
    refine wpE_seq ?_
    refine wpE_region ?_
    have hc310 : Chg [] w3 w10 := ((((((Chg.heap (S := []) hh4).tr (Chg.heap hh5)).tr (Chg.heap hh6)).tr (Chg.heap hh7)).tr hc8).tr hc9).tr hc10
    have hB10 := hB3.chg0 hc310
    have hB410 := hB2.chg0 (hc3.tr hc310)
    refine wpL_value rfl (x_loadA Tryz.underlying125 rfl I125 rfl (hB10.at (l := sup0C) (off := 0) rfl) rfl) ?_
    refine wpL_exs rfl (x_storeB (l := sup0C) I125 rfl rfl hB410 rfl rfl (by decide) (by decide) (spl_all rfl)) ?_
    rintro w11 ⟨hB11, hc11, hs11⟩
    refine wpL_value rfl x_assign ?_
    refine wpL_nil (thenE_norm ?_)
    refine wpE_ret (thenE_ret (fin_retR ?_))
    refine ⟨[.agg sup0C.toArray, .bool false], ⟨⟨_, rfl, run_loadVarA Tryz.underlying125 rfl I125 (hB11.at (l := sup0C) (off := 0) rfl) rfl⟩, rfl, trivial⟩, ?_, (hc03.tr hc310).t1 hc11 (by have := hc1.1; omega)⟩
    exact .inl ⟨parsed_none (.inl (by rw [hz]; decide)), sup0C, rfl, by decide, rfl⟩
  · skip
    have h56 : 56 ≤ b.length := h0.resolve_left hz
    rw [if_neg (by omega)] at hv4
    have hob1 : ∃ cu : UInt64, cu = UInt64.ofNat (ofBe (b.take 8)) := ⟨_, rfl⟩
    obtain ⟨cu, hcu⟩ := hob1
    rw [← hcu] at hv4
    obtain ⟨r4, rfl, hs4, hbl4⟩ := hv4
    refine wpL_value rfl x_move (wpL_value rfl (x_extract rfl rfl) (wpL_value rfl (x_extract rfl rfl) (wpL_value rfl (x_extract rfl rfl) (wpL_value rfl x_assign (wpL_value rfl x_assign (wpL_value rfl x_assign ?_))))))
    refine wpL_nil (thenE_norm ?_)
    refine wpE_seq ?_
    refine wpE_region ?_
    refine wpL_value rfl x_move ?_
    refine wpL_call rfl C81 (Get_ok _ (b.drop 8) 4 w4 hs4 (by decide) (by rw [List.length_drop]; omega)) ?_
    rintro v5 w5 ⟨hv5, hh5⟩
    unfold getV at hv5
    rw [if_neg (by rw [List.length_drop]; omega)] at hv5
    have hob2 : ∃ eu : UInt64, eu = UInt64.ofNat (ofBe ((b.drop 8).take 4)) := ⟨_, rfl⟩
    obtain ⟨eu, heu⟩ := hob2
    rw [← heu] at hv5
    obtain ⟨r5, rfl, hs5, hbl5⟩ := hv5
    rw [List.drop_drop] at hs5
    refine wpL_value rfl x_move (wpL_value rfl (x_extract rfl rfl) (wpL_value rfl (x_extract rfl rfl) (wpL_value rfl (x_extract rfl rfl) (wpL_value rfl x_assign (wpL_value rfl x_assign (wpL_value rfl x_assign ?_))))))
    refine wpL_nil (thenE_norm ?_)
    refine wpE_seq ?_
    refine wpE_region ?_
    refine wpL_value rfl x_move ?_
    refine wpL_call rfl C81 (Get_ok _ (b.drop (8 + 4)) 4 w5 hs5 (by decide) (by rw [List.length_drop]; omega)) ?_
    rintro v6 w6 ⟨hv6, hh6⟩
    unfold getV at hv6
    rw [if_neg (by rw [List.length_drop]; omega)] at hv6
    have hob3 : ∃ ru : UInt64, ru = UInt64.ofNat (ofBe ((b.drop (8 + 4)).take 4)) := ⟨_, rfl⟩
    obtain ⟨ru, hru⟩ := hob3
    rw [← hru] at hv6
    obtain ⟨r6, rfl, hs6, hbl6⟩ := hv6
    rw [List.drop_drop] at hs6
    refine wpL_value rfl x_move (wpL_value rfl (x_extract rfl rfl) (wpL_value rfl (x_extract rfl rfl) (wpL_value rfl (x_extract rfl rfl) (wpL_value rfl x_assign (wpL_value rfl x_assign (wpL_value rfl x_assign ?_))))))
    refine wpL_nil (thenE_norm ?_)
    refine wpE_seq ?_
    refine wpE_region ?_
    refine wpL_value rfl x_move ?_
    refine wpL_call rfl C132 (GetText_ok _ (b.drop (8 + 4 + 4)) 200 w6 hs6 (by rw [List.length_drop]; omega) (by decide)) ?_
    rintro v7 w7 ⟨hv7, hh7⟩
    have htx : ofBe ((b.drop (8 + 4 + 4)).take 2) = txN b := rfl
    have hdl : (b.drop (8 + 4 + 4)).length = b.length - 16 := List.length_drop
    unfold getTV at hv7
    rw [htx, hdl] at hv7
    have hc37 : Chg [] w3 w7 := (((Chg.heap (S := []) hh4).tr (Chg.heap hh5)).tr (Chg.heap hh6)).tr (Chg.heap hh7)
    by_cases hbad : b.length - 16 < 2 ∨ 200 < txN b ∨ b.length - 16 < 2 + txN b
    · skip
      rw [if_pos hbad] at hv7
      obtain ⟨e, he, rfl⟩ := hv7
      refine wpL_value rfl x_move (wpL_value rfl (x_extract rfl rfl) (wpL_value rfl (x_extract rfl rfl) (wpL_value rfl (x_extract rfl rfl) (wpL_value rfl x_assign (wpL_value rfl x_assign (wpL_value rfl x_assign ?_))))))
      refine wpL_nil (thenE_norm ?_)
      refine wpE_seq ?_
      refine wpE_region ?_
      refine wpL_allocA (List.replicate 50 (0 : UInt8)) I193 rfl rfl rfl ?_
      rintro w8 b16 hn8 ha8 hc8 hl8
      refine wpL_allocA (List.replicate 50 (0 : UInt8)) I193 rfl rfl rfl ?_
      rintro w9 b17 hn9 ha9 hc9 hl9
      refine wpL_nil (thenE_norm ?_)
      refine wpE_seq ?_
      refine wpE_region ?_
      refine wpL_allocA (List.replicate 32 (0 : UInt8)) I22 rfl rfl rfl ?_
      rintro w10 b18 hn10 ha10 hc10 hl10
      refine wpL_nil (thenE_norm ?_)
      refine wpE_seq ?_
      refine wpE_seq ?_
      refine wpE_region ?_
      refine wpL_value rfl x_move ?_
      refine wpL_value rfl (x_to (x_neq rfl rfl) (congrArg Value.bool (decide_eq_true (he)))) ?_
      refine wpL_value rfl x_move (wpL_no rfl rfl (wpL_no rfl rfl (wpL_no rfl rfl (wpL_value rfl (x_pick_t rfl) ?_))))
      refine wpL_nil (thenE_norm ?_)
      refine wpE_cond_t (rfl) ?_
      refine wpE_seq ?_
      refine wpE_region ?_
      have hc310 : Chg [] w3 w10 := ((hc37.tr hc8).tr hc9).tr hc10
      have hB10 := hB3.chg0 hc310
      have hB410 := hB2.chg0 (hc3.tr hc310)
      refine wpL_value rfl (x_loadA Tryz.underlying125 rfl I125 rfl (hB10.at (l := sup0C) (off := 0) rfl) rfl) ?_
      refine wpL_exs rfl (x_storeB (l := sup0C) I125 rfl rfl hB410 rfl rfl (by decide) (by decide) (spl_all rfl)) ?_
      rintro w11 ⟨hB11, hc11, hs11⟩
      refine wpL_value rfl x_assign ?_
      refine wpL_nil (thenE_norm ?_)
      refine wpE_ret (thenE_ret (fin_retR ?_))
      refine ⟨[.agg sup0C.toArray, .bool false], ⟨⟨_, rfl, run_loadVarA Tryz.underlying125 rfl I125 (hB11.at (l := sup0C) (off := 0) rfl) rfl⟩, rfl, trivial⟩, ?_, (hc03.tr hc310).t1 hc11 (by have := hc1.1; omega)⟩
      exact .inl ⟨parsed_none (by omega), sup0C, rfl, by decide, rfl⟩
    · skip
      rw [if_neg hbad] at hv7
      have htxt : ((b.drop (8 + 4 + 4)).drop 2).take (txN b) = (b.drop 18).take (txN b) := by rw [List.drop_drop]
      rw [htxt] at hv7
      obtain ⟨r7, rfl, hs7, hbl7⟩ := hv7
      rw [List.drop_drop, show 8 + 4 + 4 + (2 + txN b) = 18 + txN b by omega] at hs7
      have hd7 : (b.drop (18 + txN b)).length = b.length - (18 + txN b) := List.length_drop
      have hob4 := hs7.form hd7
      obtain ⟨p7, c7, rfl⟩ := hob4
      refine wpL_value rfl x_move (wpL_value rfl (x_extract rfl rfl) (wpL_value rfl (x_extract rfl rfl) (wpL_value rfl (x_extract rfl rfl) (wpL_value rfl x_assign (wpL_value rfl x_assign (wpL_value rfl x_assign ?_))))))
      refine wpL_nil (thenE_norm ?_)
      refine wpE_seq ?_
      refine wpE_region ?_
      refine wpL_allocA (List.replicate 50 (0 : UInt8)) I193 rfl rfl rfl ?_
      rintro w8 b16 hn8 ha8 hc8 hl8
      refine wpL_allocA (List.replicate 50 (0 : UInt8)) I193 rfl rfl rfl ?_
      rintro w9 b17 hn9 ha9 hc9 hl9
      refine wpL_nil (thenE_norm ?_)
      refine wpE_seq ?_
      refine wpE_region ?_
      refine wpL_allocA (List.replicate 32 (0 : UInt8)) I22 rfl rfl rfl ?_
      rintro w10 b18 hn10 ha10 hc10 hl10
      refine wpL_nil (thenE_norm ?_)
      refine wpE_seq ?_
      refine wpE_seq ?_
      refine wpE_region ?_
      refine wpL_value rfl x_move ?_
      have hc710 : Chg [] w7 w10 := (hc8.tr hc9).tr hc10
      have hc310 : Chg [] w3 w10 := hc37.tr hc710
      refine wpL_value rfl (x_to (x_neq rfl rfl) (congrArg Value.bool (decide_eq_false (fun h => h rfl)))) ?_
      refine wpL_value rfl x_move (wpL_yes rfl (wpL_value rfl x_move (wpL_yes rfl (wpL_value rfl (x_len_slice rfl Tryz.underlying41) (wpL_yes rfl (wpL_value rfl (x_lss rfl rfl) (wpL_value rfl (x_pick_f rfl) ?_)))))))
      refine wpL_nil (thenE_norm ?_)
      refine wpE_cond_d rfl (fun hsh => ?_) (fun hsh => ?_)
      · skip
        refine wpE_seq ?_
        refine wpE_region ?_
        have hB10 := hB3.chg0 hc310
        have hB410 := hB2.chg0 (hc3.tr hc310)
        refine wpL_value rfl (x_loadA Tryz.underlying125 rfl I125 rfl (hB10.at (l := sup0C) (off := 0) rfl) rfl) ?_
        refine wpL_exs rfl (x_storeB (l := sup0C) I125 rfl rfl hB410 rfl rfl (by decide) (by decide) (spl_all rfl)) ?_
        rintro w11 ⟨hB11, hc11, hs11⟩
        refine wpL_value rfl x_assign ?_
        refine wpL_nil (thenE_norm ?_)
        refine wpE_ret (thenE_ret (fin_retR ?_))
        refine ⟨[.agg sup0C.toArray, .bool false], ⟨⟨_, rfl, run_loadVarA Tryz.underlying125 rfl I125 (hB11.at (l := sup0C) (off := 0) rfl) rfl⟩, rfl, trivial⟩, ?_, (hc03.tr hc310).t1 hc11 (by have := hc1.1; omega)⟩
        exact .inl ⟨parsed_none (by omega), sup0C, rfl, by decide, rfl⟩
      · skip
        refine wpE_skip (thenE_norm ?_)
        refine wpE_seq ?_
        refine wpE_region ?_
        refine wpL_value rfl x_move (wpL_value rfl (x_len_slice rfl Tryz.underlying41) (wpL_value rfl x_move (wpL_value rfl (x_len_slice rfl Tryz.underlying41) (wpL_value rfl (x_sub64 rfl rfl (by omega)) (wpL_value rfl (x_add64 rfl rfl (by omega)) (wpL_value rfl (x_add64 rfl rfl (by omega)) (wpL_value rfl x_assign ?_)))))))
        refine wpL_nil (thenE_norm ?_)
        refine wpE_seq ?_
        refine wpE_region ?_
        have hbl : 150 + txN b ≤ b.length := by omega
        have hblt := hb.lt
        have hw3 := hc03.1
        have hw7 := hc37.1
        have k1 := hc1.1
        have k2 := hc2.1
        have k3 := hc3.1
        have k8 := hc8.1
        have k9 := hc9.1
        have k10 := hc10.1
        have hblk : ∀ x ∈ blkOf (.slice p7 (b.length - (18 + txN b)) c7), x < w.heap.size := fun x hx => hblt x (by
          have hbb : blkOf (.slice p7 (b.length - (18 + txN b)) c7) = blkOf (.slice pb b.length cb) := hbl7.trans (hbl6.trans (hbl5.trans hbl4))
          rw [← hbb]; exact hx)
        have hsx : ∀ {w' : World}, Chg [b16, b17, b18, b6] w7 w' → Sl w' (.slice p7 (b.length - (18 + txN b)) c7) (b.drop (18 + txN b)) := fun hc => hs7.mod hc (fun x hx h => by
          have := hblk x hx
          simp only [List.mem_cons, List.not_mem_nil, or_false] at h
          omega)
        refine wpL_value rfl (x_arr_full Tryz.underlying193 I5 rfl) ?_
        refine wpL_value rfl x_move ?_
        refine wpL_exv rfl (x_copyArr (k := 0) Tryz.underlying41 I5 rfl rfl rfl rfl ((hs7.mod0 hc710).src) ((ha8.chg0 hc9).chg0 hc10) (by first | (simp; done) | omega)) ?_
        rintro w11 ⟨ha11, hc11, hs11⟩
        refine wpL_nil (thenE_norm ?_)
        refine wpE_seq ?_
        have hu50 : spl (List.replicate 50 (0 : UInt8)) 0 ((b.drop (18 + txN b)).take (min (b.drop (18 + txN b)).length 50)) = (b.drop (18 + txN b)).take 50 := by
          rw [hd7, Nat.min_eq_right (by omega)]
          exact spl_all (by rw [List.length_take, hd7, List.length_replicate]; omega)
        rw [hu50] at ha11
        have hc711 : Chg [b16, b17, b18, b6] w7 w11 := (hc710.mono (by simp)).tr (hc11.mono (by simp))
        refine wpE_draw mixed (.pure 0 (.pure 1 (.pure 2 (.eff 3 [] .nil)))) (by kernel_rfl) ?_
        refine wpP_pure rfl rfl rfl (fun _ => x_arr_full Tryz.underlying193 I5 rfl) ?_
        refine wpP_pure rfl rfl rfl (fun _ => x_move) ?_
        refine wpP_ex rfl rfl rfl (x_from 50 Tryz.underlying41 I5 rfl hs7 rfl rfl rfl (by omega)) ?_
        rintro _ ⟨⟨p12, c12, rfl⟩, hs12, hbl12⟩
        have hd12 : ((b.drop (18 + txN b)).drop 50).length = b.length - (68 + txN b) := by rw [List.length_drop, hd7]; omega
        have hs12' := hs12.mod hc711 (fun x hx h => by
          have hbb : blkOf (.slice p12 ((b.drop (18 + txN b)).length - 50) c12) = blkOf (.slice p7 (b.length - (18 + txN b)) c7) := hbl12
          have := hblk x (by rw [← hbb]; exact hx)
          simp only [List.mem_cons, List.not_mem_nil, or_false] at h
          omega)
        refine wpP_exv rfl rfl rfl (x_copyArr (k := 0) Tryz.underlying41 I5 rfl rfl rfl rfl ((hs12'.mod0 (drw _)).src) (((ha9.chg0 hc10).nb hc11 (by omega)).chg0 (drw _)) (by first | (simp; done) | omega)) ?_
        rintro w12 ⟨ha12, hc12, hs12z⟩
        refine ⟨trivial, ?_⟩
        refine wpP_nil (thenE_norm ?_)
        refine wpE_seq ?_
        have hc12 : Chg [b17] w11 w12 := (drw w11).tr0' hc12
        have hw50 : spl (List.replicate 50 (0 : UInt8)) 0 (((b.drop (18 + txN b)).drop 50).take (min ((b.drop (18 + txN b)).drop 50).length 50)) = (b.drop (68 + txN b)).take 50 := by
          rw [hd12, Nat.min_eq_right (by omega), List.drop_drop, show 18 + txN b + 50 = 68 + txN b by omega]
          exact spl_all (by rw [List.length_take, List.length_drop, List.length_replicate]; omega)
        rw [hw50] at ha12
        have hc712 : Chg [b16, b17, b18, b6] w7 w12 := hc711.tr (hc12.mono (by simp))
        have hc012 : Chg [b16, b17, b18, b6] w w12 := ((hc03.tr hc37).mono (by simp)).tr hc712
        have hbx : ∀ {w' : World}, Chg [b16, b17, b18, b6] w w' → Sl w' (.slice pb b.length cb) b := fun hc => hb.mod hc (fun x hx h => by
          have := hblt x hx
          simp only [List.mem_cons, List.not_mem_nil, or_false] at h
          omega)
        refine wpE_draw mixed (.pure 0 (.pure 1 (.pure 2 (.pure 3 (.eff 4 [] .nil))))) (by kernel_rfl) ?_
        refine wpP_pure rfl rfl rfl (fun _ => x_arr_full Tryz.underlying22 I5 rfl) ?_
        refine wpP_pure rfl rfl rfl (fun _ => x_move) ?_
        refine wpP_pure rfl rfl rfl (fun _ => x_move) ?_
        refine wpP_ex rfl rfl rfl (x_from (118 + txN b) Tryz.underlying41 I5 rfl (hbx hc012) rfl rfl (by omega) (by omega)) ?_
        rintro _ ⟨⟨p13, c13, rfl⟩, hs13, hbl13⟩
        have hd13 : (b.drop (118 + txN b)).length = b.length - (118 + txN b) := List.length_drop
        refine wpP_exv rfl rfl rfl (x_copyArr (k := 0) Tryz.underlying41 I5 rfl rfl rfl rfl ((hs13.mod0 (drw _)).src) ((((ha10.nb hc11 (by omega)).nb hc12 (by omega))).chg0 (drw _)) (by first | (simp; done) | omega)) ?_
        rintro w13 ⟨ha13, hc13, hs13z⟩
        refine ⟨trivial, ?_⟩
        refine wpP_nil (thenE_norm ?_)
        refine wpE_seq ?_
        have hc13 : Chg [b18] w12 w13 := (drw w12).tr0' hc13
        have ht32 : spl (List.replicate 32 (0 : UInt8)) 0 ((b.drop (118 + txN b)).take (min (b.drop (118 + txN b)).length 32)) = (b.drop (118 + txN b)).take 32 := by
          rw [hd13, Nat.min_eq_right (by omega)]
          exact spl_all (by rw [List.length_take, hd13, List.length_replicate]; omega)
        rw [ht32] at ha13
        have hc013 : Chg [b16, b17, b18, b6] w w13 := hc012.tr (hc13.mono (by simp))
        have ha16 : Arr w13 b16 ((b.drop (18 + txN b)).take 50) := (ha11.nb hc12 (by omega)).nb hc13 (by omega)
        have ha17 : Arr w13 b17 ((b.drop (68 + txN b)).take 50) := ha12.nb hc13 (by omega)
        have hl16 : ((b.drop (18 + txN b)).take 50).length = 50 := by rw [List.length_take, List.length_drop]; omega
        have hl17 : ((b.drop (68 + txN b)).take 50).length = 50 := by rw [List.length_take, List.length_drop]; omega
        refine wpE_draw mixed (.pure 0 (.pure 1 (.pure 2 (.read 3 (.read 5 (.pure 8 (.pure 9 (.pure 10 (.eff 4 [5] (.eff 6 [] (.pure 7 (.pure 11 (.eff 12 [] .nil))))))))))))) (by kernel_rfl) ?_
        refine wpP_pure rfl rfl rfl (fun _ => x_move) ?_
        refine wpP_pure rfl rfl rfl (fun _ => (x_conv32u rfl Tryz.underlying35 Tryz.underlying34)) ?_
        refine wpP_pure rfl rfl rfl (fun _ => x_move) ?_
        refine wpP_rdA 50 rfl rfl rfl Tryz.underlying193 rfl I193 rfl rfl (ha16) (hl16) ?_
        refine wpP_rdA 50 rfl rfl rfl Tryz.underlying193 rfl I193 rfl rfl (ha17) (hl17) ?_
        refine wpP_pure rfl rfl rfl (fun _ => x_move) ?_
        refine wpP_pure rfl rfl rfl (fun _ => x_move) ?_
        refine wpP_pure rfl rfl rfl (fun _ => (x_conv32u rfl Tryz.underlying35 Tryz.underlying34)) ?_
        refine wpP_call rfl rfl rfl C133 (pages_ok _ _ hl16) ?_
        rintro _ w14 ⟨q1, rfl, hq1, hc14, hn14⟩
        have hc14 : Chg [] w13 w14 := (drw w13).tr hc14
        have hn14 : w13.heap.size ≤ q1 := hn14
        refine ⟨⟨ha17.chg0 hc14, trivial⟩, ?_⟩
        refine wpP_call rfl rfl rfl C133 (pages_ok _ _ hl17) ?_
        rintro _ w15 ⟨q2, rfl, hq2, hc15, hn15⟩
        refine ⟨trivial, ?_⟩
        have hc15 : Chg [] w14 w15 := hc15
        have hn15 : w14.heap.size ≤ q2 := hn15
        have hq12 : q1 ≠ q2 := by have := hq1.lt; omega
        have hR := supC_of b q1 q2
        rw [← hru, ← hcu, ← heu] at hR
        have hBs : ∀ {w' : World}, Chg [b16, b17, b18] w7 w' → Blk w' b6 sup0C := fun hc => (hB3.chg0 hc37).chg hc (by
          simp only [List.mem_cons, List.not_mem_nil, or_false]; omega)
        have hc715 : Chg [b16, b17, b18] w7 w15 := (((((hc710.mono (by simp)).tr (hc11.mono (by simp))).tr (hc12.mono (by simp))).tr (hc13.mono (by simp))).tr (hc14.mono (by simp))).tr (hc15.mono (by simp))
        refine wpP_pure rfl rfl rfl (fun _ => x_buildL Tryz.underlying123 I123 rfl (zs := [.int .u32 0, str [], .map none, .map none]) rfl rfl (fill1 rfl rfl rfl (Nat.le_of_ble_eq_true rfl) (fill1 rfl rfl rfl (Nat.le_of_ble_eq_true rfl) (fill1 rfl rfl rfl (Nat.le_of_ble_eq_true rfl) (fill1 rfl rfl rfl (Nat.le_of_ble_eq_true rfl) (fill0 (cs' := [.int .u32 (toU32 (ru.toNat : Int)).toNat, str ((b.drop 18).take (txN b)), .map (some q1), .map (some q2)]) rfl)))))) ?_
        refine wpP_pure rfl rfl rfl (fun _ => x_buildL Tryz.underlying125 I125 rfl (zs := sup0C) rfl rfl (fill1 rfl rfl rfl (Nat.le_of_ble_eq_true rfl) (fill1 rfl rfl rfl (Nat.le_of_ble_eq_true rfl) (fill1 rfl rfl rfl (Nat.le_of_ble_eq_true rfl) (fill0 (cs' := [.int .u32 (toU32 (ru.toNat : Int)).toNat, str ((b.drop 18).take (txN b)), .map (some q1), .map (some q2), .int .u64 cu.toNat, .int .u32 (toU32 (eu.toNat : Int)).toNat]) rfl))))) ?_
        refine wpP_exs rfl rfl rfl (x_storeB (l := supC (supOf b) q1 q2) I125 rfl rfl (hBs hc715) (congrArg (fun l : List Value => l.toArray.toList) hR) rfl (Nat.le_refl 6) (supC_cell _ _ _) (spl_all rfl)) ?_
        rintro w16 ⟨hB16, hc16, hs16⟩
        refine ⟨trivial, ?_⟩
        refine wpP_nil (thenE_norm ?_)
        refine wpE_seq ?_
        have hc716 : Chg [b16, b17, b18, b6] w7 w16 := (hc715.mono (fun x hx _ => by simp only [List.mem_cons, List.not_mem_nil, or_false] at hx ⊢; omega)).tr (hc16.mono (fun x hx _ => by simp only [List.mem_cons, List.not_mem_nil, or_false] at hx ⊢; omega))
        have hc016 : Chg [b16, b17, b18, b6] w w16 := ((hc03.tr hc37).mono (by simp)).tr hc716
        have ha18 : Arr w16 b18 ((b.drop (118 + txN b)).take 32) := ((ha13.chg0 hc14).chg0 hc15).nb hc16 (by omega)
        have hl18 : ((b.drop (118 + txN b)).take 32).length = 32 := by rw [List.length_take, List.length_drop]; omega
        have hak : Arr w16 b1 k := (((ha1.chg0 hc2).chg0 hc3).chg0 hc37).chg hc716 (by simp only [List.mem_cons, List.not_mem_nil, or_false]; omega)
        refine wpE_draw mixed (.read 0 (.read 1 (.read 2 (.pure 3 (.pure 4 (.pure 5 (.eff 6 [0, 1] (.pure 7 (.eff 8 [1] (.pure 9 .nil)))))))))) (by kernel_rfl) ?_
        refine wpP_read rfl rfl rfl (fun w' => Blk w' b6 (supC (supOf b) q1 q2)) (hB16) (fun w1 h1 => x_loadA Tryz.underlying125 rfl I125 rfl (h1.at (l := supC (supOf b) q1 q2) (off := 0) rfl) rfl) ?_
        refine wpP_rdA 32 rfl rfl rfl Tryz.underlying22 rfl I22 rfl rfl (ha18) (hl18) ?_
        refine wpP_rdA 32 rfl rfl rfl Tryz.underlying23 rfl I23 rfl rfl (hak) (hk) ?_
        refine wpP_pure rfl rfl rfl (fun _ => x_move) ?_
        refine wpP_pure rfl rfl rfl (fun _ => x_move) ?_
        refine wpP_ex rfl rfl rfl (x_upto (118 + txN b) Tryz.underlying41 I5 (hbx hc016) rfl rfl (by omega) (by omega)) ?_
        rintro _ ⟨⟨p17, c17, rfl⟩, hs17, hbl17⟩
        have htl : (b.take (118 + txN b)).length = 118 + txN b := by rw [List.length_take]; omega
        refine wpP_call rfl rfl rfl C126 (sign_ok _ k hk _ (b.take (118 + txN b)) (hs17.mod0 (drw _)) (by rw [htl]; omega)) ?_
        rintro _ w18 ⟨rfl, hc18⟩
        have hc18 : Chg [] w16 w18 := (drw w16).tr hc18
        refine ⟨⟨hB16.chg0 hc18, ha18.chg0 hc18, trivial⟩, ?_⟩
        refine wpP_pure rfl rfl rfl (fun _ => x_eqArr Tryz.underlying22 I5 rfl Tryz.underlying5 (by kernel_rfl) rfl rfl (hl18) (signL_length _ _)) ?_
        have hB4 : Blk w18 b4 sup0C := ((((hB2.chg0 hc3).chg0 hc37).chg hc716 (by simp only [List.mem_cons, List.not_mem_nil, or_false]; omega))).chg0 hc18
        refine wpP_exs rfl rfl rfl (x_storeB (l := supC (supOf b) q1 q2) I125 rfl rfl hB4 rfl rfl (Nat.le_refl 6) (supC_cell _ _ _) (spl_all rfl)) ?_
        rintro w19 ⟨hB19, hc19, hs19⟩
        refine ⟨⟨(ha18.chg0 hc18).nb hc19 (by omega), trivial⟩, ?_⟩
        refine wpP_pure rfl rfl rfl (fun _ => x_assign) ?_
        refine wpP_nil (thenE_norm ?_)
        refine wpE_ret (fin_retR ?_)
        have hc019 : Chg [] w w19 := ((hc016.tr (hc18.mono (by simp))).trans (S'' := []) hc19 (fun x hx hlt => by
          simp only [List.mem_cons, List.not_mem_nil, or_false] at hx; omega) (fun x hx hlt => by simp at hx; omega))
        have hq : ∀ q, w7.heap.size ≤ q → q < w18.heap.size → q ≠ b4 := fun q h1 h2 => by omega
        have hn13 : w7.heap.size ≤ w13.heap.size := by have := hc13.1; have := hc12.1; have := hc11.1; omega
        have hq1lt := hq1.lt
        have hq2lt := hq2.lt
        have hn1518 : w15.heap.size ≤ w18.heap.size := by have := hc16.1; have := hc18.1; omega
        have h15 := hc15.1
        have hq1' : SetAt w19 q1 (supOf b).used := (((hq1.chg0 hc15).mod hc16 (by simp; omega)).chg0 hc18).mod hc19 (by simp; omega)
        have hq2' : SetAt w19 q2 (supOf b).written := ((hq2.mod hc16 (by simp; omega)).chg0 hc18).mod hc19 (by simp; omega)
        refine ⟨[supV (supOf b) q1 q2, .bool (decide ((b.drop (118 + txN b)).take 32 = signL k (b.take (118 + txN b))))], ⟨⟨_, rfl, run_loadVarA Tryz.underlying125 rfl I125 (hB19.at (l := supC (supOf b) q1 q2) (off := 0) rfl) rfl⟩, rfl, trivial⟩, ?_, hc019⟩
        have hps := parsed_some (k := k) hbl (by omega)
        by_cases heq : (b.drop (118 + txN b)).take 32 = signL k (b.take (118 + txN b))
        · rw [if_pos heq] at hps
          rw [decide_eq_true heq]
          exact .inr ⟨_, q1, q2, hps, rfl, hq1', hq2', by have := hc013.1; omega, by have := hc013.1; have := hc14.1; omega, hq12⟩
        · rw [if_neg heq] at hps
          rw [decide_eq_false heq]
          exact .inl ⟨hps, _, rfl, supC_cell _ _ _, rfl⟩
end Go.Proofs.YtenhmbhflgnhlaaGreat

