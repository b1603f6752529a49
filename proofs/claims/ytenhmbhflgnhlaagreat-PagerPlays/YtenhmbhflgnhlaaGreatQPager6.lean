/- every row of calls, crashes, the power going within a commit: what each tells -/
import Derived.Test.YtenhmbhflgnhlaaGreatQPager5
namespace Go.Proofs.YtenhmbhflgnhlaaGreat
open Go Go.Sac
set_option maxRecDepth 100000
set_option maxHeartbeats 4000000
theorem CloneS_ok (w : World) (r : Nat) (f : PgF) (hm : SetAt w r f) :
    Ret Tryz.prog 71 #[.map (some r)] w fun v w' => ∃ q, v = .map (some q) ∧ SetAt w' q f ∧ Chg [] w w' ∧ w.heap.size ≤ q :=
  clone_set Tryz.cloneA w r f hm
def BestC (w : World) (cs : List Value) (best : Option (Sup × Nat)) (n : Nat) : Prop :=
  match best with
  | none => cs = sup0C
  | some (s, _) => ∃ u r, cs = supC s u r ∧ SetAt w u s.used ∧ SetAt w r s.written ∧ n ≤ u ∧ n ≤ r ∧ u ≠ r
theorem BestC.chg {w w' : World} {cs : List Value} {best : Option (Sup × Nat)} {n : Nat} (h : BestC w cs best n) (hc : Chg [] w w') : BestC w' cs best n := by
  unfold BestC at *
  split at h
  · exact h
  · obtain ⟨u, r, h1, h2, h3, h4⟩ := h
    exact ⟨u, r, h1, h2.chg0 hc, h3.chg0 hc, h4⟩
theorem BestC.chg1 {w w' : World} {cs : List Value} {best : Option (Sup × Nat)} {n b : Nat} (h : BestC w cs best n) (hc : Chg [b] w w') (hb : b < n) : BestC w' cs best n := by
  unfold BestC at *
  split at h
  · exact h
  · obtain ⟨u, r, h1, h2, h3, h4, h5⟩ := h
    exact ⟨u, r, h1, h2.mod hc (by simp; omega), h3.mod hc (by simp; omega), h4, h5⟩
theorem own_map_ne {α κ : Type} [Flat α] [Key κ] {w : World} {v : Value} {l : List α} {r : Nat} {m : List (κ × Value)} (ho : Own w v l) (hm : MapAt w r m) : r ∉ blkOf v := by
  obtain ⟨p, c, rfl, _, hp⟩ := ho
  obtain ⟨es, cl, hb, _⟩ := hm
  cases p with
  | none => simp [blkOf]
  | some a =>
    obtain ⟨_, c', e, fr, h2, _⟩ := hp
    intro h
    simp only [blkOf, List.mem_singleton] at h
    subst h
    rw [hb] at h2; cases h2
theorem BestC.own {α : Type} [Flat α] {w w' : World} {cs : List Value} {best : Option (Sup × Nat)} {n : Nat} {v : Value} {l : List α} (h : BestC w cs best n) (ho : Own w v l) (hc : Chg (blkOf v) w w') : BestC w' cs best n := by
  unfold BestC at *
  split at h
  · exact h
  · obtain ⟨u, r, h1, ⟨m2, h2, q2⟩, ⟨m3, h3, q3⟩, h4, h5⟩ := h
    exact ⟨u, r, h1, ⟨m2, h2.mod hc (own_map_ne ho h2), q2⟩, ⟨m3, h3.mod hc (own_map_ne ho h3), q3⟩, h4, h5⟩
theorem BestC.com {w : World} {cs : List Value} {best : Option (Sup × Nat)} {n : Nat} (h : BestC w cs best n) : cs[4]? = some (.int .u64 (comOf best).toNat) := by
  unfold BestC at h
  split at h
  · subst h; rfl
  · obtain ⟨u, r, rfl, _⟩ := h; rfl
theorem BestC.ep {w : World} {cs : List Value} {best : Option (Sup × Nat)} {n : Nat} (h : BestC w cs best n) : cs[5]? = some (.int .u32 (epOf best).toNat) := by
  unfold BestC at h
  split at h
  · subst h; rfl
  · obtain ⟨u, r, rfl, _⟩ := h; rfl
theorem BestC.six {w : World} {cs : List Value} {best : Option (Sup × Nat)} {n : Nat} (h : BestC w cs best n) : ∃ a b c d, cs = [a, b, c, d, .int .u64 (comOf best).toNat, .int .u32 (epOf best).toNat] ∧ (∀ q ∈ cs, isCell q = true) ∧ [a, b, c, d, .int .u32 (epOf best).toNat].all isCell = true := by
  unfold BestC at h
  split at h
  · subst h; exact ⟨_, _, _, _, rfl, by decide, by decide⟩
  · obtain ⟨u, r, rfl, _⟩ := h; exact ⟨_, _, _, _, rfl, supC_cell _ _ _, rfl⟩
def newV (k : List UInt8) (ds : DSt) (n : Nat) (v : Value) (w : World) : Prop :=
  ∃ cs, BestC w cs (newest k ds) n ∧ v = .tuple #[.agg cs.toArray, .int .i64 (atOf (newest k ds)), .int .u64 (newNext k ds).toNat, .int .i64 0]
def newN (k : List UInt8) (ds : DSt) : Nat → Option (Sup × Nat)
  | 0 => none
  | n + 1 => newStep k ds (newN k ds n) n
def triedN (ds : DSt) : Nat → List UInt64
  | 0 => []
  | n + 1 => triedN ds n ++ numsL (regS ds n)
theorem newest_ok (w : World) (b r : Nat) (kv : Value) (ds : DSt) (k : List UInt8) (hk : k.length = 32) (hd : DiskAt w b kv r ds) (ho : ds.off = false) (hl : 32 ≤ ds.kept.length) (hl2 : ds.kept.length ≤ 4000) :
    Ret Tryz.prog 93 #[.pointer (some ⟨b, 0, none⟩), arrV k] w fun v w' => newV k ds w.heap.size v w' ∧ Chg [] w w' := by
  refine enterR [.cell 4 125, .tmp 5, .tmp 6, .tmp 7] Tryz.func93 rfl rfl (Nat.le_of_ble_eq_true rfl) ?_
  refine wpE_seq ?_
  refine wpE_region ?_
  refine wpL_boxA (l := k) rfl rfl ?_
  rintro w1 b3 hn1 ha1 hc1 hl1
  refine wpL_exw rfl (x_allocB (l := sup0C) I125 rfl rfl) ?_
  rintro _ w2 ⟨b4, rfl, hn2, hB2, hc2, hl2'⟩
  refine wpL_value rfl x_assign (wpL_value rfl (x_as (v := .int .u64 ((0 : UInt64).toNat : Nat)) rfl) (wpL_value rfl x_assign ?_))
  refine wpL_nil (thenE_norm ?_)
  refine wpE_seq ?_
  refine wpE_region ?_
  refine wpL_exw rfl (x_allocB (l := sup0C) I125 rfl rfl) ?_
  rintro _ w3 ⟨b8, rfl, hn3, hB3, hc3, hl3⟩
  refine wpL_nil (thenE_norm ?_)
  refine wpE_seq ?_
  refine wpE_region ?_
  refine wpL_value rfl x_assign ?_
  refine wpL_nil (thenE_norm ?_)
  refine wpE_seq ?_
  refine wpE_region ?_
  refine wpL_value rfl x_assign ?_
  refine wpL_nil (thenE_norm ?_)
  refine wpE_seq ?_
  refine wpE_seq ?_
  refine wpE_region ?_
  refine wpL_value rfl x_move ?_
  refine wpL_nil (thenE_norm ?_)
  refine wpE_block ?_
  have hc03 : Chg [] w w3 := (hc1.tr hc2).tr hc3
  refine wpE_loopF [0, 3, 4, 8, 9, 10, 16] (fun n vs w' => ∃ (i : Nat) (v : Value) (cs : List Value), vs = [.pointer (some ⟨b, 0, none⟩), .pointer (some ⟨b3, 0, none⟩), .pointer (some ⟨b4, 0, none⟩), .pointer (some ⟨b8, 0, none⟩), v, .int .i64 (atOf (newN k ds i)), .int .i64 i] ∧ i + n = 2 ∧ Own w' v (triedN ds i) ∧ In v [] w3.heap.size ∧ Blk w' b8 cs ∧ BestC w' cs (newN k ds i) w3.heap.size ∧ Chg [b8] w3 w') (2) ?_ ?_
  · exact ⟨0, _, sup0C, rfl, rfl, Own.nil _, In.nil, hB3, rfl, Chg.refl' _ _⟩
  · rintro n vs J w4 ⟨i, v4, cs, rfl, hi, ho4, hi4, hB4, hbe4, hc4⟩
    refine wpE_seq ?_
    refine wpE_region ?_
    refine wpL_value rfl (x_lss rfl rfl) ?_
    refine wpL_nil (thenE_norm ?_)
    refine wpE_seq ?_
    have hd4 : DiskAt w4 b kv r ds := (hd.chg0 hc03).chg hc4 (fun x hx h => by
      have := hd.lt x hx
      have := hc1.1
      have := hc2.1
      simp at h; omega)
    have ha4 : Arr w4 b3 k := ((ha1.chg0 hc2).chg0 hc3).nb hc4 (by have := hc2.1; omega)
    refine wpE_cond_d rfl (fun h => ?_) (fun h => ?_)
    · skip
      refine wpE_skip (thenE_norm ?_)
      refine wpE_seq ?_
      refine wpE_block ?_
      refine wpE_seq ?_
      refine wpE_region ?_
      refine wpL_value rfl x_move (wpL_value rfl x_assign ?_)
      refine wpL_nil (thenE_norm ?_)
      refine wpE_seq ?_
      refine wpE_region ?_
      refine wpL_value rfl x_move (wpL_value rfl x_move (wpL_value rfl (x_mul64 rfl rfl (by omega)) ?_))
      have hob1 : ∃ q, n = q + 1 := ⟨n - 1, by omega⟩
      obtain ⟨n, rfl⟩ := hob1
      refine wpL_value rfl (x_buildL Tryz.underlying133 I133 rfl (zs := [.pointer none, .int .i64 0]) rfl rfl (fill1 rfl rfl rfl (Nat.le_of_ble_eq_true rfl) (fill1 rfl rfl rfl (Nat.le_of_ble_eq_true rfl) (fill0 (cs' := [.pointer (some ⟨b, 0, none⟩), .int .i64 ((i : Int) * 16)]) rfl)))) ?_
      refine wpL_call rfl C80 (RRead_ok w4 b r kv ds ((i : Int) * 16) 16 hd4 ho (by omega) hl2 (by decide)) ?_
      rintro _ w5 ⟨v5, rfl, ho5, hc5, hi5⟩
      refine wpL_value rfl x_move (wpL_value rfl (x_extract rfl rfl) (wpL_value rfl (x_extract rfl rfl) (wpL_value rfl x_assign (wpL_value rfl x_assign ?_))))
      refine wpL_nil (thenE_norm ?_)
      refine wpE_seq ?_
      refine wpE_seq ?_
      refine wpE_region ?_
      refine wpL_value rfl x_move (wpL_value rfl (x_neq rfl rfl) ?_)
      refine wpL_nil (thenE_norm ?_)
      have hrl : (ds.reads ((i : Int) * 16) 16).length = 1024 := DSt.reads_length _ _ _
      refine wpE_cond_df rfl (fun h => h rfl) ?_
      refine wpE_skip (thenE_norm ?_)
      refine wpE_seq ?_
      refine wpE_region ?_
      refine wpL_value rfl x_move (wpL_value rfl x_move ?_)
      refine wpL_call rfl C113 (numbers_ok w5 v5 _ ho5.sl (by omega)) ?_
      rintro v6 w6 ⟨ho6, hc6, hi6⟩
      have hnl : (numsL (ds.reads ((i : Int) * 16) 16)).length = 32 := by unfold numsL; rw [hrl]; exact numsN_length _ _
      have htl : (triedN ds i).length ≤ 32 := by
        rcases (by omega : i = 0 ∨ i = 1) with rfl | rfl
        · simp [triedN]
        · have hq : (numsL (regS ds 0)).length = 32 := by unfold numsL; rw [show (regS ds 0).length = 1024 from DSt.reads_length _ _ _]; exact numsN_length _ _
          simp [triedN, hq]
      have hk3 := hc1.1
      have hk2 := hc2.1
      have hk33 := hc3.1
      have hk4 := hc4.1
      have hc46 := hc5.tr hc6
      refine wpL_append Tryz.underlying180 Tryz.underlying180 I35 (.inr ⟨_, rfl⟩) rfl rfl rfl (by decide) rfl (ho4.mod0 hc46) (ho6.sl.src) rfl rfl (by omega) ?_
      rintro v7 w7 h7
      refine wpL_value rfl x_assign ?_
      refine wpL_nil (thenE_norm ?_)
      have hB7 : Blk w7 b8 cs := (hB4.chg0 hc46).chg h7.mod (fun h => by have := hi4.ge _ h; omega)
      have hbe7 := (hbe4.chg hc46).own (ho4.mod0 hc46) h7.mod
      have ha7 : Arr w7 b3 k := (ha4.chg0 hc46).chg h7.mod (fun h => by have := hi4.ge _ h; omega)
      have ho4lt := ho4.sl.lt
      have hs5 : Sl w7 v5 (regS ds i) := (ho5.sl.mod0 hc6).mod h7.mod (fun x hx h => by have := hi5.ge x hx; have := ho4lt x h; omega)
      have hi7 : In v7 [] w3.heap.size := h7.inn.mono (fun x hx => .inr (hi4.ge x hx)) (by have := hc46.1; omega)
      have hc7 : Chg [b8] w3 w7 := (hc4.tr0 hc46).trans h7.mod (fun _ h _ => h) (fun x hx hlt => by have := hi4.ge x hx; omega)
      have hrl2 : (regS ds i).length = 1024 := hrl
      have ho7' := h7.own
      have hlen56 : ∀ {q : List UInt8}, q = unfrL (regS ds i) → q.length ≤ 1000 ∧ (q = [] ∨ 56 ≤ q.length) := fun hq => by
        obtain ⟨mm, hmm, hm16⟩ : ∃ m, (unfrL (regS ds i)).length = 56 * m ∧ m ≤ 16 := by
          unfold unfrL; rw [hrl2]; exact unfrN_len _ 16 _ hrl2
        subst hq
        refine ⟨by omega, ?_⟩
        rcases mm with _ | m
        · exact .inl (List.eq_nil_of_length_eq_zero (by omega))
        · exact .inr (by omega)
      have hob2 := hlen56 rfl
      obtain ⟨hul, hu56⟩ := hob2
      have hz7 : w3.heap.size ≤ w7.heap.size := by have := hc46.1; have := h7.mod.1; omega
      refine wpE_cutF [0, 3, 4, 8, 9, 10, 11, 14, 15, 16] (fun vs w' => ∃ (b14 : Nat) (okk : Bool) (cs9 : List Value), vs = [.pointer (some ⟨b, 0, none⟩), .pointer (some ⟨b3, 0, none⟩), .pointer (some ⟨b4, 0, none⟩), .pointer (some ⟨b8, 0, none⟩), v7, .int .i64 (atOf (newN k ds i)), .int .i64 i, .pointer (some ⟨b14, 0, none⟩), .bool okk, .int .i64 i] ∧ Blk w' b14 cs9 ∧ Chg [] w7 w' ∧ ((parsedL k (unfrL (regS ds i)) = none ∧ okk = false) ∨ (∃ s u r', parsedL k (unfrL (regS ds i)) = some s ∧ okk = true ∧ cs9 = supC s u r' ∧ SetAt w' u s.used ∧ SetAt w' r' s.written ∧ w7.heap.size ≤ u ∧ w7.heap.size ≤ r' ∧ u ≠ r'))) ?_ ?_
      · skip
        refine wpE_draw mixed (.read 0 (.pure 1 (.alt (.eff 2 [0] (.alt (.eff 3 [] (.pure 4 (.pure 5 (.pure 6 (.eff 7 [0] (.eff 8 [] (.pure 9 .nil))))))) (.eff 7 [0] (.eff 3 [] (.pure 4 (.pure 5 (.pure 6 (.eff 8 [] (.pure 9 .nil))))))))) (.eff 7 [0] (.eff 2 [0] (.eff 3 [] (.pure 4 (.pure 5 (.pure 6 (.eff 8 [] (.pure 9 .nil))))))))))) (by kernel_rfl) ?_
        refine wpP_rdA 32 rfl rfl rfl Tryz.underlying23 rfl I23 rfl rfl (ha7) (hk) ?_
        refine wpP_pure rfl rfl rfl (fun _ => x_move) ?_
        refine wpP_alt ?_ ?_
        · skip
          refine wpP_call rfl rfl rfl C115 (unframed_ok2 _ v5 _ (hs5.mod0 (drw _)) (by omega) (by rw [hrl2]) (by omega)) ?_
          rintro v8 w8 ⟨ho8, hc8, hi8⟩
          have hc8 : Chg [] w7 w8 := (drw w7).tr hc8
          refine ⟨⟨ha7.chg0 hc8, trivial⟩, ?_⟩
          refine wpP_alt ?_ ?_
          · skip
            refine wpP_call rfl rfl rfl C114 (parsed_ok w8 k hk v8 _ ho8.sl hul hu56) ?_
            rintro v9 w9 ⟨hv9, hc9⟩
            refine ⟨trivial, ?_⟩
            unfold parV at hv9
            have hz8 := hc8.1
            have hz9 := hc9.1
            rcases hv9 with ⟨hpn, cs9, h6, hcell, rfl⟩ | ⟨s, u, r', hps, rfl, hu, hr, hnu, hnr, hnur⟩
            · skip
              refine wpP_pure rfl rfl rfl (fun _ => x_move) ?_
              refine wpP_pure rfl rfl rfl (fun _ => (x_extract rfl rfl)) ?_
              refine wpP_pure rfl rfl rfl (fun _ => (x_extract rfl rfl)) ?_
              refine wpP_exw rfl rfl rfl (x_allocB (l := sup0C) I125 rfl rfl) ?_
              rintro _ w10 ⟨b14, rfl, hn10, hB10, hc10, hl10⟩
              have hc710 : Chg [] w7 w10 := (hc8.tr hc9).tr hc10
              refine ⟨⟨ha7.chg0 hc710, trivial⟩, ?_⟩
              have hn14 : w7.heap.size ≤ b14 := by omega
              refine wpP_exs rfl rfl rfl (x_storeB (l := cs9) I125 rfl rfl hB10 rfl h6.symm (by rw [h6]; decide) hcell (spl_all (by rw [h6]; rfl))) ?_
              rintro w11 ⟨hB11, hc11, hs11⟩
              refine ⟨trivial, ?_⟩
              refine wpP_pure rfl rfl rfl (fun _ => x_assign) ?_
              refine wpP_nil (thenE_norm ?_)
              exact ⟨b14, false, cs9, rfl, hB11, hc710.t1 hc11 hn14, .inl ⟨hpn, rfl⟩⟩
            · skip
              refine wpP_pure rfl rfl rfl (fun _ => x_move) ?_
              refine wpP_pure rfl rfl rfl (fun _ => (x_extract rfl rfl)) ?_
              refine wpP_pure rfl rfl rfl (fun _ => (x_extract rfl rfl)) ?_
              refine wpP_exw rfl rfl rfl (x_allocB (l := sup0C) I125 rfl rfl) ?_
              rintro _ w10 ⟨b14, rfl, hn10, hB10, hc10, hl10⟩
              have hc710 : Chg [] w7 w10 := (hc8.tr hc9).tr hc10
              refine ⟨⟨ha7.chg0 hc710, trivial⟩, ?_⟩
              have hn14 : w7.heap.size ≤ b14 := by omega
              have hul9 := hu.lt
              have hrl9 := hr.lt
              have hu10 := hu.chg0 hc10
              have hr10 := hr.chg0 hc10
              have hub : u ≠ b14 := by omega
              have hrb : r' ≠ b14 := by omega
              refine wpP_exs rfl rfl rfl (x_storeB (l := supC s u r') I125 rfl rfl hB10 rfl rfl (Nat.le_refl 6) (supC_cell _ _ _) (spl_all rfl)) ?_
              rintro w11 ⟨hB11, hc11, hs11⟩
              refine ⟨trivial, ?_⟩
              refine wpP_pure rfl rfl rfl (fun _ => x_assign) ?_
              refine wpP_nil (thenE_norm ?_)
              exact ⟨b14, true, _, rfl, hB11, hc710.t1 hc11 hn14, .inr ⟨s, u, r', hps, rfl, rfl, hu10.mod hc11 (by simpa using hub), hr10.mod hc11 (by simpa using hrb), by omega, by omega, hnur⟩⟩
          · skip
            refine wpP_exw rfl rfl rfl (x_allocB (l := sup0C) I125 rfl rfl) ?_
            rintro _ wa ⟨b14, rfl, hn10, hBa, hca, hl10⟩
            refine ⟨⟨(ha7.chg0 hc8).chg0 hca, trivial⟩, ?_⟩
            refine wpP_call rfl rfl rfl C114 (parsed_ok wa k hk v8 _ (ho8.sl.mod0 hca) hul hu56) ?_
            rintro v9 w10 ⟨hv9, hc9⟩
            refine ⟨trivial, ?_⟩
            unfold parV at hv9
            have hz8 := hc8.1
            have hza := hca.1
            have hz9 := hc9.1
            have hB10 := hBa.chg0 hc9
            have hc710 : Chg [] w7 w10 := (hc8.tr hca).tr hc9
            have hn14 : w7.heap.size ≤ b14 := by omega
            rcases hv9 with ⟨hpn, cs9, h6, hcell, rfl⟩ | ⟨s, u, r', hps, rfl, hu10, hr10, hnu, hnr, hnur⟩
            · skip
              refine wpP_pure rfl rfl rfl (fun _ => x_move) ?_
              refine wpP_pure rfl rfl rfl (fun _ => (x_extract rfl rfl)) ?_
              refine wpP_pure rfl rfl rfl (fun _ => (x_extract rfl rfl)) ?_
              refine wpP_exs rfl rfl rfl (x_storeB (l := cs9) I125 rfl rfl hB10 rfl h6.symm (by rw [h6]; decide) hcell (spl_all (by rw [h6]; rfl))) ?_
              rintro w11 ⟨hB11, hc11, hs11⟩
              refine ⟨trivial, ?_⟩
              refine wpP_pure rfl rfl rfl (fun _ => x_assign) ?_
              refine wpP_nil (thenE_norm ?_)
              exact ⟨b14, false, cs9, rfl, hB11, hc710.t1 hc11 hn14, .inl ⟨hpn, rfl⟩⟩
            · skip
              have hub : u ≠ b14 := by omega
              have hrb : r' ≠ b14 := by omega
              refine wpP_pure rfl rfl rfl (fun _ => x_move) ?_
              refine wpP_pure rfl rfl rfl (fun _ => (x_extract rfl rfl)) ?_
              refine wpP_pure rfl rfl rfl (fun _ => (x_extract rfl rfl)) ?_
              refine wpP_exs rfl rfl rfl (x_storeB (l := supC s u r') I125 rfl rfl hB10 rfl rfl (Nat.le_refl 6) (supC_cell _ _ _) (spl_all rfl)) ?_
              rintro w11 ⟨hB11, hc11, hs11⟩
              refine ⟨trivial, ?_⟩
              refine wpP_pure rfl rfl rfl (fun _ => x_assign) ?_
              refine wpP_nil (thenE_norm ?_)
              exact ⟨b14, true, _, rfl, hB11, hc710.t1 hc11 hn14, .inr ⟨s, u, r', hps, rfl, rfl, hu10.mod hc11 (by simpa using hub), hr10.mod hc11 (by simpa using hrb), by omega, by omega, hnur⟩⟩
        · skip
          refine wpP_exw rfl rfl rfl (x_allocB (l := sup0C) I125 rfl rfl) ?_
          rintro _ wa ⟨b14, rfl, hn10, hBa, hca, hl10⟩
          have hca : Chg [] w7 wa := (drw w7).tr hca
          have hn14 : w7.heap.size ≤ b14 := hn10
          refine ⟨⟨ha7.chg0 hca, trivial⟩, ?_⟩
          refine wpP_call rfl rfl rfl C115 (unframed_ok2 wa v5 _ (hs5.mod0 hca) (by omega) (by rw [hrl2]) (by omega)) ?_
          rintro v8 w8 ⟨ho8, hc8, hi8⟩
          refine ⟨⟨(ha7.chg0 hca).chg0 hc8, trivial⟩, ?_⟩
          refine wpP_call rfl rfl rfl C114 (parsed_ok w8 k hk v8 _ ho8.sl hul hu56) ?_
          rintro v9 w10 ⟨hv9, hc9⟩
          refine ⟨trivial, ?_⟩
          unfold parV at hv9
          have hz8 := hc8.1
          have hza := hca.1
          have hz9 := hc9.1
          have hB10 := (hBa.chg0 hc8).chg0 hc9
          have hc710 : Chg [] w7 w10 := (hca.tr hc8).tr hc9
          rcases hv9 with ⟨hpn, cs9, h6, hcell, rfl⟩ | ⟨s, u, r', hps, rfl, hu10, hr10, hnu, hnr, hnur⟩
          · skip
            refine wpP_pure rfl rfl rfl (fun _ => x_move) ?_
            refine wpP_pure rfl rfl rfl (fun _ => (x_extract rfl rfl)) ?_
            refine wpP_pure rfl rfl rfl (fun _ => (x_extract rfl rfl)) ?_
            refine wpP_exs rfl rfl rfl (x_storeB (l := cs9) I125 rfl rfl hB10 rfl h6.symm (by rw [h6]; decide) hcell (spl_all (by rw [h6]; rfl))) ?_
            rintro w11 ⟨hB11, hc11, hs11⟩
            refine ⟨trivial, ?_⟩
            refine wpP_pure rfl rfl rfl (fun _ => x_assign) ?_
            refine wpP_nil (thenE_norm ?_)
            exact ⟨b14, false, cs9, rfl, hB11, hc710.t1 hc11 hn14, .inl ⟨hpn, rfl⟩⟩
          · skip
            have hub : u ≠ b14 := by omega
            have hrb : r' ≠ b14 := by omega
            refine wpP_pure rfl rfl rfl (fun _ => x_move) ?_
            refine wpP_pure rfl rfl rfl (fun _ => (x_extract rfl rfl)) ?_
            refine wpP_pure rfl rfl rfl (fun _ => (x_extract rfl rfl)) ?_
            refine wpP_exs rfl rfl rfl (x_storeB (l := supC s u r') I125 rfl rfl hB10 rfl rfl (Nat.le_refl 6) (supC_cell _ _ _) (spl_all rfl)) ?_
            rintro w11 ⟨hB11, hc11, hs11⟩
            refine ⟨trivial, ?_⟩
            refine wpP_pure rfl rfl rfl (fun _ => x_assign) ?_
            refine wpP_nil (thenE_norm ?_)
            exact ⟨b14, true, _, rfl, hB11, hc710.t1 hc11 hn14, .inr ⟨s, u, r', hps, rfl, rfl, hu10.mod hc11 (by simpa using hub), hr10.mod hc11 (by simpa using hrb), by omega, by omega, hnur⟩⟩
      · rintro vs J2 w11 ⟨b14, okk, cs9, rfl, hB11, hc711, hpar⟩
        refine wpE_seq ?_
        refine wpE_region ?_
        refine wpL_value rfl x_move (wpL_value rfl x_move ?_)
        have hB8 := hB7.chg0 hc711
        have hbe11 := hbe7.chg hc711
        have hcl : cs.length = 6 := by obtain ⟨a1, a2, a3, a4, h, _⟩ := hbe7.six; rw [h]; rfl
        have hcm := hbe7.com
        rcases hpar with ⟨hpn, rfl⟩ | ⟨s, u, r', hps, rfl, rfl, hu11, hr11, hnu, hnr, hnur⟩
        · skip
          have hst : newN k ds (i + 1) = newN k ds i := by show newStep k ds (newN k ds i) i = _; unfold newStep; rw [hpn]
          refine wpL_no rfl rfl (wpL_no rfl rfl (wpL_no rfl rfl (wpL_no rfl rfl (wpL_no rfl rfl (wpL_no rfl rfl (wpL_no rfl rfl (wpL_no rfl rfl (wpL_no rfl rfl (wpL_value rfl (x_pick_f rfl) ?_)))))))))
          refine wpL_nil (thenE_norm ?_)
          refine wpE_cond_f (rfl) ?_
          refine wpE_skip (blockE_norm (thenE_norm ?_))
          refine wpE_region ?_
          refine wpL_value rfl (x_add64 rfl rfl (by omega)) (wpL_value rfl x_move ?_)
          refine wpL_nil (thenE_norm ?_)
          refine Exists.intro (n) (And.intro (by omega) ?_)
          refine ⟨i + 1, v7, cs, vs_cons rfl (vs_cons rfl (vs_cons rfl (vs_cons rfl (vs_cons rfl (vs_cons (by rw [hst]; rfl) (vs_cons (int_eq (by omega)) vs_nil)))))), by omega, ho7'.mod0 hc711, hi7, hB8, ?_, hc7.tr0 hc711⟩
          rw [hst]
          exact hbe11
        · skip
          have hst : newN k ds (i + 1) = (match newN k ds i with | none => some (s, i) | some (b0, j0) => if b0.commit < s.commit then some (s, i) else some (b0, j0)) := by show newStep k ds (newN k ds i) i = _; unfold newStep; rw [hps]; rfl
          refine wpL_yes rfl (wpL_value rfl x_move (wpL_yes rfl ?_))
          by_cases hbn : newN k ds i = none
          · skip
            rw [hbn] at hst
            refine wpL_value rfl (x_to (x_lss rfl rfl) (congrArg Value.bool (decide_eq_true ((show atOf (newN k ds i) < 0 by rw [hbn]; decide))))) ?_
            refine wpL_yes rfl (wpL_value rfl x_move (wpL_no rfl rfl (wpL_no rfl rfl (wpL_no rfl rfl (wpL_no rfl rfl (wpL_no rfl rfl (wpL_yes rfl (wpL_value rfl (x_pick_t rfl) (wpL_value rfl (x_pick_t rfl) ?_)))))))))
            refine wpL_nil (thenE_norm ?_)
            refine wpE_cond_t (rfl) ?_
            refine wpE_region ?_
            refine wpL_value rfl (x_loadA Tryz.underlying125 rfl I125 rfl (hB11.at (l := supC s u r') (off := 0) rfl) rfl) ?_
            refine wpL_value rfl x_move ?_
            refine wpL_exs rfl (x_storeB (l := supC s u r') I125 rfl rfl hB8 rfl rfl (by rw [hcl]; exact Nat.le_refl 6) (supC_cell _ _ _) (spl_all hcl.symm)) ?_
            rintro w12 ⟨hB12, hc12, hs12⟩
            refine wpL_value rfl x_assign ?_
            refine wpL_nil (blockE_norm (thenE_norm ?_))
            refine wpE_region ?_
            refine wpL_value rfl (x_add64 rfl rfl (by omega)) (wpL_value rfl x_move ?_)
            refine wpL_nil (thenE_norm ?_)
            refine Exists.intro (n) (And.intro (by omega) ?_)
            refine ⟨i + 1, v7, supC s u r', vs_cons rfl (vs_cons rfl (vs_cons rfl (vs_cons rfl (vs_cons rfl (vs_cons (by rw [hst]; rfl) (vs_cons (int_eq (by omega)) vs_nil)))))), by omega, (ho7'.mod0 hc711).mod hc12 (nb1 (fun h => by have := hi7.ge _ h; omega)), hi7, hB12, ?_, (hc7.tr0 hc711).tr hc12⟩
            rw [hst]
            exact ⟨u, r', rfl, hu11.mod hc12 (by simp; omega), hr11.mod hc12 (by simp; omega), by omega, by omega, hnur⟩
          · have hob3 := Option.ne_none_iff_exists'.1 hbn
            obtain ⟨⟨b0, j0⟩, hbest⟩ := hob3
            rw [hbest] at hst hcm
            refine wpL_value rfl (x_to (x_lss rfl rfl) (congrArg Value.bool (decide_eq_false ((show ¬ atOf (newN k ds i) < 0 by rw [hbest]; simp [atOf]))))) ?_
            refine wpL_yes rfl (wpL_value rfl x_move (wpL_yes rfl (wpL_value rfl (x_fieldAddr Tryz.underlying125 rfl I35 rfl rfl) (wpL_yes rfl ?_))))
            refine wpL_value rfl (x_load Tryz.underlying35 rfl rfl (hB11.c (off := 4) rfl)) ?_
            refine wpL_yes rfl (wpL_value rfl (x_fieldAddr Tryz.underlying125 rfl I35 rfl rfl) (wpL_yes rfl ?_))
            refine wpL_value rfl (x_load Tryz.underlying35 rfl rfl (hB8.c (off := 4) hcm)) ?_
            refine wpL_yes rfl (wpL_value rfl (x_gtr64u rfl rfl) (wpL_yes rfl (wpL_value rfl (x_pick_f rfl) (wpL_value rfl (x_pick_t rfl) ?_))))
            refine wpL_nil (thenE_norm ?_)
            refine wpE_cond_d rfl (fun hgt => ?_) (fun hgt => ?_)
            · skip
              refine wpE_region ?_
              have hgt : b0.commit < s.commit := hgt
              simp only [if_pos hgt] at hst
              refine wpL_value rfl (x_loadA Tryz.underlying125 rfl I125 rfl (hB11.at (l := supC s u r') (off := 0) rfl) rfl) ?_
              refine wpL_value rfl x_move ?_
              refine wpL_exs rfl (x_storeB (l := supC s u r') I125 rfl rfl hB8 rfl rfl (by rw [hcl]; exact Nat.le_refl 6) (supC_cell _ _ _) (spl_all hcl.symm)) ?_
              rintro w12 ⟨hB12, hc12, hs12⟩
              refine wpL_value rfl x_assign ?_
              refine wpL_nil (blockE_norm (thenE_norm ?_))
              refine wpE_region ?_
              refine wpL_value rfl (x_add64 rfl rfl (by omega)) (wpL_value rfl x_move ?_)
              refine wpL_nil (thenE_norm ?_)
              refine Exists.intro (n) (And.intro (by omega) ?_)
              refine ⟨i + 1, v7, supC s u r', vs_cons rfl (vs_cons rfl (vs_cons rfl (vs_cons rfl (vs_cons rfl (vs_cons (by rw [hst]; rfl) (vs_cons (int_eq (by omega)) vs_nil)))))), by omega, (ho7'.mod0 hc711).mod hc12 (nb1 (fun h => by have := hi7.ge _ h; omega)), hi7, hB12, ?_, (hc7.tr0 hc711).tr hc12⟩
              rw [hst]
              exact ⟨u, r', rfl, hu11.mod hc12 (by simp; omega), hr11.mod hc12 (by simp; omega), by omega, by omega, hnur⟩
            · skip
              refine wpE_skip (blockE_norm (thenE_norm ?_))
              refine wpE_region ?_
              refine wpL_value rfl (x_add64 rfl rfl (by omega)) (wpL_value rfl x_move ?_)
              refine wpL_nil (thenE_norm ?_)
              have hgt : ¬ b0.commit < s.commit := hgt
              simp only [if_neg hgt] at hst
              refine Exists.intro (n) (And.intro (by omega) ?_)
              refine ⟨i + 1, v7, cs, vs_cons rfl (vs_cons rfl (vs_cons rfl (vs_cons rfl (vs_cons rfl (vs_cons (by rw [hst, hbest]; rfl) (vs_cons (int_eq (by omega)) vs_nil)))))), by omega, ho7'.mod0 hc711, hi7, hB8, ?_, hc7.tr0 hc711⟩
              rw [hst, ← hbest]
              exact hbe11
    · skip
      refine wpE_exit (thenE_exit (thenE_exit (blockE_exit (thenE_norm ?_))))
      refine wpE_seq ?_
      have h2 : i = 2 := by omega
      subst h2
      have hnew : newN k ds 2 = newest k ds := rfl
      rw [hnew] at hbe4
      rw [hnew]
      have hbe5 := hbe4
      have hob4 := hbe4.six
      obtain ⟨a1, a2, a3, a4, hcs, hcell, hall⟩ := hob4
      subst hcs
      have htl : (triedN ds 2).length = 64 := by
        have hq : ∀ j, (numsL (regS ds j)).length = 32 := fun j => by unfold numsL; rw [show (regS ds j).length = 1024 from DSt.reads_length _ _ _]; exact numsN_length _ _
        simp [triedN, hq]
      have hob5 : ∃ com, com = comOf (newest k ds) := ⟨_, rfl⟩
      obtain ⟨com, hcom⟩ := hob5
      have hob6 : ∃ ep, ep = epOf (newest k ds) := ⟨_, rfl⟩
      obtain ⟨ep, hep⟩ := hob6
      rw [← hcom, ← hep] at hB4 hbe5
      rw [← hep] at hall
      rw [← hcom, ← hep] at hcell
      refine wpE_draw mixed (.read 0 (.pure 1 (.read 2 (.pure 3 (.eff 4 [0] (.eff 5 [] (.pure 6 (.pure 7 (.pure 8 .nil))))))))) (by kernel_rfl) ?_
      refine wpP_read rfl rfl rfl (fun w' => Blk w' b8 [a1, a2, a3, a4, .int .u64 com.toNat, .int .u32 ep.toNat]) (hB4) (fun w1 h1 => x_loadA Tryz.underlying125 rfl I125 rfl (h1.at (l := [a1, a2, a3, a4, .int .u64 com.toNat, .int .u32 ep.toNat]) (off := 0) rfl) rfl) ?_
      refine wpP_pure rfl rfl rfl (fun _ => x_move) ?_
      refine wpP_read rfl rfl rfl (fun w' => Blk w' b8 [a1, a2, a3, a4, .int .u64 com.toNat, .int .u32 ep.toNat]) (hB4) (fun w1 h1 => x_loadA Tryz.underlying125 rfl I125 rfl (h1.at (l := [a1, a2, a3, a4, .int .u64 com.toNat, .int .u32 ep.toNat]) (off := 0) rfl) rfl) ?_
      refine wpP_pure rfl rfl rfl (fun _ => x_move) ?_
      refine wpP_call rfl rfl rfl C116 (next_ok2 _ a1 a2 a3 a4 (.int .u32 ep.toNat) com v4 (triedN ds 2) (ho4.sl.mod0 (drw _)) (by omega) hall) ?_
      rintro _ w5 ⟨rfl, hc5⟩
      have hc5 : Chg [] w4 w5 := (drw w4).tr hc5
      refine ⟨⟨hB4.chg0 hc5, trivial⟩, ?_⟩
      have k2 := hc2.1
      have k1 := hc1.1
      have k4 := hc4.1
      have k5 := hc5.1
      have hB45 : Blk w5 b4 sup0C := ((hB2.chg0 hc3).nb hc4 (by omega)).chg0 hc5
      refine wpP_exs rfl rfl rfl (x_storeB (l := [a1, a2, a3, a4, .int .u64 com.toNat, .int .u32 ep.toNat]) I125 rfl rfl hB45 rfl rfl (Nat.le_refl 6) hcell (spl_all rfl)) ?_
      rintro w6 ⟨hB6, hc6, hs6⟩
      refine ⟨trivial, ?_⟩
      refine wpP_pure rfl rfl rfl (fun _ => x_assign) ?_
      refine wpP_pure rfl rfl rfl (fun _ => x_assign) ?_
      refine wpP_pure rfl rfl rfl (fun _ => x_assign) ?_
      refine wpP_nil (thenE_norm ?_)
      refine wpE_ret (fin_retR ?_)
      have hnn : nextL com (triedN ds 2) = newNext k ds := by rw [hcom]; rfl
      rw [hnn]
      refine ⟨[.agg #[a1, a2, a3, a4, .int .u64 com.toNat, .int .u32 ep.toNat], .int .i64 (atOf (newest k ds)), .int .u64 (newNext k ds).toNat, .int .i64 0], ⟨⟨_, rfl, run_loadVarA Tryz.underlying125 rfl I125 (hB6.at (l := [a1, a2, a3, a4, .int .u64 com.toNat, .int .u32 ep.toNat]) (off := 0) rfl) rfl⟩, rfl, rfl, rfl, trivial⟩, ⟨[a1, a2, a3, a4, .int .u64 com.toNat, .int .u32 ep.toNat], ?_, rfl⟩, ?_⟩
      · have hb := (hbe5.chg hc5).chg1 hc6 (n := w3.heap.size) (by omega)
        unfold BestC at hb ⊢
        split at hb
        · exact hb
        · obtain ⟨u, r, q1, q2, q3, q4, q5, q6⟩ := hb
          exact ⟨u, r, q1, q2, q3, by omega, by omega, q6⟩
      · exact (hc03.t1 hc4 (by omega)).tr0 hc5 |>.t1 hc6 (by omega)
end Go.Proofs.YtenhmbhflgnhlaaGreat

