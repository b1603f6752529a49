/- Any play of puts, erasures, lost powers and crashes leaves each slot as it was told, or as the step in whose midst the power went allows. -/
import Derived.Test.YtenhmbhflgnhlaaQLaw12
import Derived.Test.YtenhmbhflgnhlaaSac1
namespace Go.Proofs.Ytenhmbhflgnhlaa
open Go Go.Sac
set_option maxRecDepth 100000
set_option maxHeartbeats 4000000
def cntM (l : List SlM) (i : Nat) : Nat := ((List.range i).filter fun j => (l.getD j sm0).inn).length
def freeM (l : List SlM) : Nat → Int
  | 0 => -1
  | i + 1 => if 0 ≤ freeM l i then freeM l i else if (l.getD i sm0).inn then -1 else (i : Int)
theorem freeM_cases (l : List SlM) (i : Nat) : (freeM l i = -1 ∧ ∀ j, j < i → (l.getD j sm0).inn = true) ∨ ∃ j : Nat, freeM l i = j ∧ j < i ∧ (l.getD j sm0).inn = false ∧ ∀ k, k < j → (l.getD k sm0).inn = true := by
  induction i with
  | zero => exact .inl ⟨rfl, fun j hj => by omega⟩
  | succ i ih =>
    rcases ih with ⟨h1, h2⟩ | ⟨j, h1, h2, h3, h4⟩
    · rw [freeM, h1, if_neg (by decide)]
      cases hi : (l.getD i sm0).inn with
      | true =>
        left
        refine ⟨by simp, fun j hj => ?_⟩
        by_cases hji : j = i
        · subst hji; exact hi
        · exact h2 j (by omega)
      | false => right; exact ⟨i, by simp, by omega, hi, h2⟩
    · right
      rw [freeM, h1, if_pos (by omega)]
      exact ⟨j, rfl, by omega, h3, h4⟩
theorem freeM_free (l : List SlM) (s : SSt) (h : Obs s l) : freeS s 24 0 = freeM l 24 := by
  have hF : ∀ j : Nat, 0 ≤ j → j < 0 + 24 → (mget (j : Int) s.full).isSome = (l.getD j sm0).inn := fun j _ hj => obsX_in (h j (by omega))
  rcases freeS_eq 24 0 hF with ⟨h1, h2⟩ | ⟨j, h1, _, h3, h4, h5⟩
  · rcases freeM_cases l 24 with ⟨h6, _⟩ | ⟨k, h6, h7, h8, _⟩
    · rw [h1, h6]
    · have := h2 k (by omega) (by omega); rw [h8] at this; cases this
  · rcases freeM_cases l 24 with ⟨h6, h7⟩ | ⟨k, h6, h7, h8, h9⟩
    · have := h7 j (by omega); rw [h4] at this; cases this
    · rw [h1, h6]
      rcases Nat.lt_trichotomy j k with hjk | rfl | hjk
      · have := h9 j hjk; rw [h4] at this; cases this
      · rfl
      · have := h5 k (by omega) hjk; rw [h8] at this; cases this
theorem used_split (s : SSt) (i : Nat) (hi : i < 24) (hx : (mget (i : Int) s.full).isSome = true) : (usedS s 24)[(usedS s i).length]? = some (i : Int) := by
  have hs : ∀ a b : Nat, usedS s (a + b) = usedS s a ++ ((((List.range b).map fun (k : Nat) => ((a + k : Nat) : Int))).filter fun k => (mget k s.full).isSome) := by
    intro a b
    unfold usedS
    rw [List.range_add, List.map_append, List.filter_append, List.map_map]
    rfl
  obtain ⟨k, hk⟩ : ∃ k, 24 = i + (k + 1) := ⟨24 - i - 1, by omega⟩
  rw [hk, hs, List.range_succ_eq_map, List.map_cons, List.filter_cons_of_pos (by simpa using hx), List.getElem?_append_right (Nat.le_refl _), Nat.sub_self]
  simp
theorem used_isSome (s : SSt) (n : Nat) {k : Nat} {x : Int} (h : (usedS s n)[k]? = some x) : (mget x s.full).isSome = true := by
  have := List.mem_of_getElem? h
  unfold usedS at this
  exact (List.mem_filter.1 this).2
theorem used_succ (s : SSt) (i : Nat) : usedS s (i + 1) = usedS s i ++ (if (mget (i : Int) s.full).isSome then [(i : Int)] else []) := by
  unfold usedS
  rw [List.range_succ, List.map_append, List.filter_append]
  congr 1
  cases hg : (mget (i : Int) s.full).isSome <;> simp [hg]
theorem alike_ok (w : World) (sb fr b : Nat) (s : SSt) (l : List SlM) (hs : SlotAt w sb fr b s) (hl : l.length = 24) :
    Ret Try.prog 22 #[.pointer (some ⟨sb, 0, none⟩), arrV l] w fun v w' => (∃ t, v = .bool t ∧ (t = true ↔ Obs s l)) ∧ Chg [] w w' := by
  refine enter [4] Try.func22 rfl rfl (Nat.le_of_ble_eq_true rfl) ?_
  refine wpE_seq ?_
  refine wpE_region ?_
  refine wpL_boxA (l := l) rfl rfl ?_
  rintro w1 b1 hn1 ha1 hc1 hl1
  refine wpL_value rfl x_assign ?_
  refine wpL_nil (thenE_norm ?_)
  refine wpE_seq ?_
  refine wpE_region ?_
  refine wpL_value rfl x_move ?_
  refine wpL_call rfl C16 (Used_ok w1 sb fr b s (hs.chg0 hc1)) ?_
  rintro v2 w2 ⟨ho2, hc2⟩
  have hob1 := ho2.form rfl
  obtain ⟨p2, c2, hv2⟩ := hob1
  subst hv2
  have hul : (usedS s 24).length ≤ 24 := by
    unfold usedS
    exact Nat.le_trans (List.length_filter_le _ _) (by simp)
  refine wpL_value rfl x_assign ?_
  refine wpL_nil (thenE_norm ?_)
  refine wpE_seq ?_
  refine wpE_region ?_
  refine wpL_value rfl x_assign (wpL_value rfl x_assign ?_)
  refine wpL_nil (thenE_norm ?_)
  refine wpE_seq ?_
  refine wpE_seq ?_
  refine wpE_region ?_
  refine wpL_value rfl x_assign ?_
  refine wpL_nil (thenE_norm ?_)
  refine wpE_block ?_
  refine wpE_loop [6, 7, 8] [4, 6, 7, 8, 9, 10, 11, 12, 15, 16, 17, 18, 19, 20, 21, 22, 23, 24, 25, 26, 27, 28, 29, 30, 31, 32, 33, 34, 35, 36, 37, 38, 39, 40, 41, 42, 43, 44, 45, 46, 47, 48, 49, 50, 51, 52, 53, 54, 55, 56, 57, 58, 59, 60, 61, 62, 63, 64, 65, 66, 67, 68, 69, 70, 71, 72, 73, 74, 75] (fun n vs w' => ∃ (i : Nat), vs = [.int .i64 (usedS s i).length, .int .i64 (freeM l i), .int .i64 i] ∧ i + n = 24 ∧ Chg [] w2 w' ∧ ∀ j : Nat, j < i → obsX j (l.getD j sm0) (mget (j : Int) s.full)) (24) (by kernel_rfl) ?_ ?_
  · exact ⟨0, rfl, rfl, Chg.refl _, fun j hj => by omega⟩
  · rintro n vs J w3 ⟨i, rfl, hi, hc3, hO⟩
    refine wpE_seq ?_
    refine wpE_seq ?_
    refine wpE_region ?_
    refine wpL_value rfl x_move (wpL_value rfl (x_lss rfl rfl) ?_)
    refine wpL_nil (thenE_norm ?_)
    have hc13 : Chg [] w1 w3 := hc2.tr hc3
    have ha3 := ha1.chg0 hc13
    have hs3 := hs.chg0 (hc1.tr hc13)
    refine wpE_cond_d rfl (fun h24 => ?_) (fun h24 => ?_)
    · skip
      refine wpE_skip (thenE_norm ?_)
      refine wpE_seq ?_
      refine wpE_block ?_
      refine wpE_seq ?_
      refine wpE_seq ?_
      refine wpE_region ?_
      refine wpL_value rfl x_move ?_
      have hob2 : ∃ q, n = q + 1 := ⟨n - 1, by omega⟩
      obtain ⟨n, rfl⟩ := hob2
      have hli : l[i]? = some (l.getD i sm0) := getD_some (by omega)
      have hob3 : ∃ m, m = l.getD i sm0 := ⟨_, rfl⟩
      obtain ⟨m, hm⟩ := hob3
      rw [← hm] at hli
      have hgs := getS_getX s (i := i) (by omega) (keyN m.kek)
      have hob4 : ∃ x, x = mget (i : Int) s.full := ⟨_, rfl⟩
      obtain ⟨x, hx⟩ := hob4
      rw [← hx] at hgs
      have hgl := getX_len x i (keyN m.kek)
      refine wpL_value rfl (x_idxA (i) Try.underlying52 I51 rfl rfl (by first | rfl | omega) (by first | assumption | omega)) ?_
      refine wpL_value rfl (x_fieldAddr Try.underlying51 rfl I4 rfl rfl) ?_
      refine wpL_value rfl (x_load Try.underlying4 rfl rfl (ha3.cell hli (j := 0) rfl (by decide) rfl)) ?_
      refine wpL_value rfl (x_not rfl) ?_
      refine wpL_nil (thenE_norm ?_)
      refine wpE_cond rfl (fun hin => ?_) (fun hin => ?_)
      · skip
        have hin : m.inn = false := by simpa using hin
        have hfm : freeM l (i + 1) = if 0 ≤ freeM l i then freeM l i else (i : Int) := by rw [freeM, ← hm, hin]; rfl
        refine wpE_cut [7] [7, 24, 25, 26] (fun vs w' => vs = [.int .i64 (freeM l (i + 1))] ∧ w3 = w') (by kernel_rfl) ?_ ?_
        · skip
          refine wpE_seq ?_
          refine wpE_region ?_
          refine wpL_value rfl x_move (wpL_value rfl (x_lss rfl rfl) ?_)
          refine wpL_nil (thenE_norm ?_)
          refine wpE_cond_d rfl (fun hfr => ?_) (fun hfr => ?_)
          · skip
            refine wpE_region ?_
            refine wpL_value rfl x_move (wpL_value rfl x_assign ?_)
            refine wpL_nil (thenE_norm ?_)
            exact ⟨by rw [hfm, if_neg (by omega)]; rfl, rfl⟩
          · skip
            refine wpE_skip (thenE_norm ?_)
            exact ⟨by rw [hfm, if_pos (by omega)]; rfl, rfl⟩
        · rintro vs J w4 ⟨rfl, rfl⟩
          refine wpE_seq ?_
          refine wpE_region ?_
          refine wpL_value rfl x_move (wpL_value rfl x_move (wpL_value rfl x_move ?_))
          refine wpL_value rfl (x_idxA (i) Try.underlying52 I51 rfl rfl (by first | rfl | omega) (by first | assumption | omega)) ?_
          refine wpL_value rfl (x_fieldAddr Try.underlying51 rfl I5 rfl rfl) ?_
          refine wpL_value rfl (x_load Try.underlying5 rfl rfl (ha3.cell hli (j := 1) rfl (by decide) rfl)) ?_
          refine wpL_call rfl C13 (key_ok m.kek _) ?_
          rintro _ w5 ⟨rfl, hc5⟩
          refine wpL_call rfl C15 (Get2_ok w5 sb fr b s i (keyN m.kek) (hs3.chg0 hc5) rfl) ?_
          rintro v6 w6 ⟨hv6, hc6⟩
          rw [hgs] at hv6
          subst hv6
          refine wpL_value rfl x_move (wpL_value rfl (x_extract rfl rfl) (wpL_value rfl (x_extract rfl rfl) ?_))
          refine wpL_allocA (List.replicate 32 (0 : UInt8)) I33 rfl rfl rfl ?_
          rintro w7 b7 hn7 ha7 hc7 hl7
          refine wpL_exs rfl (x_storeN 32 I33 rfl (ha7) rfl rfl (rfl) (hgl)) ?_
          rintro w8 ⟨ha8, hc8, hs8⟩
          refine wpL_value rfl x_assign ?_
          refine wpL_nil (thenE_norm ?_)
          refine wpE_seq ?_
          refine wpE_seq ?_
          refine wpE_region ?_
          refine wpL_value rfl x_move (wpL_value rfl (x_neq rfl rfl) ?_)
          refine wpL_nil (thenE_norm ?_)
          have hc38 : Chg [] w3 w8 := (hc5.tr hc6).tr (hc7.t1 hc8 hn7)
          refine wpE_cond_d rfl (fun h120 => ?_) (fun h120 => ?_)
          · skip
            refine wpE_seq ?_
            refine wpE_region ?_
            refine wpL_value rfl x_assign ?_
            refine wpL_nil (thenE_norm ?_)
            refine wpE_ret (thenE_ret (thenE_ret (blockE_ret (thenE_ret (thenE_ret (blockE_ret (thenE_ret (fin_ret ?_))))))))
            refine ⟨⟨false, rfl, ?_⟩, hc1.tr (hc13.tr hc38)⟩
            constructor
            · intro h; cases h
            · intro hOb
              have h1 := hOb i (by omega)
              rw [← hm, ← hx] at h1
              unfold obsX at h1
              rw [if_neg (by rw [hin]; decide)] at h1
              exact absurd ((getX_120 x i _).2 h1) h120
          · skip
            refine wpE_skip (thenE_norm ?_)
            refine wpE_exit (thenE_exit (blockE_exit (thenE_norm ?_)))
            refine wpE_region ?_
            refine wpL_value rfl x_move (wpL_value rfl (x_add64 rfl rfl (by omega)) (wpL_value rfl x_assign ?_))
            refine wpL_nil (thenE_norm ?_)
            have hxn := (getX_120 x i _).1 (Decidable.not_not.1 h120)
            refine Exists.intro (n) (And.intro (by omega) ?_)
            refine ⟨i + 1, vs_cons (int_eq ?_) (vs_cons rfl (vs_cons (int_eq rfl) vs_nil)), by omega, hc3.tr hc38, fun j hj => ?_⟩
            · rw [used_succ, ← hx, hxn]; simp
            · by_cases hji : j = i
              · subst hji
                rw [← hm, ← hx]
                unfold obsX
                rw [if_neg (by rw [hin]; decide)]; exact hxn
              · exact hO j (by omega)
      · skip
        refine wpE_skip (thenE_norm ?_)
        refine wpE_seq ?_
        refine wpE_seq ?_
        refine wpE_region ?_
        refine wpL_value rfl x_move (wpL_value rfl x_move (wpL_value rfl (x_len_slice rfl Try.underlying43) ?_))
        have hin : m.inn = true := by simpa using hin
        have hfm : freeM l (i + 1) = freeM l i := by
          rw [freeM, ← hm, hin]
          rcases freeM_cases l i with ⟨h1, _⟩ | ⟨k, h1, _⟩ <;> rw [h1] <;> simp
        have ho3 := ho2.mod0 hc3
        have hnot : x.isSome = false → ¬ Obs s l := fun hxs hOb => by
          have h1 := obsX_in (hOb i (by omega))
          rw [← hm, ← hx, hin, hxs] at h1; cases h1
        by_cases hge : ((usedS s 24).length : Int) ≤ (usedS s i).length
        · skip
          refine wpL_value rfl (x_to (x_geq rfl rfl) (congrArg Value.bool (decide_eq_true (hge)))) ?_
          refine wpL_value rfl x_move (wpL_no rfl rfl (wpL_no rfl rfl (wpL_no rfl rfl (wpL_no rfl rfl (wpL_no rfl rfl (wpL_no rfl rfl (wpL_value rfl (x_pick_t rfl) ?_)))))))
          refine wpL_nil (thenE_norm ?_)
          refine wpE_cond_t (rfl) ?_
          refine wpE_seq ?_
          refine wpE_region ?_
          refine wpL_value rfl x_assign ?_
          refine wpL_nil (thenE_norm ?_)
          refine wpE_ret (thenE_ret (blockE_ret (thenE_ret (thenE_ret (blockE_ret (thenE_ret (fin_ret ?_)))))))
          refine ⟨⟨false, rfl, ⟨fun h => (by cases h), fun hOb => ?_⟩⟩, hc1.tr hc13⟩
          cases hxs : x.isSome with
          | false => exact absurd hOb (hnot hxs)
          | true =>
            have h1 := used_split s i (by omega) (by rw [← hx]; exact hxs)
            have h2 := (List.getElem?_eq_some_iff.1 h1).1
            omega
        · skip
          refine wpL_value rfl (x_to (x_geq rfl rfl) (congrArg Value.bool (decide_eq_false (hge)))) ?_
          refine wpL_value rfl x_move (wpL_yes rfl (wpL_value rfl x_move (wpL_yes rfl (wpL_value rfl x_move (wpL_yes rfl ?_)))))
          have hlt : (usedS s i).length < (usedS s 24).length := by omega
          have hui : (usedS s 24)[(usedS s i).length]? = some ((usedS s 24).getD (usedS s i).length 0) := getD_some hlt
          refine wpL_ex rfl (x_idx ((usedS s i).length) Try.underlying43 I3 rfl (ho3.sl) rfl rfl (by first | rfl | omega) (hlt)) ?_
          rintro _ ⟨bi, oi, rfl, hei, hbi⟩
          refine wpL_yes rfl ?_
          refine wpL_value rfl (x_load Try.underlying3 rfl rfl ((ho3.sl.at hei hui).c0 rfl)) ?_
          refine wpL_yes rfl (wpL_value rfl x_move (wpL_yes rfl (wpL_value rfl (x_neq rfl rfl) (wpL_value rfl (x_pick_f rfl) ?_))))
          refine wpL_nil (thenE_norm ?_)
          refine wpE_cond_d rfl (fun hne => ?_) (fun hne => ?_)
          · skip
            refine wpE_seq ?_
            refine wpE_region ?_
            refine wpL_value rfl x_assign ?_
            refine wpL_nil (thenE_norm ?_)
            refine wpE_ret (thenE_ret (blockE_ret (thenE_ret (thenE_ret (blockE_ret (thenE_ret (fin_ret ?_)))))))
            refine ⟨⟨false, rfl, ⟨fun h => (by cases h), fun hOb => ?_⟩⟩, hc1.tr hc13⟩
            cases hxs : x.isSome with
            | false => exact absurd hOb (hnot hxs)
            | true =>
              have h1 := used_split s i (by omega) (by rw [← hx]; exact hxs)
              rw [hui] at h1
              exact absurd (Option.some.inj h1) hne
          · skip
            refine wpE_skip (thenE_norm ?_)
            refine wpE_seq ?_
            refine wpE_region ?_
            refine wpL_value rfl x_move (wpL_value rfl (x_add64 rfl rfl (by omega)) (wpL_value rfl x_assign ?_))
            refine wpL_nil (thenE_norm ?_)
            refine wpE_seq ?_
            refine wpE_region ?_
            refine wpL_value rfl x_move (wpL_value rfl x_move (wpL_value rfl x_move ?_))
            have hne := Decidable.not_not.1 hne
            have hxs : x.isSome = true := by
              have := used_isSome s 24 hui
              rw [hne, ← hx] at this; exact this
            refine wpL_value rfl (x_idxA (i) Try.underlying52 I51 rfl rfl (by first | rfl | omega) (by first | assumption | omega)) ?_
            refine wpL_value rfl (x_fieldAddr Try.underlying51 rfl I5 rfl rfl) ?_
            refine wpL_value rfl (x_load Try.underlying5 rfl rfl (ha3.cell hli (j := 1) rfl (by decide) rfl)) ?_
            refine wpL_call rfl C13 (key_ok m.kek _) ?_
            rintro _ w5 ⟨rfl, hc5⟩
            refine wpL_call rfl C15 (Get2_ok w5 sb fr b s i (keyN m.kek) (hs3.chg0 hc5) rfl) ?_
            rintro v6 w6 ⟨hv6, hc6⟩
            rw [hgs] at hv6
            subst hv6
            refine wpL_value rfl x_move (wpL_value rfl (x_extract rfl rfl) (wpL_value rfl (x_extract rfl rfl) ?_))
            refine wpL_allocA (List.replicate 32 (0 : UInt8)) I33 rfl rfl rfl ?_
            rintro w7 b7 hn7 ha7 hc7 hl7
            refine wpL_exs rfl (x_storeN 32 I33 rfl (ha7) rfl rfl (rfl) (hgl)) ?_
            rintro w8 ⟨ha8, hc8, hs8⟩
            refine wpL_value rfl x_assign ?_
            refine wpL_nil (thenE_norm ?_)
            refine wpE_seq ?_
            have hc38 : Chg [] w3 w8 := (hc5.tr hc6).tr (hc7.t1 hc8 hn7)
            have ha38 := ha3.chg0 hc38
            have hOi : obsX i m x ↔ getX x i (keyN m.kek) = (keyN m.key, 0) := by unfold obsX; rw [if_pos hin]
            refine wpE_draw mixed (.pure 0 (.pure 1 (.pure 2 (.read 3 (.pure 4 (.pure 5 (.pure 6 (.read 7 (.eff 8 [3] (.pure 9 (.pure 10 .nil))))))))))) (by kernel_rfl) ?_
            refine wpP_pure rfl rfl rfl (fun _ => x_move) ?_
            by_cases h0 : (getX x i (keyN m.kek)).2 = 0
            · skip
              refine wpP_pure rfl rfl rfl (fun _ => x_to (x_neq rfl rfl) (congrArg Value.bool (decide_eq_false (fun h => h h0)))) ?_
              refine wpP_pure rfl rfl rfl (fun _ => x_move) ?_
              refine wpP_rdA 32 rfl rfl rfl Try.underlying33 rfl I33 rfl rfl (ha8) (hgl) ?_
              refine wpP_pure rfl rfl rfl (fun _ => x_move) ?_
              refine wpP_pure rfl rfl rfl (fun _ => x_idxA (i) Try.underlying52 I51 rfl rfl (by first | rfl | omega) (by first | assumption | omega)) ?_
              refine wpP_pure rfl rfl rfl (fun _ => (x_fieldAddr Try.underlying51 rfl I5 rfl rfl)) ?_
              refine wpP_rd rfl rfl rfl Try.underlying5 rfl rfl (ha38.cell hli (j := 2) rfl (by decide) rfl) ?_
              refine wpP_call rfl rfl rfl C13 (key_ok m.key _) ?_
              rintro _ w9 ⟨rfl, hc9⟩
              have hc9 : Chg [] w8 w9 := hc9
              refine ⟨⟨ha8.chg0 hc9, trivial⟩, ?_⟩
              refine wpP_pure rfl rfl rfl (fun _ => x_neArr Try.underlying33 I5 rfl Try.underlying5 (by kernel_rfl) rfl rfl (hgl) (rfl)) ?_
              refine wpP_pure rfl rfl rfl (fun _ => (x_pick_f rfl)) ?_
              refine wpP_nil (thenE_norm ?_)
              refine wpE_cond_d rfl (fun hkk => ?_) (fun hkk => ?_)
              · skip
                refine wpE_seq ?_
                refine wpE_region ?_
                refine wpL_value rfl x_assign ?_
                refine wpL_nil (thenE_norm ?_)
                refine wpE_ret (blockE_ret (thenE_ret (thenE_ret (blockE_ret (thenE_ret (fin_ret ?_))))))
                refine ⟨⟨false, rfl, ⟨fun h => (by cases h), fun hOb => ?_⟩⟩, hc1.tr (hc13.tr (hc38.tr hc9))⟩
                have h1 := hOb i (by omega)
                rw [← hm, ← hx, hOi] at h1
                exact absurd (congrArg (·.1) h1) hkk
              · skip
                refine wpE_skip (blockE_norm (thenE_norm ?_))
                refine wpE_region ?_
                refine wpL_value rfl x_move (wpL_value rfl (x_add64 rfl rfl (by omega)) (wpL_value rfl x_assign ?_))
                refine wpL_nil (thenE_norm ?_)
                refine Exists.intro (n) (And.intro (by omega) ?_)
                refine ⟨i + 1, vs_cons (int_eq ?_) (vs_cons (congrArg (Value.int .i64) hfm.symm) (vs_cons (int_eq rfl) vs_nil)), by omega, hc3.tr (hc38.tr hc9), fun j hj => ?_⟩
                · rw [used_succ, ← hx, if_pos hxs]; simp
                · by_cases hji : j = i
                  · subst hji
                    rw [← hm, ← hx, hOi]
                    exact Prod.ext (Decidable.not_not.1 hkk) h0
                  · exact hO j (by omega)
            · skip
              refine wpP_pure rfl rfl rfl (fun _ => x_to (x_neq rfl rfl) (congrArg Value.bool (decide_eq_true (h0)))) ?_
              refine wpP_pure rfl rfl rfl (fun _ => x_move) ?_
              refine wpP_nor rfl rfl rfl ?_
              refine wpP_no rfl rfl rfl ?_
              refine wpP_no rfl rfl rfl ?_
              refine wpP_no rfl rfl rfl ?_
              refine wpP_nor rfl rfl rfl ?_
              refine wpP_noe rfl rfl rfl ?_
              refine wpP_no rfl rfl rfl ?_
              refine wpP_pure rfl rfl rfl (fun _ => (x_pick_t rfl)) ?_
              refine wpP_nil (thenE_norm ?_)
              refine wpE_cond_t (rfl) ?_
              refine wpE_seq ?_
              refine wpE_region ?_
              refine wpL_value rfl x_assign ?_
              refine wpL_nil (thenE_norm ?_)
              refine wpE_ret (blockE_ret (thenE_ret (thenE_ret (blockE_ret (thenE_ret (fin_ret ?_))))))
              refine ⟨⟨false, rfl, ⟨fun h => (by cases h), fun hOb => ?_⟩⟩, hc1.tr (hc13.tr hc38)⟩
              have h1 := hOb i (by omega)
              rw [← hm, ← hx, hOi] at h1
              exact absurd (congrArg (·.2) h1) h0
    · skip
      refine wpE_exit (thenE_exit (thenE_exit (blockE_exit (thenE_norm ?_))))
      refine wpE_seq ?_
      refine wpE_region ?_
      refine wpL_value rfl x_move (wpL_value rfl x_move (wpL_value rfl (x_len_slice rfl Try.underlying43) ?_))
      have hob5 : i = 24 := by omega
      obtain rfl := hob5
      have hOb : Obs s l := hO
      refine wpL_value rfl (x_to (x_eql rfl rfl) (congrArg Value.bool (decide_eq_true (rfl)))) ?_
      refine wpL_value rfl x_move (wpL_yes rfl (wpL_value rfl x_move (wpL_yes rfl ?_)))
      refine wpL_call rfl C11 (Free_ok w3 sb fr b s hs3) ?_
      rintro _ w4 ⟨rfl, hc4⟩
      refine wpL_yes rfl (wpL_value rfl x_move (wpL_yes rfl (wpL_value rfl (x_eql rfl rfl) (wpL_value rfl (x_pick_t rfl) (wpL_value rfl x_assign ?_)))))
      refine wpL_nil (thenE_norm ?_)
      refine wpE_ret (fin_ret ?_)
      refine ⟨⟨true, ?_, ⟨fun _ => hOb, fun _ => rfl⟩⟩, hc1.tr (hc13.tr hc4)⟩
      exact congrArg Value.bool (decide_eq_true (freeM_free l s hOb))
end Go.Proofs.Ytenhmbhflgnhlaa
