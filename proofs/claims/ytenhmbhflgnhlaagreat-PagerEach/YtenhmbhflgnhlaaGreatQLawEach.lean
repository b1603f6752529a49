/- Pages each with their own bytes tell them, in whatever order they were written. It holds for every input; there are no conditions. -/
import Derived.Test.YtenhmbhflgnhlaaGreatQLaw7b
import Derived.Test.YtenhmbhflgnhlaaGreatSac1
import Derived.Test.YtenhmbhflgnhlaaGreatSac2
namespace Go.Proofs.YtenhmbhflgnhlaaGreat
open Go Go.Sac
set_option maxRecDepth 100000
set_option maxHeartbeats 4000000
def idsL (i : Nat) : List UInt32 := (List.range i).map UInt32.ofNat
theorem idsL_length (i : Nat) : (idsL i).length = i := by simp [idsL]
theorem idsL_get (n i : Nat) (h : i < n) : (idsL n)[i]? = some (UInt32.ofNat i) := by
  unfold idsL; rw [List.getElem?_map, List.getElem?_range h]; rfl
theorem idsL_succ (i : Nat) : idsL i ++ [UInt32.ofNat i] = idsL (i + 1) := by unfold idsL; rw [List.range_succ]; simp
theorem rot_all (n x j : Nat) (hj : j < n) : ∃ t, t < n ∧ (t + x) % n = j := by
  have hx := Nat.mod_lt x (show 0 < n by omega)
  by_cases h : x % n ≤ j
  · refine ⟨j - x % n, by omega, ?_⟩
    have h1 : (j - x % n + x) % n = (j - x % n + x % n) % n := by rw [Nat.add_mod, Nat.add_mod (j - x % n) (x % n), Nat.mod_mod]
    rw [h1, show j - x % n + x % n = j by omega, Nat.mod_eq_of_lt hj]
  · refine ⟨j + n - x % n, by omega, ?_⟩
    have h1 : (j + n - x % n + x) % n = (j + n - x % n + x % n) % n := by rw [Nat.add_mod, Nat.add_mod (j + n - x % n) (x % n), Nat.mod_mod]
    rw [h1, show j + n - x % n + x % n = j + n by omega, Nat.add_mod_right, Nat.mod_eq_of_lt hj]
theorem PagerEach_ok (w : World) (lv : Value) (l : List SliceV) (hl : Sl w lv l) (hok : ∀ a ∈ l, ∃ b : List UInt8, SlE w a.1 b ∧ ∀ x ∈ b, True) (x1 : UInt8) :
    Ret Tryz.prog 6 #[lv, .int .u8 x1.toNat] w fun v w' => v = .bool true ∧ Chg [] w w' := by
  have hx1 := x1.toNat_lt
  obtain ⟨f, hf⟩ : ∃ f : SliceV → List UInt8, ∀ a ∈ l, SlE w a.1 (f a) := by
    classical
    exact ⟨fun a => if h : ∃ b : List UInt8, SlE w a.1 b ∧ ∀ x ∈ b, True then h.choose else [], fun a ha => by simp only [dif_pos (hok a ha)]; exact (hok a ha).choose_spec.1⟩
  obtain ⟨pl, cl, rfl⟩ := hl.form rfl
  refine enter [4] Tryz.func6 rfl rfl (Nat.le_of_ble_eq_true rfl) ?_
  refine wpE_seq ?_
  refine wpE_region ?_
  refine wpL_value rfl x_assign ?_
  refine wpL_nil (thenE_norm ?_)
  refine wpE_seq ?_
  refine wpE_seq ?_
  refine wpE_region ?_
  refine wpL_call rfl C19 (known7_ok w) ?_
  rintro _ w1 ⟨rfl, hc1⟩
  refine wpL_value rfl (x_not rfl) ?_
  refine wpL_nil (thenE_norm ?_)
  refine wpE_cond_f (rfl) ?_
  refine wpE_skip (thenE_norm ?_)
  refine wpE_seq ?_
  refine wpE_seq ?_
  refine wpE_region ?_
  refine wpL_value rfl x_move (wpL_value rfl (x_len_slice rfl Tryz.underlying64) ?_)
  by_cases hz : l.length = 0 ∨ 8 < l.length
  · skip
    by_cases hz0 : l.length = 0
    · skip
      refine wpL_value rfl (x_to (x_eql rfl rfl) (congrArg Value.bool (decide_eq_true (by omega)))) ?_
      refine wpL_value rfl x_move (wpL_no rfl rfl (wpL_no rfl rfl (wpL_no rfl rfl (wpL_value rfl (x_pick_t rfl) ?_))))
      refine wpL_nil (thenE_norm ?_)
      refine wpE_cond_t (rfl) ?_
      refine wpE_seq ?_
      refine wpE_region ?_
      refine wpL_value rfl x_assign ?_
      refine wpL_nil (thenE_norm ?_)
      refine wpE_ret (thenE_ret (fin_ret ?_))
      exact ⟨rfl, hc1⟩
    · skip
      refine wpL_value rfl (x_to (x_eql rfl rfl) (congrArg Value.bool (decide_eq_false (fun h => by omega)))) ?_
      refine wpL_value rfl x_move (wpL_yes rfl (wpL_value rfl x_move (wpL_yes rfl (wpL_value rfl (x_len_slice rfl Tryz.underlying64) (wpL_yes rfl (wpL_value rfl (x_gtr rfl rfl) (wpL_value rfl (x_pick_f rfl) ?_)))))))
      refine wpL_nil (thenE_norm ?_)
      refine wpE_cond_dt rfl (by omega) ?_
      refine wpE_seq ?_
      refine wpE_region ?_
      refine wpL_value rfl x_assign ?_
      refine wpL_nil (thenE_norm ?_)
      refine wpE_ret (thenE_ret (fin_ret ?_))
      exact ⟨rfl, hc1⟩
  · skip
    have hl0 : 0 < l.length := by omega
    have hl8 : l.length ≤ 8 := by omega
    refine wpL_value rfl (x_to (x_eql rfl rfl) (congrArg Value.bool (decide_eq_false (fun h => by omega)))) ?_
    refine wpL_value rfl x_move (wpL_yes rfl (wpL_value rfl x_move (wpL_yes rfl (wpL_value rfl (x_len_slice rfl Tryz.underlying64) (wpL_yes rfl (wpL_value rfl (x_gtr rfl rfl) (wpL_value rfl (x_pick_f rfl) ?_)))))))
    refine wpL_nil (thenE_norm ?_)
    refine wpE_cond_df rfl (fun h => by omega) ?_
    refine wpE_skip (thenE_norm ?_)
    refine wpE_seq ?_
    refine wpE_region ?_
    refine wpL_call rfl C20 (begun_run (n := 10) (by decide) V0 hc1) ?_
    rintro _ w2 ⟨b, kv, r, R, a, ds, mb, pv, ov, rfl, hS2, hM2, hMF, hc2⟩
    refine wpL_value rfl x_move (wpL_value rfl (x_extract rfl rfl) (wpL_value rfl (x_extract rfl rfl) (wpL_value rfl (x_extract rfl rfl) (wpL_value rfl (x_extract rfl rfl) (wpL_value rfl x_assign (wpL_value rfl x_assign (wpL_value rfl x_assign (wpL_value rfl x_assign ?_))))))))
    refine wpL_nil (thenE_norm ?_)
    refine wpE_seq ?_
    refine wpE_seq ?_
    refine wpE_region ?_
    refine wpL_value rfl x_move (wpL_value rfl (x_not rfl) ?_)
    refine wpL_nil (thenE_norm ?_)
    refine wpE_cond_f (rfl) ?_
    refine wpE_skip (thenE_norm ?_)
    refine wpE_seq ?_
    refine wpE_region ?_
    refine wpL_value rfl x_assign ?_
    refine wpL_nil (thenE_norm ?_)
    refine wpE_seq ?_
    refine wpE_seq ?_
    refine wpE_region ?_
    refine wpL_value rfl x_assign ?_
    refine wpL_nil (thenE_norm ?_)
    refine wpE_block ?_
    have hfw : ∀ {w' : World}, Chg [] w w' → ∀ a ∈ l, SlE w' a.1 (f a) := fun hc a ha => (hf a ha).mod0 hc
    have hbl : ∀ a ∈ l, f a ≠ [] → ∀ x ∈ blkOf a.1, x < w.heap.size := fun a ha hne => (hf a ha).lt hne
    refine wpE_loopF [0, 1, 5, 6, 9, 10] (fun q vs w' => ∃ (i : Nat) (iv : Value) (ds : DSt) (P : Pg) (V : UInt32 → List UInt8), vs = [.slice pl l.length cl, .int .u8 x1.toNat, .pointer (some ⟨b, 0, none⟩), .pointer (some ⟨R.pb, 0, none⟩), iv, .int .i64 i] ∧ i + q = l.length ∧ PS w w' b kv r R 10 1 k39 ds P V ∧ P.now.used = upU i ∧ P.now.written = noPg ∧ P.kept.used = noPg ∧ P.kept.written = noPg ∧ Own w' iv (idsL i) ∧ (∀ x ∈ blkOf iv, w.heap.size ≤ x ∧ x ∉ PF R ++ DF b kv r) ∧ (∀ j a, j < i → l[j]? = some a → (f a).length ≤ 480)) (l.length) ?_ ?_
    · exact ⟨0, .slice none 0 0, _, _, _, rfl, by omega, hS2, upU_zero.symm, rfl, rfl, rfl, Own.nil _, fun x hx => by simp [blkOf] at hx, fun j a hj => by omega⟩
    · rintro q vs J w3 ⟨i, iv, ds3, P3, V3, rfl, hi, hS3, hu3, hw3, hku3, hkw3, ho3, hiv3, hle3⟩
      refine wpE_seq ?_
      refine wpE_seq ?_
      refine wpE_region ?_
      refine wpL_value rfl x_move (wpL_value rfl x_move (wpL_value rfl (x_len_slice rfl Tryz.underlying64) (wpL_value rfl (x_lss rfl rfl) ?_)))
      refine wpL_nil (thenE_norm ?_)
      refine wpE_cond_d rfl (fun hlt => ?_) (fun hlt => ?_)
      · skip
        refine wpE_skip (thenE_norm ?_)
        refine wpE_seq ?_
        refine wpE_block ?_
        refine wpE_seq ?_
        refine wpE_region ?_
        refine wpL_value rfl x_move ?_
        have hob1 : ∃ z, q = z + 1 := ⟨q - 1, by omega⟩
        obtain ⟨q, rfl⟩ := hob1
        have hfr : ∀ j, j < 4294967296 → P3.free (UInt32.ofNat j) = !decide (j < i) := fun j hj => by
          unfold Pg.free
          rw [hu3, hku3, upU_of i j hj]
          simp [noPg]
        refine wpL_call rfl C21 (alloc_at hS3 i (by omega) (fun j hj => by rw [hfr j (by omega), decide_eq_true hj]; rfl) (by rw [hfr i (by omega), decide_eq_false (by omega)]; rfl)) ?_
        rintro _ w4 ⟨rfl, hS4, hc4⟩
        refine wpL_value rfl x_move (wpL_value rfl (x_extract rfl rfl) (wpL_value rfl (x_extract rfl rfl) (wpL_value rfl x_assign (wpL_value rfl x_assign ?_))))
        refine wpL_nil (thenE_norm ?_)
        refine wpE_seq ?_
        refine wpE_seq ?_
        refine wpE_region ?_
        refine wpL_value rfl x_move ?_
        have ho4 := ho3.mod hc4 (fun x hx => (hiv3 x hx).2)
        have hl4 := hl.mod0 hS4.now
        have hob2 : ∃ a, l[i]? = some a := ⟨l[i]'(by omega), List.getElem?_eq_getElem _⟩
        obtain ⟨ai, hai⟩ := hob2
        have hmem : ai ∈ l := List.mem_of_getElem? hai
        have hob3 := (hf ai hmem).form
        obtain ⟨pa, ca, hform⟩ := hob3
        refine wpL_value rfl (x_to (x_neq rfl rfl) (congrArg Value.bool (decide_eq_false (fun h => h rfl)))) ?_
        refine wpL_value rfl x_move (wpL_yes rfl (wpL_value rfl x_move (wpL_yes rfl (wpL_value rfl x_move (wpL_yes rfl ?_)))))
        refine wpL_ex rfl (x_idx (i) Tryz.underlying64 I41 rfl (hl4) rfl rfl (by first | rfl | omega) (by omega)) ?_
        rintro _ ⟨bi, oi, rfl, hei, hbi⟩
        refine wpL_yes rfl ?_
        refine wpL_value rfl (x_load Tryz.underlying41 rfl rfl (((hl4.at hei hai).c0 (congrArg some hform) : _ = some (Value.slice pa (f ai).length ca)))) ?_
        refine wpL_yes rfl (wpL_value rfl (x_len_slice rfl Tryz.underlying41) (wpL_yes rfl (wpL_value rfl (x_gtr rfl rfl) (wpL_value rfl (x_pick_f rfl) ?_))))
        refine wpL_nil (thenE_norm ?_)
        refine wpE_cond_d rfl (fun h480 => ?_) (fun h480 => ?_)
        · skip
          refine wpE_seq ?_
          refine wpE_region ?_
          refine wpL_value rfl x_move (wpL_value rfl (x_eql rfl rfl) (wpL_value rfl x_assign ?_))
          refine wpL_nil (thenE_norm ?_)
          refine wpE_ret (thenE_ret (blockE_ret (thenE_ret (thenE_ret (blockE_ret (thenE_ret (fin_ret ?_)))))))
          exact ⟨rfl, hS4.now⟩
        · skip
          refine wpE_skip (thenE_norm ?_)
          refine wpE_region ?_
          refine wpL_value rfl x_move (wpL_value rfl x_move ?_)
          refine wpL_push (UInt32.ofNat i) Tryz.underlying65 I34 rfl rfl rfl (by decide) (by decide) rfl rfl rfl rfl (ho4) (fun _ => rfl) (by rw [idsL_length]; omega) ?_
          rintro s5 v5 w5 h5
          refine wpL_value rfl x_assign ?_
          refine wpL_nil (blockE_norm (thenE_norm ?_))
          refine wpE_region ?_
          refine wpL_value rfl x_move (wpL_value rfl (x_add64 rfl rfl (by omega)) (wpL_value rfl x_assign ?_))
          refine wpL_nil (thenE_norm ?_)
          have hlt4 := hS4.lt
          have hk4 := hS4.now.1
          have hS5 := hS4.chg h5.mod (fun x hx hh => (hiv3 x hh).2 hx) (fun x hx => (hiv3 x hx).1)
          have hn4 : l.length ≤ 10 := by omega
          refine Exists.intro (q) (And.intro (by omega) ?_)
          refine ⟨i + 1, v5, ds3, _, V3, rfl, by omega, hS5, by show addPg P3.now.used _ = _; rw [hu3, upU_add i (by omega)], hw3, hku3, hkw3, by have := h5.own; rw [idsL_succ] at this; exact this, fun x hx => ?_, fun j a hj ha => ?_⟩
          · rcases h5.inn x hx with h | h
            · exact hiv3 x h
            · exact ⟨by omega, fun hh => by have := hlt4 x hh; omega⟩
          · rcases (by omega : j < i ∨ j = i) with hji | hji
            · exact hle3 j a hji ha
            · subst hji; rw [hai] at ha; cases ha; omega
      · skip
        refine wpE_exit (thenE_exit (thenE_exit (blockE_exit (thenE_norm ?_))))
        refine wpE_seq ?_
        refine wpE_seq ?_
        refine wpE_region ?_
        refine wpL_value rfl x_assign ?_
        refine wpL_nil (thenE_norm ?_)
        refine wpE_block ?_
        have hil : i = l.length := by omega
        subst hil
        refine wpE_loopF [0, 1, 5, 6, 9, 13] (fun q vs w' => ∃ (i : Nat) (ds : DSt) (P : Pg) (V : UInt32 → List UInt8), vs = [.slice pl l.length cl, .int .u8 x1.toNat, .pointer (some ⟨b, 0, none⟩), .pointer (some ⟨R.pb, 0, none⟩), iv, .int .i64 i] ∧ i + q = l.length ∧ PS w w' b kv r R 10 (i + 1) k39 ds P V ∧ P.now.used = upU l.length ∧ P.kept.used = noPg ∧ P.kept.written = noPg ∧ Own w' iv (idsL l.length) ∧ (∀ t, t < i → P.now.written (UInt32.ofNat ((t + x1.toNat) % l.length)) = true) ∧ (∀ j a, l[j]? = some a → P.now.written (UInt32.ofNat j) = true → V (UInt32.ofNat j) = f a)) (l.length) ?_ ?_
        · exact ⟨0, ds3, P3, V3, rfl, by omega, hS3, hu3, hku3, hkw3, ho3, fun t ht => by omega, fun j a _ h => by rw [hw3] at h; cases h⟩
        · rintro q vs J w4 ⟨i, ds4, P4, V4, rfl, hi, hS4, hu4, hku4, hkw4, ho4, hwr4, hV4⟩
          refine wpE_seq ?_
          refine wpE_seq ?_
          refine wpE_region ?_
          refine wpL_value rfl x_move (wpL_value rfl x_move (wpL_value rfl (x_len_slice rfl Tryz.underlying64) (wpL_value rfl (x_lss rfl rfl) ?_)))
          refine wpL_nil (thenE_norm ?_)
          refine wpE_cond_d rfl (fun hlt => ?_) (fun hlt => ?_)
          · skip
            refine wpE_skip (thenE_norm ?_)
            refine wpE_seq ?_
            refine wpE_block ?_
            refine wpE_seq ?_
            refine wpE_region ?_
            refine wpL_value rfl x_move (wpL_value rfl x_move (wpL_value rfl (x_convI rfl Tryz.underlying5 Tryz.underlying3 (by omega)) (wpL_value rfl (x_add64 rfl rfl (by omega)) (wpL_value rfl x_move (wpL_value rfl (x_len_slice rfl Tryz.underlying64) (wpL_value rfl (x_rem64 rfl rfl (by omega)) (wpL_value rfl x_assign ?_)))))))
            refine wpL_nil (thenE_norm ?_)
            refine wpE_seq ?_
            have hob4 : ∃ z, q = z + 1 := ⟨q - 1, by omega⟩
            obtain ⟨q, rfl⟩ := hob4
            have hob5 : ∃ kk : Nat, kk = (i + x1.toNat) % l.length := ⟨_, rfl⟩
            obtain ⟨kk, hkk⟩ := hob5
            have hkn : kk < l.length := by rw [hkk]; exact Nat.mod_lt _ hl0
            have hke : ((i : Int) + (x1.toNat : Int)) % (l.length : Int) = (kk : Int) := by rw [hkk, Int.natCast_emod]; rfl
            have hl4 := hl.mod0 hS4.now
            have hob6 : ∃ a, l[kk]? = some a := ⟨l[kk]'hkn, List.getElem?_eq_getElem _⟩
            obtain ⟨ai, hai⟩ := hob6
            have hmem : ai ∈ l := List.mem_of_getElem? hai
            have hob7 := (hf ai hmem).form
            obtain ⟨pa, ca, hform⟩ := hob7
            have hslE := hfw hS4.now ai hmem
            rw [hform] at hslE
            have hktn : (UInt32.ofNat kk).toNat = kk := by rw [UInt32.toNat_ofNat']; omega
            have hge4 := hS4.ge
            have hbl2 : f ai ≠ [] → ∀ x ∈ blkOf (.slice pa (f ai).length ca), x ∉ PF R ++ DF b kv r := fun hne x hx hh => by
              have := hbl ai hmem hne x (by rw [hform]; exact hx)
              have := hge4 x hh
              omega
            have hfrk : P4.fresh (UInt32.ofNat kk) = true := fresh_iff.2 ⟨by rw [hu4, upU_of _ kk (by omega)]; exact decide_eq_true hkn, by rw [hku4]; rfl⟩
            refine wpE_draw mixed (.pure 0 (.pure 1 (.pure 2 (.pure 3 (.read 4 (.pure 5 (.pure 6 (.pure 7 (.read 8 (.eff 9 [] (.pure 10 .nil))))))))))) (by kernel_rfl) ?_
            refine wpP_pure rfl rfl rfl (fun _ => x_move) ?_
            refine wpP_pure rfl rfl rfl (fun _ => x_move) ?_
            refine wpP_pure rfl rfl rfl (fun _ => x_move) ?_
            refine wpP_ex rfl rfl rfl (x_idx (kk) Tryz.underlying65 I34 rfl (ho4.sl) rfl rfl (by first | rfl | omega) (by rw [idsL_length]; omega)) ?_
            rintro _ ⟨bi, oi, rfl, hei, hbi⟩
            refine wpP_rd rfl rfl rfl Tryz.underlying34 rfl rfl (((ho4.sl.at hei (idsL_get _ kk hkn)).c0 rfl)) ?_
            refine wpP_pure rfl rfl rfl (fun _ => x_move) ?_
            refine wpP_pure rfl rfl rfl (fun _ => x_move) ?_
            refine wpP_ex rfl rfl rfl (x_idx (kk) Tryz.underlying64 I41 rfl (hl4) rfl rfl (by first | rfl | omega) (by omega)) ?_
            rintro _ ⟨bj, oj, rfl, hej, hbj⟩
            refine wpP_rd rfl rfl rfl Tryz.underlying41 rfl rfl (((hl4.at hej hai).c0 (congrArg some hform) : _ = some (Value.slice pa (f ai).length ca))) ?_
            refine wpP_call rfl rfl rfl C22 ((write_run (hS4.chg0 (drw _)) (by omega) (UInt32.ofNat kk) hfrk (.slice pa (f ai).length ca) (f ai) (hle3 kk ai hkn hai) (hslE.mod0 (drw _)) hbl2 :)) ?_
            rintro _ w5 ⟨rfl, ⟨ds5, hS5⟩, hc5⟩
            refine ⟨trivial, ?_⟩
            refine wpP_pure rfl rfl rfl (fun _ => (x_neq rfl rfl)) ?_
            refine wpP_nil (thenE_norm ?_)
            have hc5 : Chg (PF R ++ DF b kv r) w4 w5 := (drw w4).tr0' hc5
            refine wpE_cond_df rfl (fun h => h rfl) ?_
            refine wpE_skip (blockE_norm (thenE_norm ?_))
            refine wpE_region ?_
            refine wpL_value rfl x_move (wpL_value rfl (x_add64 rfl rfl (by omega)) (wpL_value rfl x_assign ?_))
            refine wpL_nil (thenE_norm ?_)
            refine Exists.intro (q) (And.intro (by omega) ?_)
            refine ⟨i + 1, ds5, _, _, rfl, by omega, hS5, hu4, hku4, hkw4, ho4.mod hc5 (fun x hx => (hiv3 x hx).2), fun t ht => ?_, fun j a ha hw => ?_⟩
            · show addPg P4.now.written (UInt32.ofNat kk) _ = true
              unfold addPg
              rcases (by omega : t < i ∨ t = i) with h | h
              · rw [hwr4 t h, Bool.or_true]
              · rw [h, ← hkk, decide_eq_true rfl, Bool.true_or]
            · have hw : addPg P4.now.written (UInt32.ofNat kk) (UInt32.ofNat j) = true := hw
              have hjl : j < l.length := (List.getElem?_eq_some_iff.1 ha).1
              unfold setV
              by_cases hjk : j = kk
              · subst hjk
                rw [if_pos rfl]
                rw [hai] at ha; cases ha; rfl
              · have hne : UInt32.ofNat j ≠ UInt32.ofNat kk := fun h => hjk (ofNat_inj (by omega) (by omega) h)
                rw [if_neg hne]
                refine hV4 j a ha ?_
                unfold addPg at hw
                rw [decide_eq_false hne, Bool.false_or] at hw
                exact hw
          · skip
            refine wpE_exit (thenE_exit (thenE_exit (blockE_exit (thenE_norm ?_))))
            refine wpE_seq ?_
            refine wpE_seq ?_
            refine wpE_region ?_
            refine wpL_value rfl x_move ?_
            have hil : i = l.length := by omega
            have hall : ∀ j, j < l.length → P4.now.written (UInt32.ofNat j) = true := fun j hj => by
              have hob8 := rot_all l.length x1.toNat j hj
              obtain ⟨t, ht, hte⟩ := hob8
              have := hwr4 t (by omega)
              rw [hte] at this
              exact this
            have hunf : ∀ i, P4.fresh i = true → P4.now.written i = true := fun j hj => by
              have h1 := (fresh_iff.1 hj).1
              rw [hu4] at h1
              unfold upU at h1
              have h2 : j.toNat < l.length := of_decide_eq_true h1
              have h3 := hall j.toNat h2
              rw [UInt32.ofNat_toNat] at h3
              exact h3
            refine wpL_call rfl C23 (commit_run hS4 (by omega) 0 [] (by decide) hunf) ?_
            rintro _ w5 ⟨rfl, ⟨u5, r5, ku5, kr5, ds5, hR5, hS5, hpd5, _⟩, hc5⟩
            refine wpL_value rfl (x_neq rfl rfl) ?_
            refine wpL_nil (thenE_norm ?_)
            refine wpE_cond_df rfl (fun h => h rfl) ?_
            refine wpE_skip (thenE_norm ?_)
            refine wpE_seq ?_
            refine wpE_region ?_
            refine wpL_value rfl x_move ?_
            have hob9 : ∃ P5 : Pg, P5 = { P4 with now := (comS P4 0 []).st, kept := comS P4 0 [], at_ := (P4.at_ + 1) % 2 } := ⟨_, rfl⟩
            obtain ⟨P5, hP5⟩ := hob9
            rw [← hP5] at hS5
            have hw5 : P5.now.written = P4.now.written := by rw [hP5]; rfl
            refine wpL_call rfl C30 ((crash_still hS5 hpd5 (.slice none 0 0) ⟨_, _, rfl⟩ :)) ?_
            rintro v6 w6 ⟨hS6, hc6⟩
            have hge3 := hS3.lt
            have hlt4 := hS4.lt
            have k4 := hS4.now.1
            have ho5 := ho4.mod hc5 (fun x hx => (hiv3 x hx).2)
            have hiv5 : ∀ x ∈ blkOf iv, x ∉ PF ({ R with u := u5, r := r5, ku := ku5, kr := kr5 } : PR) ++ DF b kv r := fun x hx hh => by
              rcases List.mem_append.1 hh with hh | hh
              · rcases hR5 x hh with h | h
                · exact (hiv3 x hx).2 (List.mem_append_left _ h)
                · have := ho4.sl.lt x hx; omega
              · exact (hiv3 x hx).2 (List.mem_append_right _ hh)
            have ho6 := ho5.mod hc6 hiv5
            refine wpL_nil (thenE_norm ?_)
            refine wpE_seq ?_
            refine wpE_seq ?_
            refine wpE_region ?_
            refine wpL_value rfl x_assign ?_
            refine wpL_nil (thenE_norm ?_)
            refine wpE_block ?_
            refine wpE_loopF [0, 6, 9, 15] (fun q vs w' => ∃ (i : Nat), vs = [.slice pl l.length cl, .pointer (some ⟨R.pb, 0, none⟩), iv, .int .i64 i] ∧ i + q = l.length ∧ Chg [] w6 w') (l.length) ?_ ?_
            · exact ⟨0, rfl, by omega, Chg.refl _⟩
            · rintro q vs J w7 ⟨i, rfl, hi, hc7⟩
              refine wpE_seq ?_
              refine wpE_seq ?_
              refine wpE_region ?_
              refine wpL_value rfl x_move (wpL_value rfl x_move (wpL_value rfl (x_len_slice rfl Tryz.underlying64) (wpL_value rfl (x_lss rfl rfl) ?_)))
              refine wpL_nil (thenE_norm ?_)
              have hS7 := hS6.chg0 hc7
              refine wpE_cond_d rfl (fun hlt => ?_) (fun hlt => ?_)
              · skip
                refine wpE_skip (thenE_norm ?_)
                refine wpE_seq ?_
                refine wpE_block ?_
                refine wpE_seq ?_
                refine wpE_region ?_
                refine wpL_value rfl x_move (wpL_value rfl x_move (wpL_value rfl x_move ?_))
                have hob10 : ∃ z, q = z + 1 := ⟨q - 1, by omega⟩
                obtain ⟨q, rfl⟩ := hob10
                have ho7 := ho6.mod0 hc7
                refine wpL_ex rfl (x_idx (i) Tryz.underlying65 I34 rfl (ho7.sl) rfl rfl (by first | rfl | omega) (by rw [idsL_length]; omega)) ?_
                rintro _ ⟨bi, oi, rfl, hei, hbi⟩
                refine wpL_value rfl (x_load Tryz.underlying34 rfl rfl (((ho7.sl.at hei (idsL_get _ i (by omega))).c0 rfl))) ?_
                refine wpL_call rfl C29 ((read_run hS7 (UInt32.ofNat i) (by rw [hw5]; exact hall i (by omega)) :)) ?_
                rintro _ w8 ⟨⟨rv, rfl, hs8⟩, hS8, hc8⟩
                refine wpL_value rfl x_move (wpL_value rfl (x_extract rfl rfl) (wpL_value rfl (x_extract rfl rfl) (wpL_value rfl x_assign (wpL_value rfl x_assign ?_))))
                refine wpL_nil (thenE_norm ?_)
                refine wpE_seq ?_
                have hob11 : ∃ a, l[i]? = some a := ⟨l[i]'(by omega), List.getElem?_eq_getElem _⟩
                obtain ⟨ai, hai⟩ := hob11
                have hmem : ai ∈ l := List.mem_of_getElem? hai
                have hob12 := (hf ai hmem).form
                obtain ⟨pa, ca, hform⟩ := hob12
                have hslE := hfw hS8.now ai hmem
                rw [hform] at hslE
                have hl8 := hl.mod0 hS8.now
                have hveq := hV4 i ai hai (hall i (by omega))
                rw [hveq] at hs8
                refine wpE_draw mixed (.pure 0 (.pure 1 (.pure 2 (.pure 3 (.read 4 (.pure 5 (.pure 6 (.pure 7 (.read 8 (.read 9 (.pure 10 (.pure 11 .nil)))))))))))) (by kernel_rfl) ?_
                refine wpP_pure rfl rfl rfl (fun _ => x_move) ?_
                refine wpP_pure rfl rfl rfl (fun _ => x_to (x_neq rfl rfl) (congrArg Value.bool (decide_eq_false (fun h => h rfl)))) ?_
                refine wpP_pure rfl rfl rfl (fun _ => x_move) ?_
                refine wpP_pure rfl rfl rfl (fun _ => x_move) ?_
                refine wpP_read rfl rfl rfl (fun w' => Sl w' rv (f ai)) (hs8) (fun w1 h1 => x_b2s Tryz.underlying41 Tryz.underlying5 Tryz.underlying9 h1 rfl) ?_
                refine wpP_pure rfl rfl rfl (fun _ => x_move) ?_
                refine wpP_pure rfl rfl rfl (fun _ => x_move) ?_
                refine wpP_ex rfl rfl rfl (x_idx (i) Tryz.underlying64 I41 rfl (hl8) rfl rfl (by first | rfl | omega) (by omega)) ?_
                rintro _ ⟨bj, oj, rfl, hej, hbj⟩
                refine wpP_rd rfl rfl rfl Tryz.underlying41 rfl rfl (((hl8.at hej hai).c0 (congrArg some hform) : _ = some (Value.slice pa (f ai).length ca))) ?_
                refine wpP_read rfl rfl rfl (fun w' => SlE w' (.slice pa (f ai).length ca) (f ai)) (hslE) (fun w1 h1 => x_b2sE Tryz.underlying41 Tryz.underlying5 Tryz.underlying9 h1 rfl) ?_
                refine wpP_pure rfl rfl rfl (fun _ => (x_neS rfl rfl)) ?_
                refine wpP_pure rfl rfl rfl (fun _ => (x_pick_f rfl)) ?_
                refine wpP_nil (thenE_norm ?_)
                refine wpE_cond_df rfl (fun h => h rfl) ?_
                refine wpE_skip (blockE_norm (thenE_norm ?_))
                refine wpE_region ?_
                refine wpL_value rfl x_move (wpL_value rfl (x_add64 rfl rfl (by omega)) (wpL_value rfl x_assign ?_))
                refine wpL_nil (thenE_norm ?_)
                refine Exists.intro (q) (And.intro (by omega) ?_)
                exact ⟨i + 1, rfl, by omega, (hc7.tr hc8).tr (drw _)⟩
              · skip
                refine wpE_exit (thenE_exit (thenE_exit (blockE_exit (thenE_norm ?_))))
                refine wpE_seq ?_
                refine wpE_region ?_
                refine wpL_value rfl x_assign ?_
                refine wpL_nil (thenE_norm ?_)
                refine wpE_ret (fin_ret ?_)
                exact ⟨rfl, hS7.now⟩
end Go.Proofs.YtenhmbhflgnhlaaGreat
