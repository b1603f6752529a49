/- every row of calls, crashes, the power going within a commit: what each tells -/
import Derived.Test.YtenhmbhflgnhlaaGreatQPager15
namespace Go.Proofs.YtenhmbhflgnhlaaGreat
open Go Go.Sac
set_option maxRecDepth 100000
set_option maxHeartbeats 4000000
def FormatR (k : List UInt8) (ds : DSt) (e : Int) (P : Option Pg) (ds' : DSt) : Prop :=
  (manyN ds.kept.length < 4 ∧ e = 70 ∧ P = none ∧ ds' = ds) ∨
  (4 ≤ manyN ds.kept.length ∧ ∃ i, i ≤ 1 ∧ (∀ j, j ≤ i → (fmtD k ds j).2 = 0) ∧ (fmtD k ds (i + 1)).2 ≠ 0 ∧ e = (fmtD k ds (i + 1)).2 ∧ P = none ∧ ds' = (fmtD k ds (i + 1)).1) ∨
  (4 ≤ manyN ds.kept.length ∧ (∀ j, j ≤ 2 → (fmtD k ds j).2 = 0) ∧ e = 0 ∧ P = some ⟨(fmtS k ds 1).st, fmtS k ds 1, fmtA k ds 1, 0, fun _ => none, false⟩ ∧ ds' = (fmtD k ds 2).1)
theorem Format_ok (w : World) (b r : Nat) (kv : Value) (ds : DSt) (k : List UInt8) (hk : k.length = 32) (hd : DiskAt w b kv r ds) (hf : ds.Fine) (ho : ds.off = false) (hl2 : ds.kept.length ≤ 4000) (hst : ds.steps + 60 ≤ 1000000000000) :
    Ret Tryz.prog 61 #[.pointer (some ⟨b, 0, none⟩), arrV k] w fun v w' => (∃ e P ds', FormatR k ds e P ds' ∧ DiskAt w' b kv r ds' ∧ ((P = none ∧ v = .tuple #[.pointer none, .int .i64 e]) ∨ (∃ P' R, P = some P' ∧ v = .tuple #[.pointer (some ⟨R.pb, 0, none⟩), .int .i64 e] ∧ PagerAt w' R b k P' ∧ ∀ x ∈ PF R, w.heap.size ≤ x))) ∧ Chg (DF b kv r) w w' := by
  refine enter [4, 5] Tryz.func61 rfl rfl (Nat.le_of_ble_eq_true rfl) ?_
  refine wpE_seq ?_
  refine wpE_region ?_
  refine wpL_boxA (l := k) rfl rfl ?_
  rintro w1 b3 hn1 ha1 hc1 hl1
  refine wpL_value rfl x_assign (wpL_value rfl x_assign ?_)
  refine wpL_nil (thenE_norm ?_)
  refine wpE_seq ?_
  refine wpE_seq ?_
  refine wpE_region ?_
  refine wpL_value rfl x_move ?_
  refine wpL_call rfl C86 (many_ok w1 b r kv ds (hd.chg0 hc1) hl2) ?_
  rintro _ w2 ⟨rfl, hh2⟩
  refine wpL_value rfl (x_lss rfl rfl) ?_
  refine wpL_nil (thenE_norm ?_)
  have hc2 : Chg [] w w2 := hc1.tr (Chg.heap hh2)
  refine wpE_cond_d rfl (fun hm => ?_) (fun hm => ?_)
  · skip
    refine wpE_seq ?_
    refine wpE_region ?_
    refine wpL_value rfl x_assign (wpL_value rfl x_assign ?_)
    refine wpL_nil (thenE_norm ?_)
    refine wpE_ret (thenE_ret (fin_ret ?_))
    exact ⟨⟨70, none, ds, .inl ⟨hm, rfl, rfl, rfl⟩, hd.chg0 hc2, .inl ⟨rfl, rfl⟩⟩, hc2.mono (by simp)⟩
  · skip
    refine wpE_skip (thenE_norm ?_)
    refine wpE_seq ?_
    refine wpE_region ?_
    refine wpL_value rfl x_move ?_
    have hm4 : 4 ≤ manyN ds.kept.length := by omega
    have hlen : 64 ≤ ds.kept.length := by unfold manyN at hm4; omega
    have hd2 := hd.chg0 hc2
    have ha2 := ha1.chg0 (Chg.heap hh2)
    refine wpL_value rfl (x_loadN 32 Tryz.underlying23 rfl I23 rfl rfl (ha2) (hk)) ?_
    refine wpL_call rfl C93 (newest_ok w2 b r kv ds k hk hd2 ho (by omega) hl2) ?_
    rintro _ w3 ⟨⟨cs, hbe, rfl⟩, hc3⟩
    refine wpL_value rfl x_move (wpL_value rfl (x_extract rfl rfl) (wpL_value rfl (x_extract rfl rfl) (wpL_value rfl (x_extract rfl rfl) (wpL_value rfl (x_extract rfl rfl) ?_))))
    have hob1 := hbe.six
    obtain ⟨a1, a2, a3, a4, hcs, hcell, hall⟩ := hob1
    subst hcs
    refine wpL_exw rfl (x_allocB (l := sup0C) I125 rfl rfl) ?_
    rintro _ w4 ⟨b6, rfl, hn4, hB4, hc4, hl4⟩
    refine wpL_exs rfl (x_storeB (l := [a1, a2, a3, a4, .int .u64 (comOf (newest k ds)).toNat, .int .u32 (epOf (newest k ds)).toNat]) I125 rfl rfl hB4 rfl rfl (Nat.le_refl 6) hcell (spl_all rfl)) ?_
    rintro w5 ⟨hB5, hc5, hs5⟩
    refine wpL_value rfl x_assign (wpL_value rfl x_assign (wpL_value rfl x_assign ?_))
    refine wpL_nil (thenE_norm ?_)
    refine wpE_seq ?_
    refine wpE_seq ?_
    refine wpE_region ?_
    refine wpL_value rfl x_move (wpL_value rfl (x_neq rfl rfl) ?_)
    refine wpL_nil (thenE_norm ?_)
    refine wpE_cond_df rfl (fun h => h rfl) ?_
    refine wpE_skip (thenE_norm ?_)
    have hob2 : ∃ com, com = comOf (newest k ds) := ⟨_, rfl⟩
    obtain ⟨com, hcom⟩ := hob2
    have hob3 : ∃ ep, ep = epOf (newest k ds) := ⟨_, rfl⟩
    obtain ⟨ep, hep⟩ := hob3
    rw [← hcom, ← hep] at hB5
    refine wpE_cutF [0, 3, 7, 8, 10] (fun vs w' => ∃ (b10 u r' : Nat), vs = [.pointer (some ⟨b, 0, none⟩), .pointer (some ⟨b3, 0, none⟩), .int .i64 (atOf (newest k ds)), .int .u64 (newNext k ds).toNat, .pointer (some ⟨b10, 0, none⟩)] ∧ Blk w' b10 (supC (fmtS k ds 0) u r') ∧ SetAt w' u noPg ∧ SetAt w' r' noPg ∧ u ≠ r' ∧ w5.heap.size ≤ u ∧ w5.heap.size ≤ r' ∧ w5.heap.size ≤ b10 ∧ b10 ≠ u ∧ b10 ≠ r' ∧ Chg [] w5 w') ?_ ?_
    · skip
      refine wpE_region ?_
      refine wpL_exw rfl (x_mkM UInt32) ?_
      rintro _ w6 ⟨u, rfl, hgu, hmu, hc6, hl6⟩
      refine wpL_exw rfl (x_mkM UInt32) ?_
      rintro _ w7 ⟨r', rfl, hgr, hmr, hc7, hl7⟩
      refine wpL_value rfl (x_buildL Tryz.underlying123 I123 rfl (zs := [.int .u32 0, str [], .map none, .map none]) rfl rfl (fill1 rfl rfl rfl (Nat.le_of_ble_eq_true rfl) (fill1 rfl rfl rfl (Nat.le_of_ble_eq_true rfl) (fill0 (cs' := stC (fmtS k ds 0).st u r') rfl)))) ?_
      refine wpL_value rfl x_move (wpL_value rfl (x_fieldAddr Tryz.underlying125 rfl I34 rfl rfl) ?_)
      refine wpL_value rfl (x_load Tryz.underlying34 rfl rfl (((hB5.chg0 hc6).chg0 hc7).c (off := 5) rfl)) ?_
      refine wpL_value rfl (x_add32u (b := 1) rfl rfl) ?_
      refine wpL_value rfl (x_buildL Tryz.underlying125 I125 rfl (zs := sup0C) rfl rfl (fill1 rfl rfl rfl (Nat.le_of_ble_eq_true rfl) (fill1 rfl rfl rfl (Nat.le_of_ble_eq_true rfl) (fill1 rfl rfl rfl (Nat.le_of_ble_eq_true rfl) (fill0 (cs' := supC (fmtS k ds 0) u r') (fmtS0_fill k ds u r' hep).symm))))) ?_
      refine wpL_exw rfl (x_allocB (l := sup0C) I125 rfl rfl) ?_
      rintro _ w8 ⟨b10, rfl, hn8, hB8, hc8, hl8⟩
      refine wpL_exs rfl (x_storeB (l := supC (fmtS k ds 0) u r') I125 rfl rfl hB8 rfl rfl (Nat.le_refl 6) (supC_cell _ _ _) (spl_all rfl)) ?_
      rintro w9 ⟨hB9, hc9, hs9⟩
      refine wpL_nil (thenE_norm ?_)
      have q1 := hmu.lt
      have q2 := hmr.lt
      have q3 := hc6.1
      have q4 := hc7.1
      have q5 := hc8.1
      refine ⟨b10, u, r', rfl, hB9, (SetAt.nil (((hmu.mod hc7 (by simp)).mod hc8 (by simp)))).mod hc9 (by simp; omega), (SetAt.nil (hmr.mod hc8 (by simp))).mod hc9 (by simp; omega), by omega, by omega, by omega, by omega, by omega, by omega, ((hc6.tr hc7).tr hc8).t1 hc9 (by omega)⟩
    · rintro vs J w6 ⟨b10, u, r', rfl, hB6, hu6, hr6, hne, hnu, hnr, hnb, hbu, hbr, hc6⟩
      refine wpE_seq ?_
      refine wpE_seq ?_
      refine wpE_region ?_
      refine wpL_value rfl x_move ?_
      refine wpL_nil (thenE_norm ?_)
      refine wpE_block ?_
      have hat := newest_at k ds
      have hc06 : Chg [] w w6 := ((hc2.tr hc3).tr hc4).t1 hc5 (by have := hc2.1; have := hc3.1; omega) |>.tr hc6
      have ha6 : Arr w6 b3 k := ((ha2.chg0 hc3).chg0 hc4).nb hc5 (by have := ha2.lt; have := hc3.1; omega) |>.chg0 hc6
      have hdlt := hd.lt
      have hk5 : w.heap.size ≤ w5.heap.size := by have := hc2.1; have := hc3.1; have := hc4.1; have := hc5.1; omega
      have hb3lt : b3 < w5.heap.size := by have := ha2.lt; have := hc3.1; have := hc4.1; have := hc5.1; omega
      refine wpE_loopF [0, 3, 7, 8, 10, 35] (fun n vs w' => ∃ (i : Nat) (z : Int) (com : UInt64), vs = [.pointer (some ⟨b, 0, none⟩), .pointer (some ⟨b3, 0, none⟩), .int .i64 z, .int .u64 (newNext k ds).toNat, .pointer (some ⟨b10, 0, none⟩), .int .i64 i] ∧ i + n = 2 ∧ -1 ≤ z ∧ z ≤ 1 ∧ (i < 2 → (z + 1) % 2 = (fmtA k ds i : Int)) ∧ (i = 2 → z = (fmtA k ds 1 : Int) ∧ com = (fmtS k ds 1).commit) ∧ (∀ j, j ≤ i → (fmtD k ds j).2 = 0) ∧ Blk w' b10 (supC { fmtS k ds 0 with commit := com } u r') ∧ DiskAt w' b kv r (fmtD k ds i).1 ∧ Chg (b10 :: DF b kv r) w6 w') (2) ?_ ?_
      · refine ⟨0, _, (fmtS k ds 0).commit, rfl, rfl, by omega, by omega, fun _ => ?_, fun h => by omega, fun j hj => ?_, hB6, hd.chg0 hc06, Chg.refl' _ _⟩
        · unfold fmtA; omega
        · rw [show j = 0 by omega]; rfl
      · rintro n vs J w7 ⟨i, z, com, rfl, hi, hz1, hz2, hza, hz3, hok, hB7, hd7, hc7⟩
        refine wpE_seq ?_
        refine wpE_region ?_
        refine wpL_value rfl (x_lss rfl rfl) ?_
        refine wpL_nil (thenE_norm ?_)
        refine wpE_seq ?_
        have hnu7 : u ∉ b10 :: DF b kv r := fun h => by
          rcases List.mem_cons.1 h with h | h
          · exact hbu h.symm
          · have := hdlt u h; omega
        have hnr7 : r' ∉ b10 :: DF b kv r := fun h => by
          rcases List.mem_cons.1 h with h | h
          · exact hbr h.symm
          · have := hdlt r' h; omega
        have hu7 := hu6.mod hc7 hnu7
        have hr7 := hr6.mod hc7 hnr7
        have ha7 : Arr w7 b3 k := ha6.chg hc7 (fun h => by
          rcases List.mem_cons.1 h with h | h
          · omega
          · have := hdlt b3 h; have := ha1.lt; have := hc1.1; omega)
        refine wpE_cond_d rfl (fun hlt => ?_) (fun hlt => ?_)
        · skip
          refine wpE_skip (thenE_norm ?_)
          refine wpE_seq ?_
          refine wpE_block ?_
          refine wpE_seq ?_
          refine wpE_region ?_
          refine wpL_value rfl x_move (wpL_value rfl x_assign ?_)
          refine wpL_nil (thenE_norm ?_)
          refine wpE_seq ?_
          refine wpE_region ?_
          refine wpL_value rfl x_move (wpL_value rfl (x_add64 rfl rfl (by omega)) (wpL_value rfl (x_rem64 rfl rfl (by omega)) (wpL_value rfl x_assign ?_)))
          refine wpL_nil (thenE_norm ?_)
          refine wpE_seq ?_
          refine wpE_region ?_
          refine wpL_value rfl x_move (wpL_value rfl x_move (wpL_value rfl (x_conv64u rfl Tryz.underlying3 Tryz.underlying35) (wpL_value rfl (x_add64u rfl rfl) (wpL_value rfl (x_fieldAddr Tryz.underlying125 rfl I35 rfl rfl) ?_))))
          have hob4 : ∃ q, n = q + 1 := ⟨n - 1, by omega⟩
          obtain ⟨n, rfl⟩ := hob4
          have hb3 := fmtD_bnd k ds hf hst i (by omega)
          have hle := fmtA_le k ds i
          refine wpL_exs rfl (x_storeB1 I35 rfl rfl (hB7) rfl rfl ((by decide : 4 < 6)) rfl (rfl)) ?_
          rintro w8 ⟨hB8, hc8, hs8⟩
          refine wpL_nil (thenE_norm ?_)
          refine wpE_seq ?_
          refine wpE_region ?_
          refine wpL_value rfl x_move ?_
          have hB8 : Blk w8 b10 (supC (fmtS k ds i) u r') := hB8
          have ha8 := ha7.nb hc8 (by omega)
          have hu8 := hu7.mod hc8 (by simpa using Ne.symm hbu)
          have hr8 := hr7.mod hc8 (by simpa using Ne.symm hbr)
          have hd8 : DiskAt w8 b kv r (fmtD k ds i).1 := hd7.chg hc8 (fun x hx hh => by simp at hh; subst hh; have := hdlt _ hx; omega)
          refine wpL_value rfl (x_loadN 32 Tryz.underlying23 rfl I23 rfl rfl (ha8) (hk)) ?_
          refine wpL_value rfl x_move ?_
          refine wpL_value rfl (x_loadA Tryz.underlying125 rfl I125 rfl (hB8.at (l := supC (fmtS k ds i) u r') (off := 0) rfl) rfl) ?_
          have hz := hza (by omega)
          have hla := lays_ok w8 b r kv (fmtD k ds i).1 k hk (fmtA k ds i) hle (fmtS k ds i) u r' (fmtS_ok k ds i) hu8 hr8 hd8 hb3.1 (by omega)
          rw [← hz] at hla
          refine wpL_call rfl C72 (hla) ?_
          rintro _ w9 ⟨rfl, hd9, hc9⟩
          refine wpL_value rfl x_assign ?_
          refine wpL_nil (thenE_norm ?_)
          refine wpE_seq ?_
          refine wpE_region ?_
          refine wpL_value rfl x_move (wpL_value rfl (x_neq rfl rfl) ?_)
          refine wpL_nil (thenE_norm ?_)
          have hc69 : Chg (b10 :: DF b kv r) w6 w9 := (hc7.tr (hc8.mono (by simp))).tr (hc9.mono (fun x hx _ => List.mem_cons_of_mem _ hx))
          have hc09 : Chg (DF b kv r) w w9 := hc06.trans hc69 (by simp) (fun x hx hlt => by
            rcases List.mem_cons.1 hx with rfl | h
            · omega
            · exact h)
          refine wpE_cond_d rfl (fun he => ?_) (fun he => ?_)
          · skip
            refine wpE_seq ?_
            refine wpE_region ?_
            refine wpL_value rfl x_move (wpL_value rfl x_assign (wpL_value rfl x_assign ?_))
            refine wpL_nil (thenE_norm ?_)
            refine wpE_ret (blockE_ret (thenE_ret (thenE_ret (blockE_ret (thenE_ret (fin_ret ?_))))))
            exact ⟨⟨_, none, _, .inr (.inl ⟨hm4, i, by omega, hok, he, rfl, rfl, rfl⟩), hd9, .inl ⟨rfl, rfl⟩⟩, hc09⟩
          · skip
            refine wpE_skip (blockE_norm (thenE_norm ?_))
            refine wpE_region ?_
            refine wpL_value rfl (x_add64 rfl rfl (by omega)) (wpL_value rfl x_move ?_)
            refine wpL_nil (thenE_norm ?_)
            have he : (laysD k (fmtD k ds i).1 (fmtA k ds i) (fmtS k ds i)).2 = 0 := Decidable.not_not.1 he
            have hB9 : Blk w9 b10 (supC (fmtS k ds i) u r') := hB8.chg hc9 (fun h => by have := hdlt _ h; omega)
            refine Exists.intro (n) (And.intro (by omega) ?_)
            refine ⟨i + 1, _, (fmtS k ds i).commit, by first | rfl | (rw [Int.natCast_add]; rfl), by omega, by omega, by omega, fun h => ?_, fun h => ?_, fun j hj => ?_, hB9, hd9, hc69⟩
            · rw [hz]; unfold fmtA; omega
            · rw [hz, show i = 1 by omega]; exact ⟨rfl, rfl⟩
            · rcases (by omega : j ≤ i ∨ j = i + 1) with h | h
              · exact hok j h
              · rw [h]; exact he
        · skip
          refine wpE_exit (thenE_exit (thenE_exit (blockE_exit (thenE_norm ?_))))
          refine wpE_seq ?_
          refine wpE_region ?_
          refine wpL_value rfl x_move ?_
          have hi2 : i = 2 := by omega
          subst hi2
          have hob5 := hz3 rfl
          obtain ⟨rfl, rfl⟩ := hob5
          have hB7' : Blk w7 b10 (supC (fmtS k ds 1) u r') := hB7
          refine wpL_value rfl (x_loadN 32 Tryz.underlying23 rfl I23 rfl rfl (ha7) (hk)) ?_
          refine wpL_value rfl x_move ?_
          refine wpL_value rfl (x_loadA Tryz.underlying125 rfl I125 rfl (hB7'.at (l := supC (fmtS k ds 1) u r') (off := 0) rfl) rfl) ?_
          refine wpL_call rfl C94 (of_ok w7 b k hk (fmtA k ds 1) (fmtS k ds 1) u r' hu7 hr7 hne) ?_
          rintro _ w8 ⟨R, rfl, hR, hP8, hc8⟩
          refine wpL_value rfl x_assign (wpL_value rfl x_assign ?_)
          refine wpL_nil (thenE_norm ?_)
          refine wpE_ret (fin_ret ?_)
          refine ⟨⟨0, _, _, .inr (.inr ⟨hm4, fun j hj => hok j hj, rfl, rfl, rfl⟩), hd7.chg0 hc8, .inr ⟨_, R, rfl, rfl, hP8, fun x hx => ?_⟩⟩, ?_⟩
          · have := hc06.1
            have := hc7.1
            rcases hR x hx with h | h | h <;> omega
          · refine Chg.tr0 (hc06.trans hc7 (by simp) (fun x hx hlt => ?_)) hc8
            rcases List.mem_cons.1 hx with rfl | h
            · omega
            · exact h
end Go.Proofs.YtenhmbhflgnhlaaGreat

