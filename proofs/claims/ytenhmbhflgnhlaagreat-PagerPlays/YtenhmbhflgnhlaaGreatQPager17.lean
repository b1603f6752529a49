/- every row of calls, crashes, the power going within a commit: what each tells -/
import Derived.Test.YtenhmbhflgnhlaaGreatQPager16
namespace Go.Proofs.YtenhmbhflgnhlaaGreat
open Go Go.Sac
set_option maxRecDepth 100000
set_option maxHeartbeats 4000000
def OpenR (k : List UInt8) (ds : DSt) (e : Int) (P : Option Pg) (ds' : DSt) : Prop :=
  (manyN ds.kept.length < 4 ∧ e = 72 ∧ P = none ∧ ds' = ds) ∨
  (4 ≤ manyN ds.kept.length ∧ newest k ds = none ∧ e = 72 ∧ P = none ∧ ds' = ds) ∨
  (4 ≤ manyN ds.kept.length ∧ ∃ s a, newest k ds = some (s, a) ∧
    (((laysD k ds ((a + 1) % 2) (opS k ds s)).2 ≠ 0 ∧ e = (laysD k ds ((a + 1) % 2) (opS k ds s)).2 ∧ P = none ∧ ds' = (laysD k ds ((a + 1) % 2) (opS k ds s)).1) ∨
     ((laysD k ds ((a + 1) % 2) (opS k ds s)).2 = 0 ∧ e = 0 ∧ ds' = (laysD k ds ((a + 1) % 2) (opS k ds s)).1 ∧ ∃ f, (∀ i, s.written i = true → f i = some (genD ds' i)) ∧ P = some ⟨s.st, opS k ds s, (a + 1) % 2, 0, f, false⟩)))
theorem BestC.so {w : World} {cs : List Value} {best : Option (Sup × Nat)} {n a : Nat} {s : Sup} (h : BestC w cs best n) (hb : best = some (s, a)) : ∃ u r, cs = supC s u r ∧ SetAt w u s.used ∧ SetAt w r s.written ∧ n ≤ u ∧ n ≤ r ∧ u ≠ r := by
  subst hb; exact h
theorem POpen_ok (w : World) (b r : Nat) (kv : Value) (ds : DSt) (k : List UInt8) (hk : k.length = 32) (hd : DiskAt w b kv r ds) (hf : ds.Fine) (ho : ds.off = false) (hl2 : ds.kept.length ≤ 4000) (hst : ds.steps + 60 ≤ 1000000000000) (hw : ∀ s a, newest k ds = some (s, a) → ∀ i, s.written i = true → 40 + i.toNat * 8 ≤ ds.kept.length) :
    Ret Tryz.prog 44 #[.pointer (some ⟨b, 0, none⟩), arrV k] w fun v w' => (∃ e P ds', OpenR k ds e P ds' ∧ DiskAt w' b kv r ds' ∧ ((P = none ∧ v = .tuple #[.pointer none, .int .i64 e]) ∨ (∃ P' R, P = some P' ∧ v = .tuple #[.pointer (some ⟨R.pb, 0, none⟩), .int .i64 e] ∧ PagerAt w' R b k P' ∧ ∀ x ∈ PF R, w.heap.size ≤ x))) ∧ Chg (DF b kv r) w w' := by
  refine enter [4, 5] Tryz.func44 rfl rfl (Nat.le_of_ble_eq_true rfl) ?_
  refine wpE_seq ?_
  refine wpE_region ?_
  refine wpL_boxA (l := k) rfl rfl ?_
  rintro w1 b3 hn1 ha1 hc1 hl1
  refine wpL_value rfl x_assign (wpL_value rfl x_assign ?_)
  refine wpL_nil (thenE_norm ?_)
  refine wpE_seq ?_
  refine wpE_seq ?_
  refine wpE_region ?_
  refine wpL_value rfl x_move ?_
  refine wpL_call rfl C86 (many_ok w1 b r kv ds (hd.chg0 hc1) hl2) ?_
  rintro _ w2 ⟨rfl, hh2⟩
  refine wpL_value rfl (x_lss rfl rfl) ?_
  refine wpL_nil (thenE_norm ?_)
  have hc2 : Chg [] w w2 := hc1.tr (Chg.heap hh2)
  refine wpE_cond_d rfl (fun hm => ?_) (fun hm => ?_)
  · skip
    refine wpE_seq ?_
    refine wpE_region ?_
    refine wpL_value rfl x_assign (wpL_value rfl x_assign ?_)
    refine wpL_nil (thenE_norm ?_)
    refine wpE_ret (thenE_ret (fin_ret ?_))
    exact ⟨⟨72, none, ds, .inl ⟨hm, rfl, rfl, rfl⟩, hd.chg0 hc2, .inl ⟨rfl, rfl⟩⟩, hc2.mono (by simp)⟩
  · skip
    refine wpE_skip (thenE_norm ?_)
    refine wpE_seq ?_
    refine wpE_region ?_
    refine wpL_value rfl x_move ?_
    have hm4 : 4 ≤ manyN ds.kept.length := by omega
    have hlen : 64 ≤ ds.kept.length := by unfold manyN at hm4; omega
    have hd2 := hd.chg0 hc2
    have ha2 := ha1.chg0 (Chg.heap hh2)
    refine wpL_value rfl (x_loadN 32 Tryz.underlying23 rfl I23 rfl rfl (ha2) (hk)) ?_
    refine wpL_call rfl C93 (newest_ok w2 b r kv ds k hk hd2 ho (by omega) hl2) ?_
    rintro _ w3 ⟨⟨cs, hbe, rfl⟩, hc3⟩
    refine wpL_value rfl x_move (wpL_value rfl (x_extract rfl rfl) (wpL_value rfl (x_extract rfl rfl) (wpL_value rfl (x_extract rfl rfl) (wpL_value rfl (x_extract rfl rfl) ?_))))
    have hob1 := hbe.six
    obtain ⟨a1, a2, a3, a4, hcs, hcell, hall⟩ := hob1
    subst hcs
    refine wpL_exw rfl (x_allocB (l := sup0C) I125 rfl rfl) ?_
    rintro _ w4 ⟨b6, rfl, hn4, hB4, hc4, hl4⟩
    refine wpL_exs rfl (x_storeB (l := [a1, a2, a3, a4, .int .u64 (comOf (newest k ds)).toNat, .int .u32 (epOf (newest k ds)).toNat]) I125 rfl rfl hB4 rfl rfl (Nat.le_refl 6) hcell (spl_all rfl)) ?_
    rintro w5 ⟨hB5, hc5, hs5⟩
    refine wpL_value rfl x_assign (wpL_value rfl x_assign (wpL_value rfl x_assign ?_))
    refine wpL_nil (thenE_norm ?_)
    refine wpE_seq ?_
    refine wpE_block ?_
    refine wpE_seq ?_
    refine wpE_region ?_
    refine wpL_value rfl x_move (wpL_value rfl (x_neq rfl rfl) (wpL_value rfl x_assign ?_))
    refine wpL_nil (thenE_norm ?_)
    have hc05 : Chg [] w w5 := ((hc2.tr hc3).tr hc4).t1 hc5 (by have := hc2.1; have := hc3.1; omega)
    have hrg := newest_at k ds
    refine wpE_cond_df rfl (fun h => h rfl) ?_
    refine wpE_seq ?_
    refine wpE_region ?_
    refine wpL_value rfl x_move (wpL_value rfl (x_lss rfl rfl) (wpL_value rfl x_assign ?_))
    refine wpL_nil (thenE_norm ?_)
    refine wpE_cond_d rfl (fun hat => ?_) (fun hat => ?_)
    · skip
      refine wpE_seq ?_
      refine wpE_region ?_
      refine wpL_value rfl x_assign (wpL_value rfl x_assign ?_)
      refine wpL_nil (thenE_norm ?_)
      refine wpE_ret (blockE_ret (thenE_ret (fin_ret ?_)))
      exact ⟨⟨72, none, ds, .inr (.inl ⟨hm4, newest_none hat, rfl, rfl, rfl⟩), hd.chg0 hc05, .inl ⟨rfl, rfl⟩⟩, hc05.mono (by simp)⟩
    · skip
      refine wpE_skip (blockE_norm (thenE_norm ?_))
      refine wpE_seq ?_
      refine wpE_region ?_
      refine wpL_value rfl x_move (wpL_value rfl (x_add64 rfl rfl (by omega)) (wpL_value rfl (x_rem64 rfl rfl (by omega)) (wpL_value rfl x_assign ?_)))
      refine wpL_nil (thenE_norm ?_)
      refine wpE_seq ?_
      refine wpE_region ?_
      refine wpL_value rfl x_move (wpL_value rfl (x_fieldAddr Tryz.underlying125 rfl I35 rfl rfl) ?_)
      have hob2 := newest_is hat
      obtain ⟨s, a, hnw, hata⟩ := hob2
      have hob3 := newest_some hnw
      obtain ⟨ha1', hps⟩ := hob3
      have hsok := parsedL_ok hps
      have hob4 := hbe.so hnw
      obtain ⟨u, r', hcs, hu3, hr3, hnu, hnr, hne⟩ := hob4
      rw [hcs] at hB5
      have hk3 := hc3.1
      have hk4 := hc4.1
      have hk5 := hc5.1
      have hk2 := hc2.1
      have hdlt := hd.lt
      have hub : u ≠ b6 := by have := hu3.lt; omega
      have hrb : r' ≠ b6 := by have := hr3.lt; omega
      refine wpL_exs rfl (x_storeB1 I35 rfl rfl (hB5) rfl rfl ((by decide : 4 < 6)) rfl (rfl)) ?_
      rintro w6 ⟨hB6, hc6, hs6⟩
      refine wpL_nil (thenE_norm ?_)
      refine wpE_seq ?_
      refine wpE_region ?_
      refine wpL_value rfl (x_fieldAddr Tryz.underlying125 rfl I34 rfl rfl) ?_
      refine wpL_value rfl (x_load Tryz.underlying34 rfl rfl (hB6.c (off := 5) rfl)) ?_
      refine wpL_value rfl (x_add32u (b := 1) rfl rfl) (wpL_value rfl (x_fieldAddr Tryz.underlying125 rfl I34 rfl rfl) ?_)
      refine wpL_exs rfl (x_storeB1 I34 rfl rfl (hB6) rfl rfl ((by decide : 5 < 6)) rfl (rfl)) ?_
      rintro w7 ⟨hB7, hc7, hs7⟩
      refine wpL_nil (thenE_norm ?_)
      refine wpE_seq ?_
      refine wpE_seq ?_
      refine wpE_region ?_
      refine wpL_value rfl x_move ?_
      have hB7 : Blk w7 b6 (supC (opS k ds s) u r') := by
        have he : epOf (newest k ds) = s.epoch := by rw [hnw]; rfl
        exact hB7
      have hc37 : Chg [] w3 w7 := ((hc4.t1 hc5 (by omega)).t1 hc6 (by omega)).t1 hc7 (by omega)
      have hc07 : Chg [] w w7 := (hc2.tr hc3).tr hc37
      have hu7 : SetAt w7 u (opS k ds s).used := (((hu3.chg0 hc4).mod hc5 (by simpa using hub)).mod hc6 (by simpa using hub)).mod hc7 (by simpa using hub)
      have hr7 : SetAt w7 r' (opS k ds s).written := (((hr3.chg0 hc4).mod hc5 (by simpa using hrb)).mod hc6 (by simpa using hrb)).mod hc7 (by simpa using hrb)
      have ha7 : Arr w7 b3 k := ha2.chg0 (hc3.tr hc37)
      have hza : (atOf (newest k ds) + 1) % 2 = (((a + 1) % 2 : Nat) : Int) := by rw [hata]; omega
      have hokS : (opS k ds s).Ok := ⟨hsok.txt, hsok.used, hsok.written⟩
      have hd7 := hd.chg0 hc07
      have hla := lays_ok w7 b r kv ds k hk ((a + 1) % 2) (by omega) (opS k ds s) u r' hokS hu7 hr7 hd7 hf (by omega)
      rw [← hza] at hla
      refine wpL_value rfl (x_loadN 32 Tryz.underlying23 rfl I23 rfl rfl (ha7) (hk)) ?_
      refine wpL_value rfl x_move ?_
      refine wpL_value rfl (x_loadA Tryz.underlying125 rfl I125 rfl (hB7.at (l := supC (opS k ds s) u r') (off := 0) rfl) rfl) ?_
      refine wpL_call rfl C72 (hla) ?_
      rintro _ w8 ⟨rfl, hd8, hc8⟩
      refine wpL_value rfl x_assign ?_
      refine wpL_nil (thenE_norm ?_)
      refine wpE_seq ?_
      refine wpE_region ?_
      refine wpL_value rfl x_move (wpL_value rfl (x_neq rfl rfl) ?_)
      refine wpL_nil (thenE_norm ?_)
      have hc08 : Chg (DF b kv r) w w8 := hc07.tr0' hc8
      have hbd := laysD_bnd k ds ((a + 1) % 2) (opS k ds s) hf hsok.txt (by omega)
      refine wpE_cond_d rfl (fun he => ?_) (fun he => ?_)
      · skip
        refine wpE_seq ?_
        refine wpE_region ?_
        refine wpL_value rfl x_move (wpL_value rfl x_assign (wpL_value rfl x_assign ?_))
        refine wpL_nil (thenE_norm ?_)
        refine wpE_ret (thenE_ret (fin_ret ?_))
        exact ⟨⟨_, none, _, .inr (.inr ⟨hm4, s, a, hnw, .inl ⟨he, rfl, rfl, rfl⟩⟩), hd8, .inl ⟨rfl, rfl⟩⟩, hc08⟩
      · skip
        refine wpE_skip (thenE_norm ?_)
        refine wpE_seq ?_
        refine wpE_region ?_
        refine wpL_value rfl x_move ?_
        have he : (laysD k ds ((a + 1) % 2) (opS k ds s)).2 = 0 := Decidable.not_not.1 he
        have hob5 : ∃ Q, Q = laysD k ds ((a + 1) % 2) (opS k ds s) := ⟨_, rfl⟩
        obtain ⟨Q, hQ⟩ := hob5
        have hoff := laysD_off _ _ _ _ he
        rw [← hQ] at hd8 hbd he hoff
        have hnu8 : u ∉ DF b kv r := fun h => by have := hdlt u h; omega
        have hnr8 : r' ∉ DF b kv r := fun h => by have := hdlt r' h; omega
        have hu8 : SetAt w8 u (opS k ds s).used := hu7.mod hc8 hnu8
        have hr8 : SetAt w8 r' (opS k ds s).written := hr7.mod hc8 hnr8
        have ha8 : Arr w8 b3 k := ha7.chg hc8 (fun h => by have := hdlt b3 h; have := hc1.1; omega)
        have hB8 : Blk w8 b6 (supC (opS k ds s) u r') := hB7.chg hc8 (fun h => by have := hdlt b6 h; omega)
        have hof := of_ok w8 b k hk ((a + 1) % 2) (opS k ds s) u r' hu8 hr8 hne
        rw [← hza] at hof
        refine wpL_value rfl (x_loadN 32 Tryz.underlying23 rfl I23 rfl rfl (ha8) (hk)) ?_
        refine wpL_value rfl x_move ?_
        refine wpL_value rfl (x_loadA Tryz.underlying125 rfl I125 rfl (hB8.at (l := supC (opS k ds s) u r') (off := 0) rfl) rfl) ?_
        refine wpL_call rfl C94 (hof) ?_
        rintro _ w9 ⟨R, rfl, hR, hP9, hc9⟩
        refine wpL_value rfl x_assign ?_
        refine wpL_nil (thenE_norm ?_)
        refine wpE_seq ?_
        refine wpE_seq ?_
        refine wpE_region ?_
        refine wpL_value rfl x_move ?_
        have hd9 := hd8.chg0 hc9
        have k7 := hc07.1
        have k8 := hc8.1
        have k1 := hc1.1
        have hRge : ∀ x ∈ PF R, w.heap.size ≤ x := fun x hx => by rcases hR x hx with h | h | h <;> omega
        have hap : ∀ x ∈ PF R, x ∉ DF b kv r := fun x hx h => by have := hdlt x h; have := hRge x hx; omega
        refine wpL_call rfl C95 (reads_ok w9 R b r kv Q.1 k hk _ hP9 hd9 hoff (by rw [hbd.2.2]; exact hl2) hap (fun i hi => by rw [hbd.2.2]; exact hw s a hnw i hi)) ?_
        rintro _ w10 ⟨rfl, ⟨f, hf2, hP10⟩, hc10⟩
        refine wpL_value rfl x_assign ?_
        refine wpL_nil (thenE_norm ?_)
        refine wpE_seq ?_
        refine wpE_region ?_
        refine wpL_value rfl x_move (wpL_value rfl (x_neq rfl rfl) ?_)
        refine wpL_nil (thenE_norm ?_)
        have hd10 := hd9.chg hc10 (fun x hx hh => by simp at hh; subst hh; exact hap R.g (by simp [PF]) hx)
        refine wpE_cond_df rfl (fun h => h rfl) ?_
        refine wpE_skip (thenE_norm ?_)
        refine wpE_seq ?_
        refine wpE_region ?_
        refine wpL_value rfl x_move (wpL_value rfl x_assign (wpL_value rfl x_assign ?_))
        refine wpL_nil (thenE_norm ?_)
        refine wpE_ret (fin_ret ?_)
        subst hQ
        exact ⟨⟨0, _, _, .inr (.inr ⟨hm4, s, a, hnw, .inr ⟨he, rfl, rfl, f, hf2, rfl⟩⟩), hd10, .inr ⟨_, R, rfl, rfl, hP10, hRge⟩⟩, (hc08.tr0 hc9).trans hc10 (fun _ h _ => h) (fun x hx hlt => by simp at hx; subst hx; have := hRge R.g (by simp [PF]); omega)⟩
end Go.Proofs.YtenhmbhflgnhlaaGreat

