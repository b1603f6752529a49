/- A wrapped key stands on the disk as it is said to, is told by its key, and by another one as the document's unwrapping tells. It holds for every input; there are no conditions. -/
import Derived.Test.YtenhmbhflgnhlaaGreatQSlots
namespace Go.Proofs.YtenhmbhflgnhlaaGreat
open Go Go.Sac
set_option maxRecDepth 100000
set_option maxHeartbeats 4000000
def newV (v : Value) (w w' : World) (b : Nat) (s : SSt) (e : Int) : Prop :=
  if e = 0 then ∃ sb fr, v = .tuple #[.pointer (some ⟨sb, 0, none⟩), .int .i64 0] ∧ SlotAt w' sb fr b s ∧ w.heap.size ≤ sb ∧ w.heap.size ≤ fr
  else v = .tuple #[.pointer none, .int .i64 e]
theorem Make_ok (w : World) (b r : Nat) (kv : Value) (ds : DSt) (hd : DiskAt w b kv r ds) (hf : ds.Fine) (hf2 : ds.steps + 30 ≤ 1000000000000) :
    Ret Tryz.prog 12 #[.pointer (some ⟨b, 0, none⟩)] w fun v w' => newV v w w' b ss0 (makeD ds).2 ∧ DiskAt w' b kv r (makeD ds).1 ∧ Chg (DF b kv r) w w' := by
  have hdlt := hd.lt
  refine enter [2, 3] Tryz.func12 rfl rfl (Nat.le_of_ble_eq_true rfl) ?_
  refine wpE_seq ?_
  refine wpE_region ?_
  refine wpL_value rfl x_assign (wpL_value rfl x_assign ?_)
  refine wpL_nil (thenE_norm ?_)
  refine wpE_seq ?_
  refine wpE_seq ?_
  refine wpE_region ?_
  refine wpL_value rfl x_move ?_
  refine wpL_call rfl C51 (Len_ok w b r kv ds hd) ?_
  rintro _ w1 ⟨rfl, hh1⟩
  refine wpL_value rfl (x_lss rfl rfl) ?_
  refine wpL_nil (thenE_norm ?_)
  have hc1 : Chg [] w w1 := Chg.heap hh1
  have hd1 := hd.chg0 hc1
  refine wpE_cond_d rfl (fun h => ?_) (fun h => ?_)
  · skip
    refine wpE_seq ?_
    refine wpE_region ?_
    refine wpL_value rfl x_assign (wpL_value rfl x_assign ?_)
    refine wpL_nil (thenE_norm ?_)
    refine wpE_ret (thenE_ret (fin_ret ?_))
    have hsm : ds.kept.length < 64 := by omega
    rw [makeD_small hsm]
    refine ⟨?_, hd1, hc1.mono (fun x hx _ => by simp at hx)⟩
    unfold newV; rw [if_neg (show ¬ (70 : Int) = 0 by decide)]; rfl
  · skip
    refine wpE_skip (thenE_norm ?_)
    refine wpE_seq ?_
    refine wpE_region ?_
    refine wpL_value rfl x_move ?_
    have hsm : ¬ ds.kept.length < 64 := by omega
    refine wpL_exw rfl (x_mkM Int) ?_
    rintro _ w2 ⟨fr, rfl, hr, hm2, hc2, hl2⟩
    refine wpL_value rfl (x_buildL Tryz.underlying100 I100 rfl (zs := [.pointer none, .map none, .int .u64 0, .bool false]) rfl rfl (fill1 rfl rfl rfl (Nat.le_of_ble_eq_true rfl) (fill1 rfl rfl rfl (Nat.le_of_ble_eq_true rfl) (fill0 (cs' := [.pointer (some ⟨b, 0, none⟩), .map (some fr), .int .u64 0, .bool false]) rfl)))) ?_
    refine wpL_exw rfl (x_boxB rfl rfl) ?_
    rintro _ w3 ⟨sb, rfl, hsb, hB, hc3, hl3⟩
    refine wpL_value rfl x_assign ?_
    refine wpL_nil (thenE_norm ?_)
    refine wpE_seq ?_
    refine wpE_seq ?_
    refine wpE_region ?_
    refine wpL_value rfl x_move ?_
    refine wpL_nil (thenE_norm ?_)
    refine wpE_block ?_
    have hc03 := (hc1.tr hc2).tr hc3
    have hs3 : SlotAt w3 sb fr b ss0 := ⟨hB, hm2.mod hc3 (by simp), by omega⟩
    have hsb0 : w.heap.size ≤ sb := by have := hc1.1; omega
    have hfr0 : w.heap.size ≤ fr := by have := hc1.1; omega
    have hnF : ∀ x : Nat, w.heap.size ≤ x → x ∉ DF b kv r := fun x hx h => by have := hdlt x h; omega
    refine wpE_loop [15] [2, 3, 5, 6, 15, 16, 17, 18, 19, 20, 21, 22, 23, 24, 25] (fun n vs w' => ∃ (i : Nat) (d : DSt), vs = [.int .i64 i] ∧ i + n = 26 ∧ DiskAt w' b kv r d ∧ d.Fine ∧ d.steps ≤ ds.steps + i ∧ mkW 26 0 ds = mkW n i d ∧ Chg (DF b kv r) w3 w') (26) (by kernel_rfl) ?_ ?_
    · exact ⟨0, ds, rfl, rfl, hd.chg0 hc03, hf, Nat.le_refl _, rfl, Chg.refl' _ _⟩
    · rintro n vs J w4 ⟨i, d, rfl, hi, hd4, hf4, hst4, hmk, hc4⟩
      refine wpE_seq ?_
      refine wpE_region ?_
      refine wpL_value rfl (x_lss rfl rfl) ?_
      refine wpL_nil (thenE_norm ?_)
      refine wpE_seq ?_
      have hs4 := hs3.chg hc4 (hnF sb hsb0) (hnF fr hfr0)
      have hc04 : Chg (DF b kv r) w w4 := (hc03.mono (fun x hx _ => by simp at hx)).tr hc4
      refine wpE_cond_d rfl (fun h2 => ?_) (fun h2 => ?_)
      · skip
        refine wpE_skip (thenE_norm ?_)
        refine wpE_seq ?_
        refine wpE_block ?_
        refine wpE_seq ?_
        refine wpE_region ?_
        refine wpL_value rfl x_move (wpL_value rfl x_assign ?_)
        refine wpL_nil (thenE_norm ?_)
        refine wpE_seq ?_
        refine wpE_region ?_
        refine wpL_value rfl x_move (wpL_value rfl x_move ?_)
        have hob1 : ∃ q, n = q + 1 := ⟨n - 1, by omega⟩
        obtain ⟨n, rfl⟩ := hob1
        refine wpL_exw rfl (x_mkS (64) (64) ((0 : UInt8)) Tryz.underlying41 I5 rfl rfl rfl (by decide) rfl rfl (by decide) (by first | rfl | omega) (by first | rfl | omega) (by omega) (by omega)) ?_
        rintro _ w5 ⟨⟨p5, c5, rfl⟩, ho5, hc5, hi5⟩
        have hd5 := hd4.chg0 hc5
        refine wpL_call rfl C26 (Write2_ok w5 b r kv _ (List.replicate 64 0) d i hd5 hf4 ho5.sl (fun h => by have := hi5.ge _ h; have := hd4.lt b (by simp [DF]); omega)) ?_
        rintro _ w6 ⟨rfl, hd6, hc6⟩
        refine wpL_value rfl x_assign ?_
        refine wpL_nil (thenE_norm ?_)
        refine wpE_seq ?_
        refine wpE_region ?_
        refine wpL_value rfl x_move (wpL_value rfl (x_neq rfl rfl) ?_)
        refine wpL_nil (thenE_norm ?_)
        have hc36 : Chg (DF b kv r) w3 w6 := (hc4.tr0 hc5).tr hc6
        have hc06 : Chg (DF b kv r) w w6 := (hc04.tr0 hc5).tr hc6
        refine wpE_cond_d rfl (fun hz => ?_) (fun hz => ?_)
        · skip
          refine wpE_seq ?_
          refine wpE_region ?_
          refine wpL_value rfl x_move (wpL_value rfl x_assign (wpL_value rfl x_assign ?_))
          refine wpL_nil (thenE_norm ?_)
          refine wpE_ret (blockE_ret (thenE_ret (thenE_ret (blockE_ret (thenE_ret (fin_ret ?_))))))
          rw [mkW_neg hz] at hmk
          rw [makeD_no hsm (by rw [hmk]; exact hz), hmk]
          refine ⟨?_, hd6, hc06⟩
          unfold newV; rw [if_neg hz]; rfl
        · skip
          refine wpE_skip (blockE_norm (thenE_norm ?_))
          refine wpE_region ?_
          refine wpL_value rfl (x_add64 rfl rfl (by omega)) (wpL_value rfl x_move ?_)
          refine wpL_nil (thenE_norm ?_)
          have hz : (d.write i (List.replicate 64 0)).2 = 0 := Decidable.not_not.1 hz
          rw [mkW_pos hz] at hmk
          refine Exists.intro (n) (And.intro (by omega) ?_)
          exact ⟨i + 1, _, vs_cons (int_eq rfl) vs_nil, by omega, hd6, hf4.write (by omega) _ _, by rw [DSt.write_steps]; omega, hmk, hc36⟩
      · skip
        refine wpE_exit (thenE_exit (thenE_exit (blockE_exit (thenE_norm ?_))))
        refine wpE_seq ?_
        refine wpE_seq ?_
        refine wpE_region ?_
        refine wpL_value rfl x_move ?_
        have hob2 : n = 0 := by omega
        obtain rfl := hob2
        rw [mkW_zero] at hmk
        refine wpL_call rfl C27 (Flush_ok w4 b r kv d hd4 hf4) ?_
        rintro _ w5 ⟨rfl, hd5, hc5⟩
        refine wpL_value rfl x_assign ?_
        refine wpL_nil (thenE_norm ?_)
        refine wpE_seq ?_
        refine wpE_region ?_
        refine wpL_value rfl x_move (wpL_value rfl (x_neq rfl rfl) ?_)
        refine wpL_nil (thenE_norm ?_)
        rw [makeD_ok hsm (by rw [hmk]), hmk]
        have hs5 := hs4.chg hc5 (hnF sb hsb0) (hnF fr hfr0)
        refine wpE_cond_d rfl (fun hz => ?_) (fun hz => ?_)
        · skip
          refine wpE_seq ?_
          refine wpE_region ?_
          refine wpL_value rfl x_move (wpL_value rfl x_assign (wpL_value rfl x_assign ?_))
          refine wpL_nil (thenE_norm ?_)
          refine wpE_ret (thenE_ret (fin_ret ?_))
          refine ⟨?_, hd5, hc04.tr hc5⟩
          unfold newV; rw [if_neg hz]; rfl
        · skip
          refine wpE_skip (thenE_norm ?_)
          refine wpE_seq ?_
          refine wpE_region ?_
          refine wpL_value rfl x_move (wpL_value rfl x_assign (wpL_value rfl x_assign ?_))
          refine wpL_nil (thenE_norm ?_)
          refine wpE_ret (fin_ret ?_)
          refine ⟨?_, hd5, hc04.tr hc5⟩
          unfold newV; rw [if_pos (Decidable.not_not.1 hz)]
          exact ⟨sb, fr, rfl, hs5, hsb0, hfr0⟩
theorem Open2_ok (w : World) (b r : Nat) (kv : Value) (ds : DSt) (hd : DiskAt w b kv r ds) :
    Ret Tryz.prog 48 #[.pointer (some ⟨b, 0, none⟩)] w fun v w' => newV v w w' b (openS ds 26) (if ds.kept.length < 64 then 70 else if ds.off then 61 else 0) ∧ Chg [] w w' := by
  refine enter [2, 3] Tryz.func48 rfl rfl (Nat.le_of_ble_eq_true rfl) ?_
  refine wpE_seq ?_
  refine wpE_region ?_
  refine wpL_value rfl x_assign (wpL_value rfl x_assign ?_)
  refine wpL_nil (thenE_norm ?_)
  refine wpE_seq ?_
  refine wpE_seq ?_
  refine wpE_region ?_
  refine wpL_value rfl x_move ?_
  refine wpL_call rfl C51 (Len_ok w b r kv ds hd) ?_
  rintro _ w1 ⟨rfl, hh1⟩
  refine wpL_value rfl (x_lss rfl rfl) ?_
  refine wpL_nil (thenE_norm ?_)
  have hc1 : Chg [] w w1 := Chg.heap hh1
  refine wpE_cond_d rfl (fun h => ?_) (fun h => ?_)
  · skip
    refine wpE_seq ?_
    refine wpE_region ?_
    refine wpL_value rfl x_assign (wpL_value rfl x_assign ?_)
    refine wpL_nil (thenE_norm ?_)
    refine wpE_ret (thenE_ret (fin_ret ?_))
    have hsm : ds.kept.length < 64 := by omega
    refine ⟨?_, hc1⟩
    rw [if_pos hsm]
    unfold newV; rw [if_neg (by decide)]; rfl
  · skip
    refine wpE_skip (thenE_norm ?_)
    refine wpE_seq ?_
    refine wpE_region ?_
    refine wpL_value rfl x_move ?_
    have hsm : ¬ ds.kept.length < 64 := by omega
    rw [if_neg hsm]
    refine wpL_exw rfl (x_mkM Int) ?_
    rintro _ w2 ⟨fr, rfl, hr, hm2, hc2, hl2⟩
    refine wpL_value rfl (x_buildL Tryz.underlying100 I100 rfl (zs := [.pointer none, .map none, .int .u64 0, .bool false]) rfl rfl (fill1 rfl rfl rfl (Nat.le_of_ble_eq_true rfl) (fill1 rfl rfl rfl (Nat.le_of_ble_eq_true rfl) (fill0 (cs' := [.pointer (some ⟨b, 0, none⟩), .map (some fr), .int .u64 0, .bool false]) rfl)))) ?_
    refine wpL_exw rfl (x_boxB rfl rfl) ?_
    rintro _ w3 ⟨sb, rfl, hsb, hB, hc3, hl3⟩
    refine wpL_value rfl x_assign ?_
    refine wpL_nil (thenE_norm ?_)
    refine wpE_seq ?_
    refine wpE_seq ?_
    refine wpE_region ?_
    refine wpL_value rfl x_move ?_
    refine wpL_nil (thenE_norm ?_)
    refine wpE_block ?_
    have hc03 := (hc1.tr hc2).tr hc3
    have hs3 : SlotAt w3 sb fr b ss0 := ⟨hB, hm2.mod hc3 (by simp), by omega⟩
    have hsb0 : w.heap.size ≤ sb := by have := hc1.1; omega
    have hfr0 : w.heap.size ≤ fr := by have := hc1.1; omega
    refine wpE_loop [15] [2, 3, 5, 6, 7, 15, 16, 17, 18, 19, 20, 21, 22, 23, 24, 25, 26, 27, 28, 29, 30, 31] (fun n vs w' => ∃ (i : Nat), vs = [.int .i64 i] ∧ i + n = 26 ∧ SlotAt w' sb fr b (openS ds i) ∧ Chg [] w w' ∧ (0 < i → ds.off = false)) (26) (by kernel_rfl) ?_ ?_
    · exact ⟨0, rfl, rfl, by rw [openS_zero]; exact hs3, hc03, fun h => by omega⟩
    · rintro n vs J w4 ⟨i, rfl, hi, hs4, hc4, hoff⟩
      refine wpE_seq ?_
      refine wpE_region ?_
      refine wpL_value rfl (x_lss rfl rfl) ?_
      refine wpL_nil (thenE_norm ?_)
      refine wpE_seq ?_
      refine wpE_cond_d rfl (fun h2 => ?_) (fun h2 => ?_)
      · skip
        refine wpE_skip (thenE_norm ?_)
        refine wpE_seq ?_
        refine wpE_block ?_
        refine wpE_seq ?_
        refine wpE_region ?_
        refine wpL_value rfl x_move (wpL_value rfl x_assign ?_)
        refine wpL_nil (thenE_norm ?_)
        refine wpE_seq ?_
        refine wpE_region ?_
        refine wpL_value rfl x_move (wpL_value rfl x_move ?_)
        have hob3 : ∃ q, n = q + 1 := ⟨n - 1, by omega⟩
        obtain ⟨n, rfl⟩ := hob3
        refine wpL_call rfl C25 (Read_ok w4 b r kv ds i (hd.chg0 hc4)) ?_
        rintro v5 w5 ⟨hc5, hv5⟩
        have his : ds.is i = true := by simp [DSt.is]; omega
        by_cases hof : ds.off = true
        · skip
          rw [if_pos hof] at hv5
          subst hv5
          refine wpL_value rfl x_move (wpL_value rfl (x_extract rfl rfl) (wpL_value rfl (x_extract rfl rfl) (wpL_value rfl x_assign (wpL_value rfl x_assign ?_))))
          refine wpL_nil (thenE_norm ?_)
          refine wpE_seq ?_
          refine wpE_seq ?_
          refine wpE_region ?_
          refine wpL_value rfl x_move (wpL_value rfl (x_neq rfl rfl) ?_)
          refine wpL_nil (thenE_norm ?_)
          refine wpE_cond_dt rfl (by decide) ?_
          refine wpE_seq ?_
          refine wpE_region ?_
          refine wpL_value rfl x_move (wpL_value rfl x_assign (wpL_value rfl x_assign ?_))
          refine wpL_nil (thenE_norm ?_)
          refine wpE_ret (thenE_ret (blockE_ret (thenE_ret (thenE_ret (blockE_ret (thenE_ret (fin_ret ?_)))))))
          refine ⟨?_, hc4.tr hc5⟩
          rw [if_pos hof]
          unfold newV; rw [if_neg (by decide)]; rfl
        · skip
          rw [if_neg hof, if_pos his] at hv5
          obtain ⟨p, rfl, hp, hpi⟩ := hv5
          refine wpL_value rfl x_move (wpL_value rfl (x_extract rfl rfl) (wpL_value rfl (x_extract rfl rfl) (wpL_value rfl x_assign (wpL_value rfl x_assign ?_))))
          refine wpL_nil (thenE_norm ?_)
          refine wpE_seq ?_
          refine wpE_seq ?_
          refine wpE_region ?_
          refine wpL_value rfl x_move (wpL_value rfl (x_neq rfl rfl) ?_)
          refine wpL_nil (thenE_norm ?_)
          refine wpE_cond_df rfl (fun h => h rfl) ?_
          refine wpE_skip (thenE_norm ?_)
          refine wpE_region ?_
          refine wpL_value rfl x_move (wpL_value rfl x_move (wpL_value rfl x_move ?_))
          refine wpL_call rfl C96 (reads_ok w5 sb fr b p _ _ i (hs4.chg0 hc5) hp (ds.now i).2 (fun h => by have := hpi.ge _ h; have := hs4.1.lt; omega)) ?_
          rintro _ w6 ⟨hs6, hc6⟩
          refine wpL_nil (blockE_norm (thenE_norm ?_))
          refine wpE_region ?_
          refine wpL_value rfl (x_add64 rfl rfl (by omega)) (wpL_value rfl x_move ?_)
          refine wpL_nil (thenE_norm ?_)
          rw [← openS_succ] at hs6
          refine Exists.intro (n) (And.intro (by omega) ?_)
          exact ⟨i + 1, vs_cons (int_eq rfl) vs_nil, by omega, hs6, (hc4.tr hc5).t0 hc6 (by simp; omega), fun _ => by simpa using hof⟩
      · skip
        refine wpE_exit (thenE_exit (thenE_exit (blockE_exit (thenE_norm ?_))))
        refine wpE_seq ?_
        refine wpE_region ?_
        refine wpL_value rfl x_move (wpL_value rfl x_assign (wpL_value rfl x_assign ?_))
        refine wpL_nil (thenE_norm ?_)
        refine wpE_ret (fin_ret ?_)
        have hob4 : i = 26 := by omega
        obtain rfl := hob4
        refine ⟨?_, hc4⟩
        rw [if_neg (by rw [hoff (by decide)]; decide)]
        unfold newV; rw [if_pos rfl]
        exact ⟨sb, fr, rfl, hs4, hsb0, hfr0⟩
end Go.Proofs.YtenhmbhflgnhlaaGreat
