/- A wrapped key stands on the disk as it is said to, is told by its key, and by another one as the document's unwrapping tells. It holds for every input; there are no conditions. -/
import Derived.Test.YtenhmbhflgnhlaaGreatQSector
import Derived.Test.YtenhmbhflgnhlaaGreatSac1
namespace Go.Proofs.YtenhmbhflgnhlaaGreat
open Go Go.Sac
set_option maxRecDepth 100000
set_option maxHeartbeats 4000000
theorem framed_ok (n : UInt64) (x : W48) (w : World) :
    Ret Tryz.prog 56 #[.int .u64 n.toNat, arrV x.1] w fun v w' => Own w' v (framedL n.toNat x.1) ∧ Chg [] w w' ∧ In v [] w.heap.size := by
  have hbl : ∀ y : Nat, (be 8 y).length = 8 := be_length 8
  have hxl := x.2
  refine enter [4] Tryz.func56 rfl rfl (Nat.le_of_ble_eq_true rfl) ?_
  refine wpE_seq ?_
  refine wpE_region ?_
  refine wpL_boxA (l := x.1) rfl rfl ?_
  rintro w1 b1 hn1 ha1 hc1 hl1
  refine wpL_value rfl x_assign ?_
  refine wpL_nil (thenE_norm ?_)
  refine wpE_seq ?_
  refine wpE_draw mixed (.pure 0 (.pure 2 (.pure 4 (.eff 1 [] (.eff 3 [] (.eff 5 [] (.pure 6 .nil))))))) (by kernel_rfl) ?_
  refine wpP_pure rfl rfl rfl (fun _ => x_move) ?_
  refine wpP_pure rfl rfl rfl (fun _ => x_arr_full Tryz.underlying103 I5 rfl) ?_
  refine wpP_pure rfl rfl rfl (fun _ => x_move) ?_
  refine wpP_call rfl rfl rfl C64 (Put_ok (.slice none 0 0) [] n 8 _ (Own.nil _) (by decide) (by decide)) ?_
  rintro v2 w2 ⟨ho2, hc2, hi2⟩
  refine ⟨trivial, ?_⟩
  have hc2 : Chg [] w1 w2 := hc2
  have hi2 : In v2 [] w1.heap.size := hi2
  rw [List.nil_append] at ho2
  refine wpP_exw rfl rfl rfl (x_app Tryz.underlying41 Tryz.underlying41 I5 (.inr ⟨_, rfl⟩) rfl rfl rfl (by decide) (ho2) (((ha1.chg0 hc2).sl (n := 48) (c := 48) hxl (Nat.le_refl _)).src) rfl rfl (by rw [hbl]; omega)) ?_
  rintro v3 w3 h3
  refine ⟨trivial, ?_⟩
  have hob1 := h3.step hc2 hi2
  obtain ⟨ho3, hc3, hi3⟩ := hob1
  refine wpP_call rfl rfl rfl C64 (Put_ok v3 _ n 8 _ ho3 (by decide) (by rw [List.length_append, hbl]; omega)) ?_
  rintro v4 w4 ⟨ho4, hc4, hi4⟩
  refine ⟨trivial, ?_⟩
  refine wpP_pure rfl rfl rfl (fun _ => x_assign) ?_
  refine wpP_nil (thenE_norm ?_)
  refine wpE_ret (fin_ret ?_)
  refine ⟨ho4, hc1.tr (hc3.t0 hc4 hi3.ge), ?_⟩
  exact hi4.mono (fun b hb => .inr (Nat.le_trans hc1.1 (hi3.ge b hb))) (Nat.le_trans hc1.1 hc3.1)
theorem unframed_ok (bv : Value) (l : List UInt8) (w : World) (hb : Sl w bv l) (hl : l.length = 64) :
    Ret Tryz.prog 118 #[bv] w fun v w' => v = .tuple #[.int .u64 (unframedL l).1.toNat, arrV (unframedL l).2.1] ∧ Chg [] w w' := by
  refine enterR [.tmp 2, .cell 3 103] Tryz.func118 rfl rfl (Nat.le_of_ble_eq_true rfl) ?_
  refine wpE_seq ?_
  refine wpE_region ?_
  refine wpL_value rfl (x_as (v := .int .u64 ((0 : UInt64).toNat : Nat)) rfl) ?_
  refine wpL_allocA (List.replicate 48 (0 : UInt8)) I103 rfl rfl rfl ?_
  rintro w1 b1 hn1 ha1 hc1 hl1
  refine wpL_nil (thenE_norm ?_)
  refine wpE_seq ?_
  refine wpE_region ?_
  refine wpL_allocA (List.replicate 48 (0 : UInt8)) I103 rfl rfl rfl ?_
  rintro w2 b2 hn2 ha2 hc2 hl2
  refine wpL_nil (thenE_norm ?_)
  refine wpE_seq ?_
  refine wpE_region ?_
  refine wpL_value rfl x_move ?_
  have hc02 := hc1.tr hc2
  refine wpL_call rfl C81 (Get_ok bv l 8 w2 (hb.mod0 hc02) (by decide) (by omega)) ?_
  rintro v3 w3 ⟨hv3, hh3⟩
  unfold getV at hv3
  rw [if_neg (by omega)] at hv3
  obtain ⟨r3, rfl, hs3, hbl3⟩ := hv3
  have hdl : (l.drop 8).length = 56 := by rw [List.length_drop]; omega
  have hob2 := hs3.form hdl
  obtain ⟨p3, c3, rfl⟩ := hob2
  have hc3 : Chg [] w2 w3 := Chg.heap hh3
  refine wpL_value rfl x_move (wpL_value rfl (x_extract rfl rfl) (wpL_value rfl (x_extract rfl rfl) (wpL_value rfl (x_extract rfl rfl) (wpL_value rfl x_assign (wpL_value rfl x_assign (wpL_value rfl x_assign ?_))))))
  refine wpL_nil (thenE_norm ?_)
  refine wpE_seq ?_
  refine wpE_region ?_
  refine wpL_value rfl (x_arr_full Tryz.underlying103 I5 rfl) ?_
  refine wpL_value rfl x_move ?_
  refine wpL_exv rfl (x_copyArr (k := 0) Tryz.underlying41 I5 rfl rfl rfl rfl (hs3.src) (ha2.chg0 hc3) (by first | (simp; done) | omega)) ?_
  rintro w4 ⟨ha4, hc4, hs4⟩
  refine wpL_nil (thenE_norm ?_)
  refine wpE_seq ?_
  refine wpE_seq ?_
  refine wpE_region ?_
  refine wpL_value rfl x_move ?_
  have htk : ((l.drop 8).take (min (l.drop 8).length 48)).length = 48 := by rw [List.length_take, hdl]; rfl
  rw [spl_all (by rw [htk]; rfl), hdl, show min 56 48 = 48 from rfl] at ha4
  rw [← unfW_eq l hl] at ha4
  have hblt := hb.lt
  have hs4' := hs3.mod hc4 (nb1 (fun h => by rw [hbl3] at h; have := hblt _ h; have := hc1.1; omega))
  refine wpL_ex rfl (x_from 48 Tryz.underlying41 I5 rfl hs4' rfl rfl rfl (by omega)) ?_
  rintro _ ⟨⟨p5, c5, rfl⟩, hs5, hbl5⟩
  have hdl2 : ((l.drop 8).drop 48).length = 8 := by rw [List.length_drop, hdl]
  refine wpL_call rfl C81 (Get_ok _ _ 8 w4 hs5 (by decide) (by omega)) ?_
  rintro v6 w6 ⟨hv6, hh6⟩
  unfold getV at hv6
  rw [if_neg (by omega)] at hv6
  obtain ⟨r6, rfl, hs6, hbl6⟩ := hv6
  have hc6 : Chg [] w4 w6 := Chg.heap hh6
  have hc06 : Chg [] w w6 := ((hc02.tr hc3).t1 hc4 (by have := hc1.1; omega)).tr hc6
  have ha1' : Arr w6 b1 (List.replicate 48 (0 : UInt8)) := (((ha1.chg0 hc2).chg0 hc3).nb hc4 (by omega)).chg0 hc6
  refine wpL_value rfl x_move (wpL_value rfl (x_extract rfl rfl) (wpL_value rfl (x_extract rfl rfl) (wpL_value rfl (x_extract rfl rfl) (wpL_value rfl x_assign (wpL_value rfl x_assign (wpL_value rfl x_assign ?_))))))
  refine wpL_nil (thenE_norm ?_)
  refine wpE_seq ?_
  refine wpE_region ?_
  refine wpL_value rfl x_move ?_
  refine wpL_value rfl (x_to (x_neq rfl rfl) (congrArg Value.bool (decide_eq_false (fun h => h rfl)))) ?_
  refine wpL_value rfl x_move (wpL_yes rfl (wpL_value rfl x_move (wpL_yes rfl (wpL_value rfl x_move (wpL_yes rfl (wpL_value rfl (x_neq64u rfl rfl) (wpL_value rfl (x_pick_f rfl) ?_)))))))
  refine wpL_nil (thenE_norm ?_)
  refine wpE_cond_d rfl (fun h => ?_) (fun h => ?_)
  · skip
    refine wpE_seq ?_
    refine wpE_region ?_
    refine wpL_value rfl (x_buildV (List.replicate 48 (0 : UInt8)) (([] : List (Nat × UInt8))) (l := List.replicate 48 0) Tryz.underlying103 I103 rfl I5 (by kernel_rfl) rfl (by kernel_rfl) rfl (by kernel_rfl)) ?_
    refine wpL_value rfl (x_as (v := .int .u64 ((0 : UInt64).toNat : Nat)) rfl) ?_
    refine wpL_exs rfl (x_storeN 48 I103 rfl (ha1') rfl rfl (rfl) (rfl)) ?_
    rintro w7 ⟨ha7, hc7, hs7⟩
    refine wpL_nil (thenE_norm ?_)
    refine wpE_ret (thenE_ret (fin_retR ?_))
    refine ⟨[.int .u64 (0 : UInt64).toNat, arrV (List.replicate 48 (0 : UInt8))], ⟨rfl, ⟨_, rfl, run_loadN 48 Tryz.underlying103 rfl I103 rfl ha7 rfl⟩, trivial⟩, ?_, hc06.t1 hc7 hn1⟩
    have hne : ¬ unfM l = unfN l := h
    unfold unframedL
    rw [if_neg hne]; rfl
  · skip
    refine wpE_skip (thenE_norm ?_)
    refine wpE_seq ?_
    have heq : unfM l = unfN l := Decidable.not_not.1 h
    refine wpE_draw mixed (.pure 0 (.read 1 (.pure 2 (.eff 3 [] .nil)))) (by kernel_rfl) ?_
    refine wpP_pure rfl rfl rfl (fun _ => x_move) ?_
    refine wpP_rdA 48 rfl rfl rfl Tryz.underlying103 rfl I103 rfl rfl (ha4.chg0 hc6) ((unfW l).2) ?_
    refine wpP_pure rfl rfl rfl (fun _ => x_assign) ?_
    refine wpP_exs rfl rfl rfl (x_storeN 48 I103 rfl (ha1') rfl rfl (rfl) ((unfW l).2)) ?_
    rintro w7 ⟨ha7, hc7, hs7⟩
    refine ⟨trivial, ?_⟩
    refine wpP_nil (thenE_norm ?_)
    refine wpE_ret (fin_retR ?_)
    have hc7 : Chg [b1] w6 w7 := hc7
    refine ⟨[.int .u64 (unfN l).toNat, arrV (unfW l).1], ⟨rfl, ⟨_, rfl, run_loadN 48 Tryz.underlying103 rfl I103 rfl ha7 (unfW l).2⟩, trivial⟩, ?_, hc06.t1 hc7 hn1⟩
    unfold unframedL
    rw [if_pos heq]; rfl
theorem isSlot_ok (i : Int) (w : World) : Ret Tryz.prog 52 #[.int .i64 i] w fun v w' => v = .bool (isSlot i) ∧ w = w' := by
  refine enter [2] Tryz.func52 rfl rfl (Nat.le_of_ble_eq_true rfl) ?_
  refine wpE_seq ?_
  refine wpE_region ?_
  refine wpL_value rfl x_assign ?_
  refine wpL_nil (thenE_norm ?_)
  refine wpE_seq ?_
  refine wpE_region ?_
  refine wpL_value rfl x_move ?_
  by_cases h : 0 ≤ i
  · skip
    refine wpL_value rfl (x_to (x_geq rfl rfl) (congrArg Value.bool (decide_eq_true (h)))) ?_
    refine wpL_value rfl x_move (wpL_yes rfl (wpL_value rfl x_move (wpL_yes rfl (wpL_value rfl (x_lss rfl rfl) (wpL_value rfl (x_pick_t rfl) (wpL_value rfl x_assign ?_))))))
    refine wpL_nil (thenE_norm ?_)
    refine wpE_ret (fin_ret ?_)
    refine ⟨?_, rfl⟩
    unfold isSlot
    rw [decide_eq_true h, Bool.true_and]; rfl
  · skip
    refine wpL_value rfl (x_to (x_geq rfl rfl) (congrArg Value.bool (decide_eq_false (h)))) ?_
    refine wpL_value rfl x_move (wpL_no rfl rfl (wpL_no rfl rfl (wpL_value rfl (x_pick_f rfl) (wpL_value rfl x_assign ?_))))
    refine wpL_nil (thenE_norm ?_)
    refine wpE_ret (fin_ret ?_)
    refine ⟨?_, rfl⟩
    unfold isSlot
    rw [decide_eq_false h]; rfl
def Apart (sb fr b r : Nat) (kv : Value) : Prop := sb ∉ DF b kv r ∧ fr ∉ DF b kv r
theorem writes_ok (w : World) (sb fr b r : Nat) (kv bv : Value) (l : List UInt8) (ds : DSt) (s : SSt) (i : Int) (hs : SlotAt w sb fr b s) (hd : DiskAt w b kv r ds) (hf : ds.Fine) (hf2 : ds.steps + 2 ≤ 1000000000000) (hb : Sl w bv l) (hl : l.length ≤ 64) (hap : Apart sb fr b r kv) :
    Ret Tryz.prog 55 #[.pointer (some ⟨sb, 0, none⟩), .int .i64 i, bv] w fun v w' => v = .int .i64 (wrD ds i l).2 ∧ DiskAt w' b kv r (wrD ds i l).1 ∧ SlotAt w' sb fr b (s.died (wrD ds i l).2) ∧ Chg (sb :: DF b kv r) w w' := by
  refine enter [6] Tryz.func55 rfl rfl (Nat.le_of_ble_eq_true rfl) ?_
  refine wpE_seq ?_
  refine wpE_region ?_
  refine wpL_value rfl x_assign ?_
  refine wpL_nil (thenE_norm ?_)
  refine wpE_seq ?_
  refine wpE_region ?_
  refine wpL_exw rfl (x_mkS (64) (64) ((0 : UInt8)) Tryz.underlying41 I5 rfl rfl rfl (by decide) rfl rfl (by decide) (by first | rfl | omega) (by first | rfl | omega) (by omega) (by omega)) ?_
  rintro _ w1 ⟨⟨p1, c1, rfl⟩, ho1, hc1, hi1⟩
  refine wpL_value rfl x_assign ?_
  refine wpL_nil (thenE_norm ?_)
  refine wpE_seq ?_
  refine wpE_region ?_
  refine wpL_value rfl x_move (wpL_value rfl x_move ?_)
  refine wpL_exv rfl (x_copyO Tryz.underlying41 I5 rfl ho1 (hb.mod0 hc1).src (by decide) rfl rfl) ?_
  rintro w2 ⟨ho2, hc2, hs2⟩
  refine wpL_nil (thenE_norm ?_)
  refine wpE_seq ?_
  refine wpE_region ?_
  refine wpL_value rfl x_move (wpL_value rfl (x_nil rfl) (wpL_value rfl (x_fieldAddr Tryz.underlying100 rfl I25 rfl rfl) ?_))
  have hm : min l.length (List.replicate 64 (0 : UInt8)).length = l.length := by rw [List.length_replicate]; omega
  rw [hm, List.take_of_length_le (Nat.le_refl _), spl0, List.drop_replicate] at ho2
  have ho2 : Own w2 (.slice p1 64 c1) (pad64 l) := ho2
  have hc02 : Chg [] w w2 := hc1.t0 hc2 hi1.ge
  refine wpL_value rfl (x_load Tryz.underlying25 rfl rfl ((hs.1.chg0 hc02).c (off := 0) rfl)) ?_
  refine wpL_value rfl x_move (wpL_value rfl x_move ?_)
  have hdlt := hd.lt
  refine wpL_call rfl C26 (Write2_ok w2 b r kv _ (pad64 l) ds i (hd.chg0 hc02) hf ho2.sl (fun h => by have := hi1.ge _ h; have := hdlt b (by simp [DF]); omega)) ?_
  rintro _ w3 ⟨rfl, hd3, hc3⟩
  refine wpL_value rfl x_assign ?_
  refine wpL_nil (thenE_norm ?_)
  refine wpE_seq ?_
  refine wpE_seq ?_
  refine wpE_region ?_
  refine wpL_value rfl x_move (wpL_value rfl (x_eql rfl rfl) ?_)
  refine wpL_nil (thenE_norm ?_)
  refine wpE_cond_d rfl (fun h => ?_) (fun h => ?_)
  · skip
    refine wpE_region ?_
    refine wpL_value rfl x_move (wpL_value rfl (x_nil rfl) (wpL_value rfl (x_fieldAddr Tryz.underlying100 rfl I25 rfl rfl) ?_))
    refine wpL_value rfl (x_load Tryz.underlying25 rfl rfl (((hs.1.chg0 hc02).chg hc3 hap.1).c (off := 0) rfl)) ?_
    refine wpL_call rfl C27 (Flush_ok w3 b r kv _ hd3 (hf.write (by omega) _ _)) ?_
    rintro _ w5 ⟨rfl, hd5, hc45⟩
    refine wpL_value rfl x_assign ?_
    refine wpL_nil (thenE_norm ?_)
    refine wpE_seq ?_
    refine wpE_region ?_
    refine wpL_value rfl x_move (wpL_value rfl x_move (wpL_value rfl (x_nil rfl) (wpL_value rfl (x_fieldAddr Tryz.underlying100 rfl I4 rfl rfl) ?_)))
    rw [wrD_pos h]
    have hc5 : Chg (DF b kv r) w w5 := ((hc02.mono (fun x hx _ => by simp at hx)).tr hc3).tr hc45
    generalize (ds.write i (pad64 l)).1.flush = dw at *
    have hs5 : SlotAt w5 sb fr b s := hs.chg hc5 hap.1 hap.2
    have hB5 := hs5.1
    by_cases hdd : s.dead = true
    · skip
      have hcell : w5.cell? ⟨sb, 3, none⟩ = some (.bool true) := hB5.c (off := 3) (by rw [hdd]; rfl)
      refine wpL_value rfl (x_load Tryz.underlying4 rfl rfl (hcell)) ?_
      refine wpL_value rfl x_move (wpL_no rfl rfl (wpL_no rfl rfl (wpL_value rfl (x_pick_t rfl) (wpL_value rfl (x_nil rfl) (wpL_value rfl (x_fieldAddr Tryz.underlying100 rfl I4 rfl rfl) ?_)))))
      refine wpL_exs rfl (x_storeB1 I4 rfl rfl (hB5) rfl rfl (show 3 < _ by simp) rfl (rfl)) ?_
      rintro w6 ⟨hB6, hc6, hs6⟩
      refine wpL_nil (thenE_norm ?_)
      refine wpE_seq ?_
      refine wpE_region ?_
      refine wpL_value rfl x_move (wpL_value rfl x_assign ?_)
      refine wpL_nil (thenE_norm ?_)
      refine wpE_ret (fin_ret ?_)
      refine ⟨rfl, hd5.chg hc6 (fun x hx h => hap.1 (by simp at h; subst h; exact hx)), ⟨?_, hs5.2.1.mod hc6 (by simpa using Ne.symm hs5.2.2), hs5.2.2⟩, ?_⟩
      · have : (s.died dw.2).dead = true := by unfold SSt.died; simp [hdd]
        show Blk w6 sb [_, _, _, .bool (s.died dw.2).dead]
        rw [this]; exact hB6
      · exact (hc5.mono (fun x hx _ => List.mem_cons_of_mem _ hx)).tr (hc6.mono (fun x hx _ => by simp at hx; subst hx; simp))
    · skip
      have hdd : s.dead = false := by simpa using hdd
      have hcell : w5.cell? ⟨sb, 3, none⟩ = some (.bool false) := hB5.c (off := 3) (by rw [hdd]; rfl)
      refine wpL_value rfl (x_load Tryz.underlying4 rfl rfl (hcell)) ?_
      refine wpL_value rfl x_move (wpL_yes rfl (wpL_value rfl x_move (wpL_yes rfl (wpL_value rfl (x_eql rfl rfl) (wpL_value rfl (x_pick_f rfl) (wpL_value rfl (x_nil rfl) (wpL_value rfl (x_fieldAddr Tryz.underlying100 rfl I4 rfl rfl) ?_)))))))
      refine wpL_exs rfl (x_storeB1 I4 rfl rfl (hB5) rfl rfl (show 3 < _ by simp) rfl (rfl)) ?_
      rintro w6 ⟨hB6, hc6, hs6⟩
      refine wpL_nil (thenE_norm ?_)
      refine wpE_seq ?_
      refine wpE_region ?_
      refine wpL_value rfl x_move (wpL_value rfl x_assign ?_)
      refine wpL_nil (thenE_norm ?_)
      refine wpE_ret (fin_ret ?_)
      refine ⟨rfl, hd5.chg hc6 (fun x hx h => hap.1 (by simp at h; subst h; exact hx)), ⟨?_, hs5.2.1.mod hc6 (by simpa using Ne.symm hs5.2.2), hs5.2.2⟩, ?_⟩
      · have : (s.died dw.2).dead = decide (dw.2 = 61) := by unfold SSt.died; simp [hdd]
        show Blk w6 sb [_, _, _, .bool (s.died dw.2).dead]
        rw [this]; exact hB6
      · exact (hc5.mono (fun x hx _ => List.mem_cons_of_mem _ hx)).tr (hc6.mono (fun x hx _ => by simp at hx; subst hx; simp))
  · skip
    refine wpE_skip (thenE_norm ?_)
    refine wpE_seq ?_
    refine wpE_region ?_
    refine wpL_value rfl x_move (wpL_value rfl x_move (wpL_value rfl (x_nil rfl) (wpL_value rfl (x_fieldAddr Tryz.underlying100 rfl I4 rfl rfl) ?_)))
    rw [wrD_neg h]
    have hc5 : Chg (DF b kv r) w w3 := (hc02.mono (fun x hx _ => by simp at hx)).tr hc3
    have hd5 := hd3
    generalize ds.write i (pad64 l) = dw at *
    generalize w3 = w5 at *
    have hs5 : SlotAt w5 sb fr b s := hs.chg hc5 hap.1 hap.2
    have hB5 := hs5.1
    by_cases hdd : s.dead = true
    · skip
      have hcell : w5.cell? ⟨sb, 3, none⟩ = some (.bool true) := hB5.c (off := 3) (by rw [hdd]; rfl)
      refine wpL_value rfl (x_load Tryz.underlying4 rfl rfl (hcell)) ?_
      refine wpL_value rfl x_move (wpL_no rfl rfl (wpL_no rfl rfl (wpL_value rfl (x_pick_t rfl) (wpL_value rfl (x_nil rfl) (wpL_value rfl (x_fieldAddr Tryz.underlying100 rfl I4 rfl rfl) ?_)))))
      refine wpL_exs rfl (x_storeB1 I4 rfl rfl (hB5) rfl rfl (show 3 < _ by simp) rfl (rfl)) ?_
      rintro w6 ⟨hB6, hc6, hs6⟩
      refine wpL_nil (thenE_norm ?_)
      refine wpE_seq ?_
      refine wpE_region ?_
      refine wpL_value rfl x_move (wpL_value rfl x_assign ?_)
      refine wpL_nil (thenE_norm ?_)
      refine wpE_ret (fin_ret ?_)
      refine ⟨rfl, hd5.chg hc6 (fun x hx h => hap.1 (by simp at h; subst h; exact hx)), ⟨?_, hs5.2.1.mod hc6 (by simpa using Ne.symm hs5.2.2), hs5.2.2⟩, ?_⟩
      · have : (s.died dw.2).dead = true := by unfold SSt.died; simp [hdd]
        show Blk w6 sb [_, _, _, .bool (s.died dw.2).dead]
        rw [this]; exact hB6
      · exact (hc5.mono (fun x hx _ => List.mem_cons_of_mem _ hx)).tr (hc6.mono (fun x hx _ => by simp at hx; subst hx; simp))
    · skip
      have hdd : s.dead = false := by simpa using hdd
      have hcell : w5.cell? ⟨sb, 3, none⟩ = some (.bool false) := hB5.c (off := 3) (by rw [hdd]; rfl)
      refine wpL_value rfl (x_load Tryz.underlying4 rfl rfl (hcell)) ?_
      refine wpL_value rfl x_move (wpL_yes rfl (wpL_value rfl x_move (wpL_yes rfl (wpL_value rfl (x_eql rfl rfl) (wpL_value rfl (x_pick_f rfl) (wpL_value rfl (x_nil rfl) (wpL_value rfl (x_fieldAddr Tryz.underlying100 rfl I4 rfl rfl) ?_)))))))
      refine wpL_exs rfl (x_storeB1 I4 rfl rfl (hB5) rfl rfl (show 3 < _ by simp) rfl (rfl)) ?_
      rintro w6 ⟨hB6, hc6, hs6⟩
      refine wpL_nil (thenE_norm ?_)
      refine wpE_seq ?_
      refine wpE_region ?_
      refine wpL_value rfl x_move (wpL_value rfl x_assign ?_)
      refine wpL_nil (thenE_norm ?_)
      refine wpE_ret (fin_ret ?_)
      refine ⟨rfl, hd5.chg hc6 (fun x hx h => hap.1 (by simp at h; subst h; exact hx)), ⟨?_, hs5.2.1.mod hc6 (by simpa using Ne.symm hs5.2.2), hs5.2.2⟩, ?_⟩
      · have : (s.died dw.2).dead = decide (dw.2 = 61) := by unfold SSt.died; simp [hdd]
        show Blk w6 sb [_, _, _, .bool (s.died dw.2).dead]
        rw [this]; exact hB6
      · exact (hc5.mono (fun x hx _ => List.mem_cons_of_mem _ hx)).tr (hc6.mono (fun x hx _ => by simp at hx; subst hx; simp))
theorem Used_ok (w : World) (sb fr b : Nat) (s : SSt) (hs : SlotAt w sb fr b s) :
    Ret Tryz.prog 49 #[.pointer (some ⟨sb, 0, none⟩)] w fun v w' => Own w' v (usedS s 24) ∧ Chg [] w w' := by
  refine enter [2] Tryz.func49 rfl rfl (Nat.le_of_ble_eq_true rfl) ?_
  refine wpE_seq ?_
  refine wpE_region ?_
  refine wpL_value rfl x_assign ?_
  refine wpL_nil (thenE_norm ?_)
  refine wpE_seq ?_
  refine wpE_region ?_
  refine wpL_value rfl x_assign ?_
  refine wpL_nil (thenE_norm ?_)
  refine wpE_seq ?_
  refine wpE_seq ?_
  refine wpE_region ?_
  refine wpL_value rfl x_move ?_
  refine wpL_nil (thenE_norm ?_)
  refine wpE_block ?_
  refine wpE_loop [3, 7] [3, 4, 5, 6, 7, 8, 9, 10, 11, 12, 13, 14, 15, 16, 17, 18, 19, 20, 21, 22, 23, 24] (fun n vs w' => ∃ (v : Value) (i : Nat), vs = [v, .int .i64 i] ∧ i + n = 24 ∧ Own w' v (usedS s i) ∧ Chg [] w w' ∧ In v [] w.heap.size) (24) (by kernel_rfl) ?_ ?_
  · exact ⟨_, 0, rfl, rfl, Own.nil _, Chg.refl _, In.nil⟩
  · rintro n vs J w2 ⟨v, i, rfl, hi, ho2, hc2, hi2⟩
    refine wpE_seq ?_
    refine wpE_region ?_
    refine wpL_value rfl (x_lss rfl rfl) ?_
    refine wpL_nil (thenE_norm ?_)
    refine wpE_seq ?_
    refine wpE_cond_d rfl (fun h => ?_) (fun h => ?_)
    · skip
      refine wpE_skip (thenE_norm ?_)
      refine wpE_seq ?_
      refine wpE_block ?_
      refine wpE_seq ?_
      refine wpE_region ?_
      refine wpL_value rfl x_move (wpL_value rfl x_assign ?_)
      refine wpL_nil (thenE_norm ?_)
      refine wpE_seq ?_
      refine wpE_region ?_
      refine wpL_value rfl x_move (wpL_value rfl (x_nil rfl) (wpL_value rfl (x_fieldAddr Tryz.underlying100 rfl I98 rfl rfl) ?_))
      have hob3 : ∃ q, n = q + 1 := ⟨n - 1, by omega⟩
      obtain ⟨n, rfl⟩ := hob3
      refine wpL_value rfl (x_load Tryz.underlying98 rfl rfl ((hs.1.chg0 hc2).c (off := 1) rfl)) ?_
      refine wpL_value rfl x_move ?_
      refine wpL_value rfl (x_to (x_lookup2 Tryz.underlying98 (keyOk_int Tryz.underlying3) I105 rfl rfl rfl (hs.2.1.mod hc2 (by simp))) (lookF i s.full)) ?_
      refine wpL_value rfl x_move (wpL_value rfl (x_extract rfl rfl) (wpL_value rfl (x_extract rfl rfl) ?_))
      refine wpL_exw rfl (x_allocB (l := sltC slt0) I105 rfl rfl) ?_
      rintro _ w3 ⟨b3, rfl, hn3, hB3, hc3, hl3⟩
      refine wpL_exs rfl (x_storeSlt ((mget (i : Int) s.full).getD slt0) I105 rfl hB3 rfl rfl) ?_
      rintro w4 ⟨hB4, hc4, hs4⟩
      refine wpL_value rfl x_assign ?_
      refine wpL_nil (thenE_norm ?_)
      refine wpE_seq ?_
      refine wpE_region ?_
      refine wpL_value rfl x_move ?_
      refine wpL_nil (thenE_norm ?_)
      have hc24 : Chg [] w w4 := (hc2.tr hc3).t1 hc4 (Nat.le_trans hc2.1 hn3)
      have hus : usedS s (i + 1) = usedS s i ++ (if (mget (i : Int) s.full).isSome then [(i : Int)] else []) := by
        unfold usedS
        rw [List.range_succ, List.map_append, List.filter_append]
        congr 1
        cases hg : (mget (i : Int) s.full).isSome <;> simp [hg]
      have hul : (usedS s i).length ≤ i := by
        unfold usedS
        exact Nat.le_trans (List.length_filter_le _ _) (by simp)
      have ho4 := ho2.mod0 ((hc3.t1 hc4 hn3))
      refine wpE_cond rfl (fun hg => ?_) (fun hg => ?_)
      · skip
        refine wpE_region ?_
        refine wpL_value rfl x_move (wpL_value rfl x_move ?_)
        refine wpL_push ((i : Int)) Tryz.underlying95 I3 rfl rfl rfl (by decide) (by decide) rfl rfl rfl rfl (ho4) (fun _ => rfl) (by omega) ?_
        rintro s5 v5 w5 h5
        refine wpL_value rfl x_assign ?_
        refine wpL_nil (blockE_norm (thenE_norm ?_))
        refine wpE_region ?_
        refine wpL_value rfl (x_add64 rfl rfl (by omega)) (wpL_value rfl x_move ?_)
        refine wpL_nil (thenE_norm ?_)
        have hob4 := h5.step hc24 hi2
        obtain ⟨ho5, hc5, hi5⟩ := hob4
        refine Exists.intro (n) (And.intro (by omega) ?_)
        exact ⟨v5, i + 1, rfl, by omega, by rw [hus, if_pos hg]; exact ho5, hc5, hi5⟩
      · skip
        refine wpE_skip (blockE_norm (thenE_norm ?_))
        refine wpE_region ?_
        refine wpL_value rfl (x_add64 rfl rfl (by omega)) (wpL_value rfl x_move ?_)
        refine wpL_nil (thenE_norm ?_)
        refine Exists.intro (n) (And.intro (by omega) ?_)
        exact ⟨v, i + 1, rfl, by omega, by rw [hus, if_neg (by rw [hg]; decide), List.append_nil]; exact ho4, hc24, hi2⟩
    · skip
      refine wpE_exit (thenE_exit (thenE_exit (blockE_exit (thenE_norm ?_))))
      refine wpE_seq ?_
      refine wpE_region ?_
      refine wpL_value rfl x_move (wpL_value rfl x_assign ?_)
      refine wpL_nil (thenE_norm ?_)
      refine wpE_ret (fin_ret ?_)
      have hob5 : i = 24 := by omega
      obtain rfl := hob5
      exact ⟨ho2, hc2⟩
theorem Free_ok (w : World) (sb fr b : Nat) (s : SSt) (hs : SlotAt w sb fr b s) :
    Ret Tryz.prog 46 #[.pointer (some ⟨sb, 0, none⟩)] w fun v w' => v = .int .i64 (freeS s 24 0) ∧ Chg [] w w' := by
  refine enter [2] Tryz.func46 rfl rfl (Nat.le_of_ble_eq_true rfl) ?_
  refine wpE_seq ?_
  refine wpE_region ?_
  refine wpL_value rfl x_assign ?_
  refine wpL_nil (thenE_norm ?_)
  refine wpE_seq ?_
  refine wpE_seq ?_
  refine wpE_region ?_
  refine wpL_value rfl x_move ?_
  refine wpL_nil (thenE_norm ?_)
  refine wpE_block ?_
  refine wpE_loop [6] [2, 3, 4, 5, 6, 7, 8, 9, 10, 11, 12, 13, 14, 15, 16, 17, 18, 19, 20, 21] (fun n vs w' => ∃ (i : Nat), vs = [.int .i64 i] ∧ i + n = 24 ∧ freeS s 24 0 = freeS s n i ∧ Chg [] w w') (24) (by kernel_rfl) ?_ ?_
  · exact ⟨0, rfl, rfl, rfl, Chg.refl _⟩
  · rintro n vs J w2 ⟨i, rfl, hi, hfr, hc2⟩
    refine wpE_seq ?_
    refine wpE_region ?_
    refine wpL_value rfl (x_lss rfl rfl) ?_
    refine wpL_nil (thenE_norm ?_)
    refine wpE_seq ?_
    refine wpE_cond_d rfl (fun h => ?_) (fun h => ?_)
    · skip
      refine wpE_skip (thenE_norm ?_)
      refine wpE_seq ?_
      refine wpE_block ?_
      refine wpE_seq ?_
      refine wpE_region ?_
      refine wpL_value rfl x_move (wpL_value rfl x_assign ?_)
      refine wpL_nil (thenE_norm ?_)
      refine wpE_seq ?_
      refine wpE_region ?_
      refine wpL_value rfl x_move (wpL_value rfl (x_nil rfl) (wpL_value rfl (x_fieldAddr Tryz.underlying100 rfl I98 rfl rfl) ?_))
      have hob6 : ∃ q, n = q + 1 := ⟨n - 1, by omega⟩
      obtain ⟨n, rfl⟩ := hob6
      refine wpL_value rfl (x_load Tryz.underlying98 rfl rfl ((hs.1.chg0 hc2).c (off := 1) rfl)) ?_
      refine wpL_value rfl x_move ?_
      refine wpL_value rfl (x_to (x_lookup2 Tryz.underlying98 (keyOk_int Tryz.underlying3) I105 rfl rfl rfl (hs.2.1.mod hc2 (by simp))) (lookF i s.full)) ?_
      refine wpL_value rfl x_move (wpL_value rfl (x_extract rfl rfl) (wpL_value rfl (x_extract rfl rfl) ?_))
      refine wpL_exw rfl (x_allocB (l := sltC slt0) I105 rfl rfl) ?_
      rintro _ w3 ⟨b3, rfl, hn3, hB3, hc3, hl3⟩
      refine wpL_exs rfl (x_storeSlt ((mget (i : Int) s.full).getD slt0) I105 rfl hB3 rfl rfl) ?_
      rintro w4 ⟨hB4, hc4, hs4⟩
      refine wpL_value rfl x_assign ?_
      refine wpL_nil (thenE_norm ?_)
      refine wpE_seq ?_
      refine wpE_region ?_
      refine wpL_value rfl x_move (wpL_value rfl (x_not rfl) ?_)
      refine wpL_nil (thenE_norm ?_)
      have hc24 : Chg [] w w4 := (hc2.tr hc3).t1 hc4 (Nat.le_trans hc2.1 hn3)
      have hfs : freeS s (n + 1) i = if (mget (i : Int) s.full).isSome then freeS s n (i + 1) else (i : Int) := rfl
      refine wpE_cond rfl (fun hg => ?_) (fun hg => ?_)
      · skip
        refine wpE_seq ?_
        refine wpE_region ?_
        refine wpL_value rfl x_move (wpL_value rfl x_assign ?_)
        refine wpL_nil (thenE_norm ?_)
        refine wpE_ret (blockE_ret (thenE_ret (thenE_ret (blockE_ret (thenE_ret (fin_ret ?_))))))
        have hg : (mget (i : Int) s.full).isSome = false := by simpa using hg
        refine ⟨?_, hc24⟩
        rw [hfr, hfs, if_neg (by rw [hg]; decide)]; rfl
      · skip
        refine wpE_skip (blockE_norm (thenE_norm ?_))
        refine wpE_region ?_
        refine wpL_value rfl (x_add64 rfl rfl (by omega)) (wpL_value rfl x_move ?_)
        refine wpL_nil (thenE_norm ?_)
        have hg : (mget (i : Int) s.full).isSome = true := by simpa using hg
        refine Exists.intro (n) (And.intro (by omega) ?_)
        exact ⟨i + 1, rfl, by omega, by rw [hfr, hfs, if_pos hg], hc24⟩
    · skip
      refine wpE_exit (thenE_exit (thenE_exit (blockE_exit (thenE_norm ?_))))
      refine wpE_seq ?_
      refine wpE_region ?_
      refine wpL_value rfl x_assign ?_
      refine wpL_nil (thenE_norm ?_)
      refine wpE_ret (fin_ret ?_)
      have hob7 : n = 0 := by omega
      obtain rfl := hob7
      exact ⟨by rw [hfr]; rfl, hc2⟩
theorem counts_ok (w : World) (sb fr b r : Nat) (kv : Value) (ds : DSt) (s : SSt) (n : UInt64) (hs : SlotAt w sb fr b s) (hd : DiskAt w b kv r ds) (hf : ds.Fine) (hf2 : ds.steps + 2 ≤ 1000000000000) (hap : Apart sb fr b r kv) :
    Ret Tryz.prog 53 #[.pointer (some ⟨sb, 0, none⟩), .int .u64 n.toNat] w fun v w' => v = .int .i64 (cntD ds n).2 ∧ DiskAt w' b kv r (cntD ds n).1 ∧ SlotAt w' sb fr b (s.died (cntD ds n).2) ∧ Chg (sb :: DF b kv r) w w' := by
  have h2 : (n % 2).toNat < 2 := by rw [UInt64.toNat_mod]; exact Nat.mod_lt _ (by decide)
  refine enter [4] Tryz.func53 rfl rfl (Nat.le_of_ble_eq_true rfl) ?_
  refine wpE_seq ?_
  refine wpE_region ?_
  refine wpL_value rfl x_assign ?_
  refine wpL_nil (thenE_norm ?_)
  refine wpE_seq ?_
  refine wpE_region ?_
  refine wpL_value rfl x_move (wpL_value rfl (x_rem64u (b := 2) rfl rfl (by decide)) (wpL_value rfl (x_convI rfl Tryz.underlying35 Tryz.underlying3 (by omega)) (wpL_value rfl (x_add64 rfl rfl (by omega)) (wpL_value rfl x_assign ?_))))
  refine wpL_nil (thenE_norm ?_)
  refine wpE_seq ?_
  refine wpE_region ?_
  refine wpL_value rfl x_move (wpL_value rfl x_move (wpL_value rfl x_move ?_))
  refine wpL_value rfl (x_buildV (List.replicate 48 (0 : UInt8)) (([] : List (Nat × UInt8))) (l := List.replicate 48 0) Tryz.underlying103 I103 rfl I5 (by kernel_rfl) rfl (by kernel_rfl) rfl (by kernel_rfl)) ?_
  refine wpL_call rfl C56 (framed_ok n w48z w) ?_
  rintro v1 w1 ⟨ho1, hc1, hi1⟩
  refine wpL_call rfl C55 (writes_ok w1 sb fr b r kv v1 _ ds s _ (hs.chg0 hc1) (hd.chg0 hc1) hf hf2 ho1.sl (by rw [framedL_length]; decide) hap) ?_
  rintro v2 w2 ⟨rfl, hd2, hs2, hc2⟩
  refine wpL_value rfl x_assign ?_
  refine wpL_nil (thenE_norm ?_)
  refine wpE_ret (fin_ret ?_)
  exact ⟨rfl, hd2, hs2, (hc1.mono (fun x hx _ => by simp at hx)).tr hc2⟩
theorem reads_ok (w : World) (sb fr b : Nat) (bv : Value) (l : List UInt8) (s : SSt) (i : Int) (hs : SlotAt w sb fr b s) (hb : Sl w bv l) (hl : l.length = 64) (hsb : sb ∉ blkOf bv) :
    Ret Tryz.prog 96 #[.pointer (some ⟨sb, 0, none⟩), .int .i64 i, bv] w fun v w' => SlotAt w' sb fr b (s.reads i l) ∧ Chg [sb, fr] w w' := by
  obtain ⟨hB, hM, hne⟩ := id hs
  have hBlt := hB.lt
  have hMlt := hM.lt
  refine enter [] Tryz.func96 rfl rfl (Nat.le_of_ble_eq_true rfl) ?_
  refine wpE_seq ?_
  refine wpE_region ?_
  refine wpL_value rfl x_move ?_
  refine wpL_call rfl C118 (unframed_ok bv l w hb hl) ?_
  rintro _ w1 ⟨rfl, hc1⟩
  refine wpL_value rfl x_move (wpL_value rfl (x_extract rfl rfl) (wpL_value rfl (x_extract rfl rfl) ?_))
  have hrd : s.reads i l = { s with puts := umax s.puts (unframedL l).1, full := if i < 24 ∧ 0 < (unframedL l).1 then msetL i ⟨(unframedL l).2, (unframedL l).1⟩ s.full else s.full } := rfl
  rw [hrd]
  generalize unframedL l = u at *
  obtain ⟨un, uw⟩ := u
  simp only
  refine wpL_allocA (List.replicate 48 (0 : UInt8)) I103 rfl rfl rfl ?_
  rintro w2 b2 hn2 ha2 hc2 hl2
  refine wpL_value rfl x_assign ?_
  refine wpL_exs rfl (x_storeN 48 I103 rfl (ha2) rfl rfl (rfl) (uw.2)) ?_
  rintro w3 ⟨ha3, hc3, hs3⟩
  refine wpL_nil (thenE_norm ?_)
  refine wpE_seq ?_
  refine wpE_region ?_
  refine wpL_value rfl x_move (wpL_value rfl x_move (wpL_value rfl (x_nil rfl) (wpL_value rfl (x_fieldAddr Tryz.underlying100 rfl I35 rfl rfl) ?_)))
  have k1 := hc1.1
  have hc03 : Chg [] w w3 := (hc1.tr hc2).t1 hc3 (by omega)
  refine wpL_value rfl (x_load Tryz.underlying35 rfl rfl ((hB.chg0 hc03).c (off := 2) rfl)) ?_
  refine wpL_value rfl x_move (wpL_value rfl (x_max rfl rfl) (wpL_value rfl (x_nil rfl) (wpL_value rfl (x_fieldAddr Tryz.underlying100 rfl I35 rfl rfl) ?_)))
  refine wpL_exs rfl (x_storeB1 I35 rfl rfl (hB.chg0 hc03) rfl rfl (show 2 < _ by simp) rfl (congrArg (fun z => [Value.pointer (some ⟨b, 0, none⟩), Value.map (some fr), Value.int .u64 z, Value.bool s.dead]) (max_u64 s.puts un))) ?_
  rintro w4 ⟨hB4, hc4, hs4⟩
  refine wpL_nil (thenE_norm ?_)
  refine wpE_seq ?_
  refine wpE_region ?_
  refine wpL_value rfl x_move ?_
  have hM4 : MapAt w4 fr (vFull s.full) := (hM.mod hc03 (by simp)).mod hc4 (by simpa using Ne.symm hne)
  have hc04 : Chg [sb, fr] w w4 := (hc03.mono (fun x hx _ => by simp at hx)).tr (hc4.mono (fun x hx _ => by simp at hx; subst hx; simp))
  by_cases hi : i < 24
  · skip
    refine wpL_value rfl (x_to (x_lss rfl rfl) (congrArg Value.bool (decide_eq_true (hi)))) ?_
    refine wpL_value rfl x_move (wpL_yes rfl (wpL_value rfl x_move (wpL_yes rfl (wpL_value rfl (x_gtr64u (b := 0) rfl rfl) (wpL_value rfl (x_pick_t rfl) ?_)))))
    refine wpL_nil (thenE_norm ?_)
    refine wpE_cond_d rfl (fun h => ?_) (fun h => ?_)
    · skip
      have hun : 0 < un := h
      rw [if_pos ⟨hi, hun⟩]
      have ha4 := ha3.nb hc4 (by omega)
      refine wpE_draw mixed (.pure 0 (.pure 1 (.pure 2 (.read 3 (.pure 4 (.read 5 (.pure 6 (.pure 7 (.eff 8 [] .nil))))))))) (by kernel_rfl) ?_
      refine wpP_pure rfl rfl rfl (fun _ => x_move) ?_
      refine wpP_pure rfl rfl rfl (fun _ => (x_nil rfl)) ?_
      refine wpP_pure rfl rfl rfl (fun _ => (x_fieldAddr Tryz.underlying100 rfl I98 rfl rfl)) ?_
      refine wpP_rd rfl rfl rfl Tryz.underlying98 rfl rfl (hB4.c (off := 1) rfl) ?_
      refine wpP_pure rfl rfl rfl (fun _ => x_move) ?_
      refine wpP_rdA 48 rfl rfl rfl Tryz.underlying103 rfl I103 rfl rfl (ha4) (uw.2) ?_
      refine wpP_pure rfl rfl rfl (fun _ => x_move) ?_
      refine wpP_pure rfl rfl rfl (fun _ => x_buildL Tryz.underlying105 I105 rfl (zs := sltC slt0) rfl rfl (fillSlt ⟨uw, un⟩ _ rfl rfl)) ?_
      refine wpP_exs rfl rfl rfl (x_mapUpdate (k := i) (v := vSlt ⟨uw, un⟩) Tryz.underlying98 (keyOk_int Tryz.underlying3) rfl rfl rfl hM4) ?_
      rintro w5 ⟨hM5, hc5, hs5⟩
      refine ⟨trivial, ?_⟩
      refine wpP_nil (fin_end ?_)
      have hc5 : Chg [fr] w4 w5 := hc5
      rw [vFull_set] at hM5
      exact ⟨⟨hB4.nb hc5 hne, hM5, hne⟩, hc04.tr (hc5.mono (fun x hx _ => by simp at hx; subst hx; simp))⟩
    · skip
      refine wpE_skip (fin_end ?_)
      have hun : ¬ 0 < un := h
      rw [if_neg (fun h => hun h.2)]
      exact ⟨⟨hB4, hM4, hne⟩, hc04⟩
  · skip
    refine wpL_value rfl (x_to (x_lss rfl rfl) (congrArg Value.bool (decide_eq_false (hi)))) ?_
    refine wpL_value rfl x_move (wpL_no rfl rfl (wpL_no rfl rfl (wpL_value rfl (x_pick_f rfl) ?_)))
    refine wpL_nil (thenE_norm ?_)
    refine wpE_cond_f (rfl) ?_
    refine wpE_skip (fin_end ?_)
    rw [if_neg (fun h => hi h.1)]
    exact ⟨⟨hB4, hM4, hne⟩, hc04⟩
theorem Get2_ok (w : World) (sb fr b : Nat) (s : SSt) (i : Int) (kek : List UInt8) (hs : SlotAt w sb fr b s) (hk : kek.length = 32) :
    Ret Tryz.prog 15 #[.pointer (some ⟨sb, 0, none⟩), .int .i64 i, arrV kek] w fun v w' => v = .tuple #[arrV (getS s i kek).1, .int .i64 (getS s i kek).2] ∧ Chg [] w w' := by
  refine enterR [.cell 6 23, .tmp 7] Tryz.func15 rfl rfl (Nat.le_of_ble_eq_true rfl) ?_
  refine wpE_seq ?_
  refine wpE_region ?_
  refine wpL_boxA (l := kek) rfl rfl ?_
  rintro w1 b1 hn1 ha1 hc1 hl1
  refine wpL_allocA (List.replicate 32 (0 : UInt8)) I23 rfl rfl rfl ?_
  rintro w2 b2 hn2 ha2 hc2 hl2
  refine wpL_value rfl x_assign ?_
  refine wpL_nil (thenE_norm ?_)
  refine wpE_seq ?_
  refine wpE_seq ?_
  refine wpE_region ?_
  refine wpL_value rfl x_move ?_
  have hc02 := hc1.tr hc2
  refine wpL_call rfl C52 (isSlot_ok i w2) ?_
  rintro _ _ ⟨rfl, rfl⟩
  refine wpL_value rfl (x_not rfl) ?_
  refine wpL_nil (thenE_norm ?_)
  refine wpE_cond rfl (fun h => ?_) (fun h => ?_)
  · skip
    refine wpE_seq ?_
    refine wpE_region ?_
    have h : isSlot i = false := by simpa using h
    refine wpL_value rfl (x_buildV (List.replicate 32 (0 : UInt8)) (([] : List (Nat × UInt8))) (l := List.replicate 32 0) Tryz.underlying23 I23 rfl I5 (by kernel_rfl) rfl (by kernel_rfl) rfl (by kernel_rfl)) ?_
    refine wpL_exs rfl (x_storeN 32 I23 rfl (ha2) rfl rfl (rfl) (rfl)) ?_
    rintro w3 ⟨ha3, hc3, hs3⟩
    refine wpL_value rfl x_assign ?_
    refine wpL_nil (thenE_norm ?_)
    refine wpE_ret (thenE_ret (fin_retR ?_))
    refine ⟨[arrV (List.replicate 32 (0 : UInt8)), .int .i64 70], ⟨⟨_, rfl, run_loadN 32 Tryz.underlying23 rfl I23 rfl ha3 rfl⟩, rfl, trivial⟩, ?_, hc02.t1 hc3 (by omega)⟩
    unfold getS; rw [if_neg (by rw [h]; decide)]; rfl
  · skip
    refine wpE_skip (thenE_norm ?_)
    refine wpE_seq ?_
    refine wpE_region ?_
    refine wpL_value rfl x_move (wpL_value rfl (x_nil rfl) (wpL_value rfl (x_fieldAddr Tryz.underlying100 rfl I98 rfl rfl) ?_))
    have h : isSlot i = true := by simpa using h
    refine wpL_value rfl (x_load Tryz.underlying98 rfl rfl ((hs.1.chg0 hc02).c (off := 1) rfl)) ?_
    refine wpL_value rfl x_move ?_
    refine wpL_value rfl (x_to (x_lookup2 Tryz.underlying98 (keyOk_int Tryz.underlying3) I105 rfl rfl rfl (hs.2.1.mod hc02 (by simp))) (lookF i s.full)) ?_
    refine wpL_value rfl x_move (wpL_value rfl (x_extract rfl rfl) (wpL_value rfl (x_extract rfl rfl) ?_))
    refine wpL_exw rfl (x_allocB (l := sltC slt0) I105 rfl rfl) ?_
    rintro _ w3 ⟨b3, rfl, hn3, hB3, hc3, hl3⟩
    refine wpL_exs rfl (x_storeSlt ((mget i s.full).getD slt0) I105 rfl hB3 rfl rfl) ?_
    rintro w4 ⟨hB4, hc4, hs4⟩
    refine wpL_value rfl x_assign ?_
    refine wpL_nil (thenE_norm ?_)
    refine wpE_seq ?_
    refine wpE_seq ?_
    refine wpE_region ?_
    refine wpL_value rfl x_move (wpL_value rfl (x_not rfl) ?_)
    refine wpL_nil (thenE_norm ?_)
    have hc24 : Chg [] w2 w4 := hc3.t1 hc4 hn3
    refine wpE_cond rfl (fun hg => ?_) (fun hg => ?_)
    · skip
      refine wpE_seq ?_
      refine wpE_region ?_
      have hg : (mget i s.full).isSome = false := by simpa using hg
      refine wpL_value rfl (x_buildV (List.replicate 32 (0 : UInt8)) (([] : List (Nat × UInt8))) (l := List.replicate 32 0) Tryz.underlying23 I23 rfl I5 (by kernel_rfl) rfl (by kernel_rfl) rfl (by kernel_rfl)) ?_
      refine wpL_exs rfl (x_storeN 32 I23 rfl (ha2.chg0 hc24) rfl rfl (rfl) (rfl)) ?_
      rintro w5 ⟨ha5, hc5, hs5⟩
      refine wpL_value rfl x_assign ?_
      refine wpL_nil (thenE_norm ?_)
      refine wpE_ret (thenE_ret (fin_retR ?_))
      refine ⟨[arrV (List.replicate 32 (0 : UInt8)), .int .i64 120], ⟨⟨_, rfl, run_loadN 32 Tryz.underlying23 rfl I23 rfl ha5 rfl⟩, rfl, trivial⟩, ?_, (hc02.tr hc24).t1 hc5 (by omega)⟩
      unfold getS
      rw [if_pos h]
      cases hm : mget i s.full with
      | none => rfl
      | some x => rw [hm] at hg; cases hg
    · skip
      refine wpE_skip (thenE_norm ?_)
      refine wpE_seq ?_
      refine wpE_region ?_
      have hg : (mget i s.full).isSome = true := by simpa using hg
      have hob8 := Option.isSome_iff_exists.1 hg
      obtain ⟨x, hx⟩ := hob8
      rw [hx] at hB4
      refine wpL_value rfl (x_loadN 32 Tryz.underlying23 rfl I23 rfl rfl ((ha1.chg0 hc2).chg0 hc24) (by first | assumption | rfl | (simp <;> omega))) ?_
      refine wpL_value rfl x_move (wpL_value rfl (x_conv32u rfl Tryz.underlying3 Tryz.underlying34) (wpL_value rfl (x_fieldAddr Tryz.underlying105 rfl I35 rfl rfl) ?_))
      refine wpL_value rfl (x_load Tryz.underlying35 rfl rfl (hB4.c (slt_48 x))) ?_
      refine wpL_value rfl (x_fieldAddr Tryz.underlying105 rfl I103 rfl rfl) ?_
      refine wpL_value rfl (x_loadAt 48 Tryz.underlying103 rfl I103 rfl (hB4.at front_at) (x.w.2) rfl) ?_
      have hob9 := slotNo h
      obtain ⟨hno, hi0, hi1⟩ := hob9
      refine wpL_call rfl C59 (Unwrap_ok kek x.w.1 (toU32 i) x.gen w4 hk x.w.2) ?_
      rintro v5 w5 ⟨hv5, hc5⟩
      rw [hno] at hv5
      have hgs : getS s i kek = if fitsL kek (nonceL i.toNat x.gen.toNat) tWrap x.w.1 then (crossK kek (nonceL i.toNat x.gen.toNat) (x.w.1.take 32), 0) else (List.replicate 32 0, 50) := by
        unfold getS; rw [if_pos h, hx]
      unfold unwrapV at hv5
      have ha5 := (ha2.chg0 hc24).chg0 hc5
      have hc05 := (hc02.tr hc24).tr hc5
      by_cases hfit : fitsL kek (nonceL i.toNat x.gen.toNat) tWrap x.w.1
      · skip
        rw [if_pos hfit] at hv5 hgs
        subst hv5
        rw [hgs]
        have hcl : (crossK kek (nonceL i.toNat x.gen.toNat) (x.w.1.take 32)).length = 32 := by rw [crossK_length, List.length_take, x.w.2]; rfl
        refine wpL_value rfl (x_extract rfl rfl) (wpL_value rfl (x_extract rfl rfl) ?_)
        refine wpL_exs rfl (x_storeN 32 I23 rfl (ha5) rfl rfl (rfl) (hcl)) ?_
        rintro w6 ⟨ha6, hc6, hs6⟩
        refine wpL_value rfl x_assign ?_
        refine wpL_nil (thenE_norm ?_)
        refine wpE_ret (fin_retR ?_)
        exact ⟨[arrV (crossK kek (nonceL i.toNat x.gen.toNat) (x.w.1.take 32)), .int .i64 0], ⟨⟨_, rfl, run_loadN 32 Tryz.underlying23 rfl I23 rfl ha6 hcl⟩, rfl, trivial⟩, rfl, hc05.t1 hc6 (by omega)⟩
      · skip
        rw [if_neg hfit] at hv5 hgs
        subst hv5
        rw [hgs]
        refine wpL_value rfl (x_extract rfl rfl) (wpL_value rfl (x_extract rfl rfl) ?_)
        refine wpL_exs rfl (x_storeN 32 I23 rfl (ha5) rfl rfl (rfl) (rfl)) ?_
        rintro w6 ⟨ha6, hc6, hs6⟩
        refine wpL_value rfl x_assign ?_
        refine wpL_nil (thenE_norm ?_)
        refine wpE_ret (fin_retR ?_)
        exact ⟨[arrV (List.replicate 32 (0 : UInt8)), .int .i64 50], ⟨⟨_, rfl, run_loadN 32 Tryz.underlying23 rfl I23 rfl ha6 rfl⟩, rfl, trivial⟩, rfl, hc05.t1 hc6 (by omega)⟩
theorem Erase_ok (w : World) (sb fr b r : Nat) (kv : Value) (ds : DSt) (s : SSt) (i : Int) (hs : SlotAt w sb fr b s) (hd : DiskAt w b kv r ds) (hf : ds.Fine) (hf2 : ds.steps + 2 ≤ 1000000000000) (hap : Apart sb fr b r kv) :
    Ret Tryz.prog 50 #[.pointer (some ⟨sb, 0, none⟩), .int .i64 i] w fun v w' => v = .int .i64 (eraseD ds s i).2.2 ∧ DiskAt w' b kv r (eraseD ds s i).1 ∧ SlotAt w' sb fr b (eraseD ds s i).2.1 ∧ Chg (sb :: fr :: DF b kv r) w w' := by
  refine enter [4] Tryz.func50 rfl rfl (Nat.le_of_ble_eq_true rfl) ?_
  refine wpE_seq ?_
  refine wpE_region ?_
  refine wpL_value rfl x_assign ?_
  refine wpL_nil (thenE_norm ?_)
  refine wpE_seq ?_
  refine wpE_block ?_
  refine wpE_seq ?_
  refine wpE_region ?_
  refine wpL_value rfl x_move (wpL_value rfl (x_nil rfl) (wpL_value rfl (x_fieldAddr Tryz.underlying100 rfl I4 rfl rfl) ?_))
  refine wpL_value rfl (x_load Tryz.underlying4 rfl rfl (hs.1.c (off := 3) rfl)) ?_
  refine wpL_value rfl x_assign ?_
  refine wpL_nil (thenE_norm ?_)
  refine wpE_cond rfl (fun hdd => ?_) (fun hdd => ?_)
  · skip
    refine wpE_seq ?_
    refine wpE_region ?_
    refine wpL_value rfl x_assign ?_
    refine wpL_nil (thenE_norm ?_)
    refine wpE_ret (blockE_ret (thenE_ret (fin_ret ?_)))
    unfold eraseD; rw [if_pos hdd]
    exact ⟨rfl, hd, hs, Chg.refl' _ _⟩
  · skip
    refine wpE_seq ?_
    refine wpE_region ?_
    refine wpL_value rfl x_move ?_
    refine wpL_call rfl C52 (isSlot_ok i w) ?_
    rintro _ _ ⟨rfl, rfl⟩
    refine wpL_value rfl (x_not rfl) (wpL_value rfl x_assign ?_)
    refine wpL_nil (thenE_norm ?_)
    refine wpE_cond rfl (fun h => ?_) (fun h => ?_)
    · skip
      refine wpE_seq ?_
      refine wpE_region ?_
      refine wpL_value rfl x_assign ?_
      refine wpL_nil (thenE_norm ?_)
      refine wpE_ret (blockE_ret (thenE_ret (fin_ret ?_)))
      have h : isSlot i = false := by simpa using h
      unfold eraseD; rw [if_neg (by rw [hdd]; decide), if_neg (by rw [h]; decide)]
      exact ⟨rfl, hd, hs, Chg.refl' _ _⟩
    · skip
      refine wpE_skip (blockE_norm (thenE_norm ?_))
      refine wpE_seq ?_
      refine wpE_seq ?_
      refine wpE_region ?_
      refine wpL_value rfl x_move (wpL_value rfl x_move ?_)
      have h : isSlot i = true := by simpa using h
      refine wpL_call rfl C55 (writes_ok w sb fr b r kv _ [] ds s i hs hd hf hf2 (Sl.nil w 0) (by decide) hap) ?_
      rintro _ w1 ⟨rfl, hd1, hs1, hc1⟩
      refine wpL_value rfl x_assign ?_
      refine wpL_nil (thenE_norm ?_)
      refine wpE_seq ?_
      refine wpE_region ?_
      refine wpL_value rfl x_move (wpL_value rfl (x_neq rfl rfl) ?_)
      refine wpL_nil (thenE_norm ?_)
      have hc1' : Chg (sb :: fr :: DF b kv r) w w1 := hc1.mono (fun x hx _ => by simp at hx ⊢; rcases hx with h | h <;> simp [h])
      have he : eraseD ds s i = if (wrD ds i []).2 = 0 then ((wrD ds i []).1, { s.died (wrD ds i []).2 with full := mdel i s.full }, 0) else ((wrD ds i []).1, s.died (wrD ds i []).2, (wrD ds i []).2) := by
        unfold eraseD; rw [if_neg (by rw [hdd]; decide), if_pos h]
      rw [he]
      generalize wrD ds i [] = d at *
      refine wpE_cond_d rfl (fun hz => ?_) (fun hz => ?_)
      · skip
        refine wpE_seq ?_
        refine wpE_region ?_
        refine wpL_value rfl x_move (wpL_value rfl x_assign ?_)
        refine wpL_nil (thenE_norm ?_)
        refine wpE_ret (thenE_ret (fin_ret ?_))
        rw [if_neg hz]
        exact ⟨rfl, hd1, hs1, hc1'⟩
      · skip
        refine wpE_skip (thenE_norm ?_)
        refine wpE_seq ?_
        refine wpE_region ?_
        refine wpL_value rfl x_move (wpL_value rfl (x_nil rfl) (wpL_value rfl (x_fieldAddr Tryz.underlying100 rfl I98 rfl rfl) ?_))
        have hz : d.2 = 0 := Decidable.not_not.1 hz
        rw [if_pos hz]
        refine wpL_value rfl (x_load Tryz.underlying98 rfl rfl (hs1.1.c (off := 1) rfl)) ?_
        refine wpL_value rfl x_move ?_
        refine wpL_exv rfl (x_delete (k := i) Tryz.underlying98 (keyOk_int Tryz.underlying3) rfl rfl hs1.2.1) ?_
        rintro w2 ⟨hM2, hc2, hs2⟩
        refine wpL_nil (thenE_norm ?_)
        refine wpE_seq ?_
        refine wpE_region ?_
        refine wpL_value rfl x_assign ?_
        refine wpL_nil (thenE_norm ?_)
        refine wpE_ret (fin_ret ?_)
        rw [vFull_del] at hM2
        refine ⟨rfl, hd1.chg hc2 (fun x hx h => hap.2 (by simp at h; subst h; exact hx)), ⟨hs1.1.nb hc2 hs1.2.2, hM2, hs1.2.2⟩, hc1'.tr (hc2.mono (fun x hx _ => by simp at hx; subst hx; simp))⟩
theorem Put2_ok (w : World) (sb fr b r : Nat) (kv : Value) (ds : DSt) (s : SSt) (i : Int) (kek key : List UInt8) (hk : kek.length = 32) (hy : key.length = 32) (hs : SlotAt w sb fr b s) (hd : DiskAt w b kv r ds) (hf : ds.Fine) (hf2 : ds.steps + 4 ≤ 1000000000000) (hap : Apart sb fr b r kv) :
    Ret Tryz.prog 13 #[.pointer (some ⟨sb, 0, none⟩), .int .i64 i, arrV kek, arrV key] w fun v w' => v = .int .i64 (putD ds s i kek key hy).2.2 ∧ DiskAt w' b kv r (putD ds s i kek key hy).1 ∧ SlotAt w' sb fr b (putD ds s i kek key hy).2.1 ∧ Chg (sb :: fr :: DF b kv r) w w' := by
  refine enter [8] Tryz.func13 rfl rfl (Nat.le_of_ble_eq_true rfl) ?_
  refine wpE_seq ?_
  refine wpE_region ?_
  refine wpL_boxA (l := kek) rfl rfl ?_
  rintro w1 b1 hn1 ha1 hc1 hl1
  refine wpL_boxA (l := key) rfl rfl ?_
  rintro w2 b2 hn2 ha2 hc2 hl2
  refine wpL_value rfl x_assign ?_
  refine wpL_nil (thenE_norm ?_)
  refine wpE_seq ?_
  refine wpE_block ?_
  refine wpE_seq ?_
  refine wpE_region ?_
  refine wpL_value rfl x_move (wpL_value rfl (x_nil rfl) (wpL_value rfl (x_fieldAddr Tryz.underlying100 rfl I4 rfl rfl) ?_))
  have hc02 : Chg [] w w2 := hc1.tr hc2
  have hc02' : Chg (sb :: fr :: DF b kv r) w w2 := hc02.mono (fun x hx _ => by simp at hx)
  have hs2 := hs.chg0 hc02
  have hd2 := hd.chg0 hc02
  refine wpL_value rfl (x_load Tryz.underlying4 rfl rfl (hs2.1.c (off := 3) rfl)) ?_
  refine wpL_value rfl x_assign ?_
  refine wpL_nil (thenE_norm ?_)
  refine wpE_cond rfl (fun hdd => ?_) (fun hdd => ?_)
  · skip
    refine wpE_seq ?_
    refine wpE_region ?_
    refine wpL_value rfl x_assign ?_
    refine wpL_nil (thenE_norm ?_)
    refine wpE_ret (blockE_ret (thenE_ret (fin_ret ?_)))
    unfold putD; rw [if_pos hdd]
    exact ⟨rfl, hd2, hs2, hc02'⟩
  · skip
    refine wpE_seq ?_
    refine wpE_region ?_
    refine wpL_value rfl x_move ?_
    refine wpL_call rfl C52 (isSlot_ok i w2) ?_
    rintro _ _ ⟨rfl, rfl⟩
    refine wpL_value rfl (x_not rfl) (wpL_value rfl x_assign ?_)
    refine wpL_nil (thenE_norm ?_)
    refine wpE_cond rfl (fun h => ?_) (fun h => ?_)
    · skip
      refine wpE_seq ?_
      refine wpE_region ?_
      refine wpL_value rfl x_assign ?_
      refine wpL_nil (thenE_norm ?_)
      refine wpE_ret (blockE_ret (thenE_ret (fin_ret ?_)))
      have h : isSlot i = false := by simpa using h
      unfold putD; rw [if_neg (by rw [hdd]; decide), if_neg (by rw [h]; decide)]
      exact ⟨rfl, hd2, hs2, hc02'⟩
    · skip
      refine wpE_skip (blockE_norm (thenE_norm ?_))
      refine wpE_seq ?_
      refine wpE_seq ?_
      refine wpE_region ?_
      refine wpL_value rfl x_move (wpL_value rfl x_move (wpL_value rfl (x_nil rfl) (wpL_value rfl (x_fieldAddr Tryz.underlying100 rfl I35 rfl rfl) ?_)))
      have h : isSlot i = true := by simpa using h
      refine wpL_value rfl (x_load Tryz.underlying35 rfl rfl (hs2.1.c (off := 2) rfl)) ?_
      refine wpL_value rfl (x_add64u (b := 1) rfl rfl) ?_
      refine wpL_call rfl C53 (counts_ok w2 sb fr b r kv ds s (s.puts + 1) hs2 hd2 hf (by omega) hap) ?_
      rintro _ w3 ⟨rfl, hd3, hs3, hc3⟩
      refine wpL_value rfl x_assign ?_
      refine wpL_nil (thenE_norm ?_)
      refine wpE_seq ?_
      refine wpE_region ?_
      refine wpL_value rfl x_move (wpL_value rfl (x_neq rfl rfl) ?_)
      refine wpL_nil (thenE_norm ?_)
      have hf3 : (cntD ds (s.puts + 1)).1.Fine := wrD_fine hf (by omega) _ _
      have hst3 : (cntD ds (s.puts + 1)).1.steps ≤ ds.steps + 2 := wrD_steps _ _ _
      have hc03 : Chg (sb :: fr :: DF b kv r) w w3 := hc02'.trans hc3 (fun _ h _ => h) (fun x hx _ => by simp at hx ⊢; rcases hx with h | h <;> simp [h])
      have hsl := hs.1.lt
      have hdl := hd.lt
      have hA : ∀ x : Nat, w.heap.size ≤ x → x ∉ sb :: DF b kv r := fun x hx h => by
        rcases List.mem_cons.1 h with h | h
        · omega
        · have := hdl x h; omega
      have hk3 : Arr w3 b1 kek := (ha1.chg0 hc2).chg hc3 (hA b1 hn1)
      have hy3 : Arr w3 b2 key := ha2.chg hc3 (hA b2 (by omega))
      have hpd : putD ds s i kek key hy = if (cntD ds (s.puts + 1)).2 = 0 then
        (if (wrD (cntD ds (s.puts + 1)).1 i (framedL (s.puts + 1).toNat (wrapL kek i.toNat (s.puts + 1).toNat key))).2 = 0 then
          ((wrD (cntD ds (s.puts + 1)).1 i (framedL (s.puts + 1).toNat (wrapL kek i.toNat (s.puts + 1).toNat key))).1, { ({ s.died (cntD ds (s.puts + 1)).2 with puts := s.puts + 1 } : SSt).died (wrD (cntD ds (s.puts + 1)).1 i (framedL (s.puts + 1).toNat (wrapL kek i.toNat (s.puts + 1).toNat key))).2 with full := msetL i ⟨⟨wrapL kek i.toNat (s.puts + 1).toNat key, wrapL_length _ _ _ _ hy⟩, s.puts + 1⟩ s.full }, 0)
        else ((wrD (cntD ds (s.puts + 1)).1 i (framedL (s.puts + 1).toNat (wrapL kek i.toNat (s.puts + 1).toNat key))).1, ({ s.died (cntD ds (s.puts + 1)).2 with puts := s.puts + 1 } : SSt).died (wrD (cntD ds (s.puts + 1)).1 i (framedL (s.puts + 1).toNat (wrapL kek i.toNat (s.puts + 1).toNat key))).2, (wrD (cntD ds (s.puts + 1)).1 i (framedL (s.puts + 1).toNat (wrapL kek i.toNat (s.puts + 1).toNat key))).2))
      else ((cntD ds (s.puts + 1)).1, s.died (cntD ds (s.puts + 1)).2, (cntD ds (s.puts + 1)).2) := by
        unfold putD; rw [if_neg (by rw [hdd]; decide), if_pos h]; rfl
      rw [hpd]
      generalize cntD ds (s.puts + 1) = c at *
      refine wpE_cond_d rfl (fun hz => ?_) (fun hz => ?_)
      · skip
        refine wpE_seq ?_
        refine wpE_region ?_
        refine wpL_value rfl x_move (wpL_value rfl x_assign ?_)
        refine wpL_nil (thenE_norm ?_)
        refine wpE_ret (thenE_ret (fin_ret ?_))
        rw [if_neg hz]
        exact ⟨rfl, hd3, hs3, hc03⟩
      · skip
        refine wpE_skip (thenE_norm ?_)
        refine wpE_seq ?_
        refine wpE_region ?_
        refine wpL_value rfl x_move (wpL_value rfl (x_nil rfl) (wpL_value rfl (x_fieldAddr Tryz.underlying100 rfl I35 rfl rfl) ?_))
        have hz : c.2 = 0 := Decidable.not_not.1 hz
        rw [if_pos hz]
        refine wpL_value rfl (x_load Tryz.underlying35 rfl rfl (hs3.1.c (off := 2) rfl)) ?_
        refine wpL_value rfl (x_add64u (b := 1) rfl rfl) (wpL_value rfl (x_nil rfl) (wpL_value rfl (x_fieldAddr Tryz.underlying100 rfl I35 rfl rfl) ?_))
        refine wpL_exs rfl (x_storeB1 I35 rfl rfl (hs3.1) rfl rfl (show 2 < _ by simp) rfl (rfl)) ?_
        rintro w4 ⟨hB4, hc4, hs4⟩
        refine wpL_nil (thenE_norm ?_)
        refine wpE_seq ?_
        have hne := hs.2.2
        have hs4' : SlotAt w4 sb fr b { s.died c.2 with puts := s.puts + 1 } := ⟨hB4, hs3.2.1.mod hc4 (by simpa using Ne.symm hne), hne⟩
        have hd4 := hd3.chg hc4 (fun x hx h => hap.1 (by simp at h; subst h; exact hx))
        have hk4 := hk3.chg hc4 (fun h => hA b1 hn1 (by simp at h; simp [h]))
        have hy4 := hy3.chg hc4 (fun h => hA b2 (by omega) (by simp at h; simp [h]))
        have hc04 : Chg (sb :: fr :: DF b kv r) w w4 := hc03.tr (hc4.mono (fun x hx _ => by simp at hx; subst hx; simp))
        have hob10 := slotNo h
        obtain ⟨hno, hi0, hi1⟩ := hob10
        have hwl := wrapL_length kek i.toNat (s.puts + 1).toNat key hy
        generalize hx : (⟨⟨wrapL kek i.toNat (s.puts + 1).toNat key, wrapL_length _ _ _ _ hy⟩, s.puts + 1⟩ : Slt) = x
        have hxw : x.w.1 = wrapL kek i.toNat (s.puts + 1).toNat key := by rw [← hx]
        have hxg : x.gen = s.puts + 1 := by rw [← hx]
        have hvx : Value.agg (sltC x).toArray = vSlt x := rfl
        refine wpE_draw mixed (.read 0 (.pure 1 (.pure 2 (.pure 3 (.pure 4 (.pure 5 (.read 6 (.read 7 (.pure 9 (.pure 10 (.pure 11 (.read 12 (.alt (.eff 8 [12] (.pure 13 (.eff 14 [0, 6, 7, 12] (.eff 15 [] .nil)))) (.eff 14 [0, 6, 7, 12] (.eff 8 [12] (.pure 13 (.eff 15 [] .nil))))))))))))))))) (by kernel_rfl) ?_
        refine wpP_rdA 32 rfl rfl rfl Tryz.underlying23 rfl I23 rfl rfl (hk4) (by first | assumption | rfl | (simp <;> omega)) ?_
        refine wpP_pure rfl rfl rfl (fun _ => x_move) ?_
        refine wpP_pure rfl rfl rfl (fun _ => (x_conv32u rfl Tryz.underlying3 Tryz.underlying34)) ?_
        refine wpP_pure rfl rfl rfl (fun _ => x_move) ?_
        refine wpP_pure rfl rfl rfl (fun _ => (x_nil rfl)) ?_
        refine wpP_pure rfl rfl rfl (fun _ => (x_fieldAddr Tryz.underlying100 rfl I35 rfl rfl)) ?_
        refine wpP_rd rfl rfl rfl Tryz.underlying35 rfl rfl (hB4.c (off := 2) rfl) ?_
        refine wpP_rdA 32 rfl rfl rfl Tryz.underlying23 rfl I23 rfl rfl (hy4) (by first | assumption | rfl | (simp <;> omega)) ?_
        refine wpP_pure rfl rfl rfl (fun _ => x_move) ?_
        refine wpP_pure rfl rfl rfl (fun _ => (x_nil rfl)) ?_
        refine wpP_pure rfl rfl rfl (fun _ => (x_fieldAddr Tryz.underlying100 rfl I35 rfl rfl)) ?_
        refine wpP_rd rfl rfl rfl Tryz.underlying35 rfl rfl (hB4.c (off := 2) rfl) ?_
        refine wpP_alt ?_ ?_
        · skip
          refine wpP_call rfl rfl rfl C54 (Wrap_ok kek key (toU32 i) i.toNat hno (s.puts + 1) _ hk hy) ?_
          rintro _ w5 ⟨rfl, hc5⟩
          have hc5 : Chg [] w4 w5 := hc5
          refine ⟨⟨(hB4.chg0 hc5).c (off := 2) rfl, trivial⟩, ?_⟩
          refine wpP_pure rfl rfl rfl (fun _ => x_buildL Tryz.underlying105 I105 rfl (zs := sltC slt0) rfl rfl (fillSlt' x _ rfl rfl (congrArg arrV hxw.symm) (congrArg (fun z : UInt64 => Value.int .u64 z.toNat) hxg.symm))) ?_
          refine wpP_exw rfl rfl rfl (x_allocB (l := sltC slt0) I105 rfl rfl) ?_
          rintro _ w5' ⟨b5, rfl, hn5, hB5, hc5', hl5⟩
          refine ⟨⟨(hk4.chg0 hc5).chg0 hc5', (hB4.chg0 (hc5.tr hc5')).c (off := 2) rfl, (hy4.chg0 hc5).chg0 hc5', (hB4.chg0 (hc5.tr hc5')).c (off := 2) rfl, trivial⟩, ?_⟩
          refine wpP_exs rfl rfl rfl (x_storeSlt x I105 rfl hB5 rfl rfl) ?_
          rintro w6 ⟨hB6, hc6, hs6⟩
          refine ⟨trivial, ?_⟩
          refine wpP_nil (thenE_norm ?_)
          refine wpE_seq ?_
          refine wpE_seq ?_
          refine wpE_region ?_
          refine wpL_value rfl x_move (wpL_value rfl x_move (wpL_value rfl (x_fieldAddr Tryz.underlying105 rfl I35 rfl rfl) ?_))
          have hc46 : Chg [] w4 w6 := (hc5.tr hc5').t1 hc6 (Nat.le_trans hc5.1 hn5)
          have hb5 : w4.heap.size ≤ b5 := Nat.le_trans hc5.1 hn5
          have hc06 : Chg (sb :: fr :: DF b kv r) w w6 := hc04.tr0 hc46
          refine wpL_value rfl (x_load Tryz.underlying35 rfl rfl (hB6.c (slt_48 x))) ?_
          refine wpL_value rfl (x_fieldAddr Tryz.underlying105 rfl I103 rfl rfl) ?_
          refine wpL_value rfl (x_loadAt 48 Tryz.underlying103 rfl I103 rfl (hB6.at front_at) (x.w.2) rfl) ?_
          refine wpL_call rfl C56 (framed_ok x.gen x.w w6) ?_
          rintro v7 w7 ⟨ho7, hc7, hi7⟩
          have hc47 := hc46.tr hc7
          refine wpL_call rfl C55 (writes_ok w7 sb fr b r kv v7 _ c.1 _ i (hs4'.chg0 hc47) (hd4.chg0 hc47) hf3 (by omega) ho7.sl (by rw [framedL_length, x.w.2]; decide) hap) ?_
          rintro _ w8 ⟨rfl, hd8, hs8, hc8⟩
          refine wpL_value rfl x_assign ?_
          refine wpL_nil (thenE_norm ?_)
          refine wpE_seq ?_
          refine wpE_region ?_
          refine wpL_value rfl x_move (wpL_value rfl (x_neq rfl rfl) ?_)
          refine wpL_nil (thenE_norm ?_)
          rw [hxg, hxw] at hd8 hs8
          have hc08 : Chg (sb :: fr :: DF b kv r) w w8 := (hc04.tr0 hc47).trans hc8 (fun _ h _ => h) (fun x hx _ => by simp at hx ⊢; rcases hx with h | h <;> simp [h])
          have hes : framedL x.gen.toNat x.w.1 = framedL (s.puts + 1).toNat (wrapL kek i.toNat (s.puts + 1).toNat key) := by rw [hxg, hxw]
          have hB8 : Blk w8 b5 (sltC x) := (hB6.chg0 hc7).chg hc8 (hA b5 (Nat.le_trans hc04.1 hb5))
          refine wpE_cond_d rfl (fun hz2 => ?_) (fun hz2 => ?_)
          · skip
            refine wpE_seq ?_
            refine wpE_region ?_
            refine wpL_value rfl x_move (wpL_value rfl x_assign ?_)
            refine wpL_nil (thenE_norm ?_)
            refine wpE_ret (thenE_ret (fin_ret ?_))
            rw [hes] at hz2 ⊢
            rw [if_neg hz2]
            exact ⟨rfl, hd8, hs8, hc08⟩
          · skip
            refine wpE_skip (thenE_norm ?_)
            refine wpE_seq ?_
            rw [hes] at hz2
            rw [if_pos (Decidable.not_not.1 hz2)]
            obtain ⟨hB8', hM8, _⟩ := id hs8
            refine wpE_draw mixed (.pure 0 (.pure 1 (.pure 2 (.read 3 (.pure 4 (.read 5 (.eff 6 [] .nil))))))) (by kernel_rfl) ?_
            refine wpP_pure rfl rfl rfl (fun _ => x_move) ?_
            refine wpP_pure rfl rfl rfl (fun _ => (x_nil rfl)) ?_
            refine wpP_pure rfl rfl rfl (fun _ => (x_fieldAddr Tryz.underlying100 rfl I98 rfl rfl)) ?_
            refine wpP_rd rfl rfl rfl Tryz.underlying98 rfl rfl (hB8'.c (off := 1) rfl) ?_
            refine wpP_pure rfl rfl rfl (fun _ => x_move) ?_
            refine wpP_read rfl rfl rfl (fun w' => Blk w' b5 (sltC x)) (hB8) (fun w1 h1 => x_loadSlt x Tryz.underlying105 rfl I105 rfl rfl h1) ?_
            refine wpP_exs rfl rfl rfl (x_mapUpdate (k := i) (v := vSlt x) Tryz.underlying98 (keyOk_int Tryz.underlying3) rfl rfl rfl hM8) ?_
            rintro w9 ⟨hM9, hc9, hs9⟩
            refine ⟨trivial, ?_⟩
            refine wpP_nil (thenE_norm ?_)
            refine wpE_seq ?_
            refine wpE_region ?_
            refine wpL_value rfl x_assign ?_
            refine wpL_nil (thenE_norm ?_)
            refine wpE_ret (fin_ret ?_)
            have hc9 : Chg [fr] w8 w9 := hc9
            rw [vFull_set] at hM9
            refine ⟨rfl, hd8.chg hc9 (fun x hx h => hap.2 (by simp at h; subst h; exact hx)), ⟨hB8'.nb hc9 hne, hM9, hne⟩, hc08.tr (hc9.mono (fun x hx _ => by simp at hx; subst hx; simp))⟩
        · skip
          refine wpP_exw rfl rfl rfl (x_allocB (l := sltC slt0) I105 rfl rfl) ?_
          rintro _ w5 ⟨b5, rfl, hn5, hB5, hc5, hl5⟩
          have hc5 : Chg [] w4 w5 := hc5
          have hn5 : w4.heap.size ≤ b5 := hn5
          refine ⟨⟨hk4.chg0 hc5, (hB4.chg0 hc5).c (off := 2) rfl, hy4.chg0 hc5, (hB4.chg0 hc5).c (off := 2) rfl, trivial⟩, ?_⟩
          refine wpP_call rfl rfl rfl C54 (Wrap_ok kek key (toU32 i) i.toNat hno (s.puts + 1) _ hk hy) ?_
          rintro _ w5' ⟨rfl, hc5'⟩
          refine ⟨⟨(hB4.chg0 (hc5.tr hc5')).c (off := 2) rfl, trivial⟩, ?_⟩
          refine wpP_pure rfl rfl rfl (fun _ => x_buildL Tryz.underlying105 I105 rfl (zs := sltC slt0) rfl rfl (fillSlt' x _ rfl rfl (congrArg arrV hxw.symm) (congrArg (fun z : UInt64 => Value.int .u64 z.toNat) hxg.symm))) ?_
          refine wpP_exs rfl rfl rfl (x_storeSlt x I105 rfl (hB5.chg0 hc5') rfl rfl) ?_
          rintro w6 ⟨hB6, hc6, hs6⟩
          refine ⟨trivial, ?_⟩
          refine wpP_nil (thenE_norm ?_)
          refine wpE_seq ?_
          refine wpE_seq ?_
          refine wpE_region ?_
          refine wpL_value rfl x_move (wpL_value rfl x_move (wpL_value rfl (x_fieldAddr Tryz.underlying105 rfl I35 rfl rfl) ?_))
          have hc46 : Chg [] w4 w6 := (hc5.tr hc5').t1 hc6 hn5
          have hb5 : w4.heap.size ≤ b5 := hn5
          have hc06 : Chg (sb :: fr :: DF b kv r) w w6 := hc04.tr0 hc46
          refine wpL_value rfl (x_load Tryz.underlying35 rfl rfl (hB6.c (slt_48 x))) ?_
          refine wpL_value rfl (x_fieldAddr Tryz.underlying105 rfl I103 rfl rfl) ?_
          refine wpL_value rfl (x_loadAt 48 Tryz.underlying103 rfl I103 rfl (hB6.at front_at) (x.w.2) rfl) ?_
          refine wpL_call rfl C56 (framed_ok x.gen x.w w6) ?_
          rintro v7 w7 ⟨ho7, hc7, hi7⟩
          have hc47 := hc46.tr hc7
          refine wpL_call rfl C55 (writes_ok w7 sb fr b r kv v7 _ c.1 _ i (hs4'.chg0 hc47) (hd4.chg0 hc47) hf3 (by omega) ho7.sl (by rw [framedL_length, x.w.2]; decide) hap) ?_
          rintro _ w8 ⟨rfl, hd8, hs8, hc8⟩
          refine wpL_value rfl x_assign ?_
          refine wpL_nil (thenE_norm ?_)
          refine wpE_seq ?_
          refine wpE_region ?_
          refine wpL_value rfl x_move (wpL_value rfl (x_neq rfl rfl) ?_)
          refine wpL_nil (thenE_norm ?_)
          rw [hxg, hxw] at hd8 hs8
          have hc08 : Chg (sb :: fr :: DF b kv r) w w8 := (hc04.tr0 hc47).trans hc8 (fun _ h _ => h) (fun x hx _ => by simp at hx ⊢; rcases hx with h | h <;> simp [h])
          have hes : framedL x.gen.toNat x.w.1 = framedL (s.puts + 1).toNat (wrapL kek i.toNat (s.puts + 1).toNat key) := by rw [hxg, hxw]
          have hB8 : Blk w8 b5 (sltC x) := (hB6.chg0 hc7).chg hc8 (hA b5 (Nat.le_trans hc04.1 hb5))
          refine wpE_cond_d rfl (fun hz2 => ?_) (fun hz2 => ?_)
          · skip
            refine wpE_seq ?_
            refine wpE_region ?_
            refine wpL_value rfl x_move (wpL_value rfl x_assign ?_)
            refine wpL_nil (thenE_norm ?_)
            refine wpE_ret (thenE_ret (fin_ret ?_))
            rw [hes] at hz2 ⊢
            rw [if_neg hz2]
            exact ⟨rfl, hd8, hs8, hc08⟩
          · skip
            refine wpE_skip (thenE_norm ?_)
            refine wpE_seq ?_
            rw [hes] at hz2
            rw [if_pos (Decidable.not_not.1 hz2)]
            obtain ⟨hB8', hM8, _⟩ := id hs8
            refine wpE_draw mixed (.pure 0 (.pure 1 (.pure 2 (.read 3 (.pure 4 (.read 5 (.eff 6 [] .nil))))))) (by kernel_rfl) ?_
            refine wpP_pure rfl rfl rfl (fun _ => x_move) ?_
            refine wpP_pure rfl rfl rfl (fun _ => (x_nil rfl)) ?_
            refine wpP_pure rfl rfl rfl (fun _ => (x_fieldAddr Tryz.underlying100 rfl I98 rfl rfl)) ?_
            refine wpP_rd rfl rfl rfl Tryz.underlying98 rfl rfl (hB8'.c (off := 1) rfl) ?_
            refine wpP_pure rfl rfl rfl (fun _ => x_move) ?_
            refine wpP_read rfl rfl rfl (fun w' => Blk w' b5 (sltC x)) (hB8) (fun w1 h1 => x_loadSlt x Tryz.underlying105 rfl I105 rfl rfl h1) ?_
            refine wpP_exs rfl rfl rfl (x_mapUpdate (k := i) (v := vSlt x) Tryz.underlying98 (keyOk_int Tryz.underlying3) rfl rfl rfl hM8) ?_
            rintro w9 ⟨hM9, hc9, hs9⟩
            refine ⟨trivial, ?_⟩
            refine wpP_nil (thenE_norm ?_)
            refine wpE_seq ?_
            refine wpE_region ?_
            refine wpL_value rfl x_assign ?_
            refine wpL_nil (thenE_norm ?_)
            refine wpE_ret (fin_ret ?_)
            have hc9 : Chg [fr] w8 w9 := hc9
            rw [vFull_set] at hM9
            refine ⟨rfl, hd8.chg hc9 (fun x hx h => hap.2 (by simp at h; subst h; exact hx)), ⟨hB8'.nb hc9 hne, hM9, hne⟩, hc08.tr (hc9.mono (fun x hx _ => by simp at hx; subst hx; simp))⟩
end Go.Proofs.YtenhmbhflgnhlaaGreat
