/- A wrapped key stands on the disk as it is said to, is told by its key, and by another one as the document's unwrapping tells. It holds for every input; there are no conditions. -/
import Derived.Test.YtenhmbhflgnhlaaGreatQLaw12
import Derived.Test.YtenhmbhflgnhlaaGreatQRef7
import Derived.Test.YtenhmbhflgnhlaaGreatSac1
namespace Go.Proofs.YtenhmbhflgnhlaaGreat
open Go Go.Sac
set_option maxRecDepth 100000
set_option maxHeartbeats 4000000
theorem find_ok (w : World) (iv mv : Value) (l m : List UInt8) (t : Nat) (hi : Sl w iv l) (hm : Sl w mv m) (hl : l.length ≤ 1000000) (ht : t + m.length ≤ l.length) (hat : (l.drop t).take m.length = m) :
    Ret Tryz.prog 17 #[iv, mv] w fun v w' => (∃ j : Int, 0 ≤ j ∧ v = .int .i64 j) ∧ Chg [] w w' := by
  obtain ⟨pi, ci, rfl⟩ := hi.form rfl
  obtain ⟨pm, cm, rfl⟩ := hm.form rfl
  refine enter [4] Tryz.func17 rfl rfl (Nat.le_of_ble_eq_true rfl) ?_
  refine wpE_seq ?_
  refine wpE_region ?_
  refine wpL_value rfl x_assign ?_
  refine wpL_nil (thenE_norm ?_)
  refine wpE_seq ?_
  refine wpE_seq ?_
  refine wpE_region ?_
  refine wpL_value rfl x_assign ?_
  refine wpL_nil (thenE_norm ?_)
  refine wpE_block ?_
  refine wpE_loopF [0, 1, 5] (fun n vs w' => ∃ i : Nat, vs = [.slice pi l.length ci, .slice pm m.length cm, .int .i64 i] ∧ i + n = t + 1 ∧ i ≤ t ∧ Chg [] w w') (t + 1) ?_ ?_
  · exact ⟨0, rfl, by omega, by omega, Chg.refl _⟩
  · rintro n vs J w2 ⟨i, rfl, hin, hit, hc2⟩
    refine wpE_seq ?_
    refine wpE_seq ?_
    refine wpE_region ?_
    refine wpL_value rfl x_move (wpL_value rfl x_move (wpL_value rfl (x_len_slice rfl Tryz.underlying41) (wpL_value rfl (x_add64 rfl rfl (by omega)) (wpL_value rfl x_move (wpL_value rfl (x_len_slice rfl Tryz.underlying41) (wpL_value rfl (x_leq rfl rfl) ?_))))))
    refine wpL_nil (thenE_norm ?_)
    have hob1 : ∃ q, n = q + 1 := ⟨n - 1, by omega⟩
    obtain ⟨n, rfl⟩ := hob1
    have hi2 := hi.mod0 hc2
    have hm2 := hm.mod0 hc2
    refine wpE_cond_dt rfl (by omega) ?_
    refine wpE_skip (thenE_norm ?_)
    refine wpE_seq ?_
    refine wpE_block ?_
    refine wpE_seq ?_
    refine wpE_draw mixed (.pure 0 (.pure 1 (.pure 2 (.pure 3 (.pure 4 (.pure 5 (.pure 6 (.read 7 (.pure 8 (.read 9 (.pure 10 .nil))))))))))) (by kernel_rfl) ?_
    refine wpP_pure rfl rfl rfl (fun _ => x_move) ?_
    refine wpP_pure rfl rfl rfl (fun _ => x_move) ?_
    refine wpP_pure rfl rfl rfl (fun _ => x_move) ?_
    refine wpP_pure rfl rfl rfl (fun _ => x_move) ?_
    refine wpP_pure rfl rfl rfl (fun _ => (x_len_slice rfl Tryz.underlying41)) ?_
    refine wpP_pure rfl rfl rfl (fun _ => (x_add64 rfl rfl (by omega))) ?_
    refine wpP_ex rfl rfl rfl (x_fromto i (i + m.length) Tryz.underlying41 I5 rfl hi2 rfl rfl rfl rfl (by omega) (by omega)) ?_
    rintro _ ⟨⟨p3, c3, rfl⟩, hs3, hbl3⟩
    refine wpP_read rfl rfl rfl (fun w' => Sl w' (.slice p3 (i + m.length - i) c3) ((l.drop i).take (i + m.length - i))) (hs3) (fun w1 h1 => x_b2s Tryz.underlying41 Tryz.underlying5 Tryz.underlying9 h1 rfl) ?_
    refine wpP_pure rfl rfl rfl (fun _ => x_move) ?_
    refine wpP_read rfl rfl rfl (fun w' => Sl w' (.slice pm m.length cm) m) (hm2) (fun w1 h1 => x_b2s Tryz.underlying41 Tryz.underlying5 Tryz.underlying9 h1 rfl) ?_
    refine wpP_pure rfl rfl rfl (fun _ => (x_eqS rfl rfl)) ?_
    refine wpP_nil (thenE_norm ?_)
    refine wpE_cond_d rfl (fun heq => ?_) (fun heq => ?_)
    · skip
      refine wpE_seq ?_
      refine wpE_region ?_
      refine wpL_value rfl x_move (wpL_value rfl x_assign ?_)
      refine wpL_nil (thenE_norm ?_)
      refine wpE_ret (blockE_ret (thenE_ret (thenE_ret (blockE_ret (thenE_ret (fin_ret ?_))))))
      exact ⟨⟨(i : Int), by omega, rfl⟩, hc2.tr (rdrw w2)⟩
    · skip
      refine wpE_skip (blockE_norm (thenE_norm ?_))
      refine wpE_region ?_
      refine wpL_value rfl x_move (wpL_value rfl (x_add64 rfl rfl (by omega)) (wpL_value rfl x_assign ?_))
      refine wpL_nil (thenE_norm ?_)
      have hne : i ≠ t := fun h => heq (by rw [h, show t + m.length - t = m.length by omega]; exact hat)
      refine Exists.intro (n) (And.intro (by omega) ?_)
      exact ⟨i + 1, vs_cons rfl (vs_cons rfl (vs_cons (int_eq (by omega)) vs_nil)), by omega, by omega, hc2.tr (rdrw w2)⟩
theorem SlotsStand_ok (w : World) (x0 x1 : UInt8) (kek other a : List UInt8) (hk : kek.length = 32) (hot : other.length = 32) (ha : a.length = 32) :
    Ret Tryz.prog 3 #[.int .u8 x0.toNat, .int .u8 x1.toNat, arrV kek, arrV other, arrV a] w fun v w' => v = .bool true ∧ Chg [] w w' := by
  have hm24 : (x0 % 24).toNat < 24 := by rw [UInt8.toNat_mod]; exact Nat.mod_lt _ (by decide)
  have hm5 : (x1 % 5).toNat < 5 := by rw [UInt8.toNat_mod]; exact Nat.mod_lt _ (by decide)
  refine enter [10] Tryz.func3 rfl rfl (Nat.le_of_ble_eq_true rfl) ?_
  refine wpE_seq ?_
  refine wpE_region ?_
  refine wpL_boxA (l := kek) rfl rfl ?_
  rintro wa ba hna haa hca hla
  refine wpL_boxA (l := other) rfl rfl ?_
  rintro wb bb hnb hab hcb hlb
  refine wpL_boxA (l := a) rfl rfl ?_
  rintro wc bc hnc hac hcc hlc
  refine wpL_value rfl x_assign ?_
  refine wpL_nil (thenE_norm ?_)
  refine wpE_seq ?_
  refine wpE_seq ?_
  refine wpE_region ?_
  have hkc : Arr wc ba kek := (haa.chg0 hcb).chg0 hcc
  have hoc : Arr wc bb other := hab.chg0 hcc
  have hcac : Chg [] w wc := (hca.tr hcb).tr hcc
  refine wpL_call rfl C10 (known_ok wc) ?_
  rintro _ w1 ⟨rfl, hc1⟩
  refine wpL_value rfl (x_not rfl) ?_
  refine wpL_nil (thenE_norm ?_)
  refine wpE_cond_f (rfl) ?_
  refine wpE_skip (thenE_norm ?_)
  refine wpE_seq ?_
  refine wpE_region ?_
  refine wpL_call rfl C11 (new_run w1 w1 64 (by decide) (Chg.refl _)) ?_
  rintro _ w2 ⟨b, kv, r, rfl, hd2, hc2, hF2⟩
  refine wpL_value rfl x_assign ?_
  refine wpL_nil (thenE_norm ?_)
  refine wpE_seq ?_
  refine wpE_region ?_
  refine wpL_value rfl x_move ?_
  refine wpL_call rfl C12 (make_run hd2 (by decide) (by decide)) ?_
  rintro _ w3 ⟨sb, fr, rfl, hS3, hc3, hsb, hfr⟩
  refine wpL_value rfl x_move (wpL_value rfl (x_extract rfl rfl) (wpL_value rfl (x_extract rfl rfl) (wpL_value rfl x_assign (wpL_value rfl x_assign ?_))))
  refine wpL_nil (thenE_norm ?_)
  refine wpE_seq ?_
  refine wpE_seq ?_
  refine wpE_region ?_
  refine wpL_value rfl x_move (wpL_value rfl (x_neq rfl rfl) ?_)
  refine wpL_nil (thenE_norm ?_)
  refine wpE_cond_df rfl (fun h => h rfl) ?_
  refine wpE_skip (thenE_norm ?_)
  refine wpE_seq ?_
  refine wpE_region ?_
  refine wpL_value rfl x_move (wpL_value rfl (x_rem8u (b := 24) rfl rfl (by decide)) (wpL_value rfl (x_convI rfl Tryz.underlying5 Tryz.underlying3 (by omega)) (wpL_value rfl x_move (wpL_value rfl (x_rem8u (b := 5) rfl rfl (by decide)) (wpL_value rfl (x_convI rfl Tryz.underlying5 Tryz.underlying3 (by omega)) (wpL_value rfl x_assign (wpL_value rfl x_assign ?_)))))))
  refine wpL_nil (thenE_norm ?_)
  refine wpE_seq ?_
  refine wpE_seq ?_
  refine wpE_region ?_
  refine wpL_value rfl x_assign ?_
  refine wpL_nil (thenE_norm ?_)
  refine wpE_block ?_
  generalize hat : (x0 % 24).toNat = at_ at *
  generalize hnn : (x1 % 5).toNat = nn at *
  have hbig : ∀ {w' : World} {kb : Nat} {C : Cont} {ds : DSt} {s : SSt}, Sess w1 w' b kv r sb fr 64 kb C ds s → Arr w' ba kek ∧ Arr w' bb other ∧ Arr w' bc a := fun h => ⟨(hkc.chg0 hc1).chg0 h.now, (hoc.chg0 hc1).chg0 h.now, (hac.chg0 hc1).chg0 h.now⟩
  refine wpE_loopF [7, 8, 9, 11, 12, 14, 15, 16] (fun q vs w' => ∃ (i : Nat) (C : Cont) (ds : DSt) (s : SSt), vs = [.pointer (some ⟨ba, 0, none⟩), .pointer (some ⟨bb, 0, none⟩), .pointer (some ⟨bc, 0, none⟩), .pointer (some ⟨b, 0, none⟩), .pointer (some ⟨sb, 0, none⟩), .int .i64 at_, .int .i64 nn, .int .i64 i] ∧ i + q = nn ∧ Sess w1 w' b kv r sb fr 64 (i + 1) C ds s ∧ s.puts.toNat = i) (nn) ?_ ?_
  · exact ⟨0, _, _, _, rfl, by omega, hS3, rfl⟩
  · rintro q vs J w4 ⟨i, C4, ds4, s4, rfl, hi, hS4, hp4⟩
    refine wpE_seq ?_
    refine wpE_seq ?_
    refine wpE_region ?_
    refine wpL_value rfl x_move (wpL_value rfl x_move (wpL_value rfl (x_lss rfl rfl) ?_))
    refine wpL_nil (thenE_norm ?_)
    have hob2 := hbig hS4
    obtain ⟨hk4, ho4, ha4⟩ := hob2
    refine wpE_cond_d rfl (fun hlt => ?_) (fun hlt => ?_)
    · skip
      refine wpE_skip (thenE_norm ?_)
      refine wpE_seq ?_
      refine wpE_block ?_
      refine wpE_seq ?_
      refine wpE_region ?_
      refine wpL_value rfl x_move (wpL_value rfl x_move (wpL_value rfl (x_add64 rfl rfl (by omega)) (wpL_value rfl (x_rem64 rfl rfl (by omega)) ?_)))
      have hob3 : ∃ z, q = z + 1 := ⟨q - 1, by omega⟩
      obtain ⟨q, rfl⟩ := hob3
      have hmod : ((at_ : Int) + 1) % 24 = (((at_ + 1) % 24 : Nat) : Int) := by omega
      have hput := put_run hS4 (by omega) ((at_ + 1) % 24) (Nat.mod_lt _ (by decide)) kek other hk hot
      rw [← hmod] at hput
      have hz := (hS4.2.2.put (by omega) (i := (at_ + 1) % 24) (Nat.mod_lt _ (by decide)) (kek := kek) hot).1
      have hob4 := put_gen hz
      obtain ⟨hg1, hg2⟩ := hob4
      refine wpL_value rfl (x_loadN 32 Tryz.underlying23 rfl I23 rfl rfl (hk4) (hk)) ?_
      refine wpL_value rfl (x_loadN 32 Tryz.underlying23 rfl I23 rfl rfl (ho4) (hot)) ?_
      refine wpL_call rfl C13 (hput) ?_
      rintro _ w5 ⟨rfl, hS5, hc5⟩
      refine wpL_value rfl (x_neq rfl rfl) ?_
      refine wpL_nil (thenE_norm ?_)
      refine wpE_cond_df rfl (fun h => h rfl) ?_
      refine wpE_skip (blockE_norm (thenE_norm ?_))
      refine wpE_region ?_
      refine wpL_value rfl x_move (wpL_value rfl (x_add64 rfl rfl (by omega)) (wpL_value rfl x_assign ?_))
      refine wpL_nil (thenE_norm ?_)
      refine Exists.intro (q) (And.intro (by omega) ?_)
      refine ⟨i + 1, _, _, _, rfl, by omega, hS5, ?_⟩
      rw [hmod, hg1, UInt64.toNat_add, hp4]
      exact Nat.mod_eq_of_lt (by show i + 1 < _; omega)
    · skip
      refine wpE_exit (thenE_exit (thenE_exit (blockE_exit (thenE_norm ?_))))
      refine wpE_seq ?_
      refine wpE_seq ?_
      refine wpE_region ?_
      refine wpL_value rfl x_move (wpL_value rfl x_move ?_)
      have hob5 : i = nn := by omega
      obtain rfl := hob5
      have hz := (hS4.2.2.put (by omega) (i := at_) hm24 (kek := kek) ha).1
      have hob6 := put_gen hz
      obtain ⟨hg1, hg2⟩ := hob6
      refine wpL_value rfl (x_loadN 32 Tryz.underlying23 rfl I23 rfl rfl (hk4) (hk)) ?_
      refine wpL_value rfl (x_loadN 32 Tryz.underlying23 rfl I23 rfl rfl (ha4) (ha)) ?_
      refine wpL_call rfl C13 (put_run hS4 (by omega) at_ hm24 kek a hk ha) ?_
      rintro _ w5 ⟨rfl, hS5, hc5⟩
      refine wpL_value rfl (x_neq rfl rfl) ?_
      refine wpL_nil (thenE_norm ?_)
      have hob7 : ∃ d, d = (putD ds4 s4 at_ kek a ha).1 := ⟨_, rfl⟩
      obtain ⟨ds5, hds5⟩ := hob7
      have hob8 : ∃ d, d = (putD ds4 s4 at_ kek a ha).2.1 := ⟨_, rfl⟩
      obtain ⟨s5, hs5⟩ := hob8
      rw [← hds5, ← hs5] at hS5
      rw [← hs5] at hg2
      have hob9 := hbig hS5
      obtain ⟨hk5, ho5, ha5⟩ := hob9
      have hob10 : ∃ gen : UInt64, gen = s4.puts + 1 := ⟨_, rfl⟩
      obtain ⟨gen, hgen⟩ := hob10
      rw [← hgen] at hg2
      have hgn : toU64 (i : Int) + 1 = gen := by
        rw [hgen]
        apply UInt64.toNat_inj.1
        rw [UInt64.toNat_add, UInt64.toNat_add, hp4, toU64_nat, UInt64.toNat_ofNat']
        rw [Nat.mod_eq_of_lt (show i < 2 ^ 64 by omega)]
      have hob11 : ∃ W, W = wrapL kek at_ gen.toNat a := ⟨_, rfl⟩
      obtain ⟨W, hW⟩ := hob11
      have hWl : W.length = 48 := by rw [hW]; exact wrapL_length _ _ _ _ ha
      have hg2' : mget (at_ : Int) s5.full = some ⟨⟨W, hWl⟩, gen⟩ := by
        rw [hg2]; congr 2; exact Subtype.ext hW.symm
      have hu32 : (toU32 (at_ : Int)).toNat = at_ := by rw [toU32_nat, UInt32.toNat_ofNat']; omega
      refine wpE_cond_df rfl (fun h => h rfl) ?_
      refine wpE_skip (thenE_norm ?_)
      refine wpE_seq ?_
      refine wpE_region ?_
      refine wpL_value rfl (x_loadN 32 Tryz.underlying23 rfl I23 rfl rfl (hk5) (hk)) ?_
      refine wpL_value rfl x_move (wpL_value rfl (x_conv32u rfl Tryz.underlying3 Tryz.underlying34) (wpL_value rfl x_move (wpL_value rfl (x_conv64u rfl Tryz.underlying3 Tryz.underlying35) (wpL_value rfl (x_add64u (b := 1) rfl rfl) ?_))))
      refine wpL_value rfl (x_loadN 32 Tryz.underlying23 rfl I23 rfl rfl (ha5) (ha)) ?_
      rw [hgn]
      refine wpL_call rfl C14 (rWrap_ok kek a (toU32 (at_ : Int)) at_ hu32 gen w5 hk ha) ?_
      rintro _ w6 ⟨rfl, hc6⟩
      rw [← hW]
      refine wpL_allocA (List.replicate 48 (0 : UInt8)) I32 rfl rfl rfl ?_
      rintro w7 b17 hn7 ha7 hc7 hl7
      refine wpL_exs rfl (x_storeN 48 I32 rfl (ha7) rfl rfl (rfl) (hWl)) ?_
      rintro w8 ⟨ha8, hc8, hs8⟩
      refine wpL_nil (thenE_norm ?_)
      refine wpE_seq ?_
      refine wpE_region ?_
      refine wpL_value rfl x_move (wpL_value rfl x_move ?_)
      have hc58 : Chg [] w5 w8 := (hc6.tr hc7).t1 hc8 (by have := hc6.1; omega)
      have hS8 := hS5.chg0 hc58
      have hob12 := hbig hS8
      obtain ⟨hk8, ho8, haa8⟩ := hob12
      refine wpL_value rfl (x_loadN 32 Tryz.underlying23 rfl I23 rfl rfl (hk8) (hk)) ?_
      refine wpL_call rfl C15 (get_some hS8 at_ hm24 kek a (by unfold setC; rw [if_pos rfl]) hk) ?_
      rintro _ w9 ⟨rfl, hS9, hc9⟩
      refine wpL_value rfl x_move (wpL_value rfl (x_extract rfl rfl) (wpL_value rfl (x_extract rfl rfl) ?_))
      refine wpL_allocA (List.replicate 32 (0 : UInt8)) I23 rfl rfl rfl ?_
      rintro w10 b18 hn10 ha10 hc10 hl10
      refine wpL_exs rfl (x_storeN 32 I23 rfl (ha10) rfl rfl (rfl) (ha)) ?_
      rintro w11 ⟨ha11, hc11, hs11⟩
      refine wpL_value rfl x_assign ?_
      refine wpL_nil (thenE_norm ?_)
      refine wpE_seq ?_
      refine wpE_region ?_
      refine wpL_value rfl x_move (wpL_value rfl x_move ?_)
      have hc811 : Chg [] w8 w11 := (hc9.tr hc10).t1 hc11 (by have := hc9.1; omega)
      have hS11 := hS8.chg0 hc811
      have hob13 := hbig hS11
      obtain ⟨hk11, ho11, haa11⟩ := hob13
      refine wpL_value rfl (x_loadN 32 Tryz.underlying23 rfl I23 rfl rfl (ho11) (hot)) ?_
      have hge : getS s5 (at_ : Int) other = if fitsL other (nonceL at_ gen.toNat) tWrap W then (crossK other (nonceL at_ gen.toNat) (W.take 32), 0) else (List.replicate 32 0, 50) := by
        unfold getS
        rw [if_pos (by unfold isSlot; simp; omega), hg2']
        rfl
      by_cases hfit : fitsL other (nonceL at_ gen.toNat) tWrap W
      · skip
        have hob14 : ∃ Y, Y = crossK other (nonceL at_ gen.toNat) (W.take 32) := ⟨_, rfl⟩
        obtain ⟨Y, hY⟩ := hob14
        have hYl : Y.length = 32 := by rw [hY, crossK_length, List.length_take]; omega
        rw [if_pos hfit, ← hY] at hge
        have hun : rUnwrapV other at_ gen.toNat W = .tuple #[arrV Y, .bool true] := by unfold rUnwrapV; rw [if_pos hfit, ← hY]
        refine wpL_call rfl C15 (get_run hS11 at_ other hot) ?_
        rintro v12 w12 ⟨hv12, hS12, hc12⟩
        rw [hge] at hv12
        subst hv12
        refine wpL_value rfl x_move (wpL_value rfl (x_extract rfl rfl) (wpL_value rfl (x_extract rfl rfl) ?_))
        refine wpL_allocA (List.replicate 32 (0 : UInt8)) I23 rfl rfl rfl ?_
        rintro w13 b20 hn13 ha13 hc13 hl13
        refine wpL_exs rfl (x_storeN 32 I23 rfl (ha13) rfl rfl (rfl) (hYl)) ?_
        rintro w14 ⟨ha14, hc14, hs14⟩
        refine wpL_value rfl x_assign ?_
        refine wpL_nil (thenE_norm ?_)
        refine wpE_seq ?_
        refine wpE_region ?_
        have hc1114 : Chg [] w11 w14 := (hc12.tr hc13).t1 hc14 (by have := hc12.1; omega)
        have hob15 := hbig (hS11.chg0 hc1114)
        obtain ⟨hk14, ho14, haa14⟩ := hob15
        have hb17' : Arr w14 b17 W := (ha8.chg0 hc811).chg0 hc1114
        refine wpL_value rfl (x_loadN 32 Tryz.underlying23 rfl I23 rfl rfl (ho14) (hot)) ?_
        refine wpL_value rfl x_move (wpL_value rfl (x_conv32u rfl Tryz.underlying3 Tryz.underlying34) (wpL_value rfl x_move (wpL_value rfl (x_conv64u rfl Tryz.underlying3 Tryz.underlying35) (wpL_value rfl (x_add64u (b := 1) rfl rfl) ?_))))
        rw [hgn]
        refine wpL_value rfl (x_loadN 48 Tryz.underlying32 rfl I32 rfl rfl (hb17') (hWl)) ?_
        refine wpL_call rfl C16 (rUnwrap_ok other W (toU32 (at_ : Int)) at_ hu32 gen w14 hot hWl) ?_
        rintro v15 w16 ⟨hv15, hc15⟩
        rw [hun] at hv15
        subst hv15
        refine wpL_value rfl x_move (wpL_value rfl (x_extract rfl rfl) (wpL_value rfl (x_extract rfl rfl) ?_))
        have hc1116 : Chg [] w11 w16 := (((hc12.tr hc13).t1 hc14 (by have := hc12.1; omega)).tr hc15)
        have hS16 := hS11.chg0 hc1116
        refine wpL_allocA (List.replicate 32 (0 : UInt8)) I23 rfl rfl rfl ?_
        rintro w17 b22 hn17 ha17 hc17 hl17
        refine wpL_exs rfl (x_storeN 32 I23 rfl (ha17) rfl rfl (rfl) (hYl)) ?_
        rintro w18 ⟨ha18, hc18, hs18⟩
        refine wpL_value rfl x_assign ?_
        refine wpL_nil (thenE_norm ?_)
        refine wpE_seq ?_
        have hc1618 : Chg [] w16 w18 := hc17.t1 hc18 hn17
        have hS18 := hS16.chg0 hc1618
        have hb17 : Arr w18 b17 W := ((ha8.chg0 hc811).chg0 hc1116).chg0 hc1618
        have hb18 : Arr w18 b18 a := (ha11.chg0 hc1116).chg0 hc1618
        have hb20 : Arr w18 b20 Y := (ha14.chg0 hc15).chg0 hc1618
        have hob16 := hbig hS18
        obtain ⟨hk18, ho18, haa18⟩ := hob16
        refine wpE_draw mixed (.pure 0 (.pure 2 (.eff 1 [] (.eff 3 [] (.pure 4 (.pure 5 (.pure 6 (.pure 7 (.pure 8 (.pure 9 (.read 10 (.read 11 (.pure 12 (.pure 13 (.pure 14 (.pure 15 (.pure 16 (.pure 17 (.pure 18 (.pure 19 (.pure 20 (.pure 21 (.pure 22 (.pure 23 (.pure 24 (.pure 25 (.pure 26 (.pure 27 (.pure 28 (.read 29 (.read 30 (.pure 31 (.pure 32 (.pure 33 .nil)))))))))))))))))))))))))))))))))) (by kernel_rfl) ?_
        refine wpP_pure rfl rfl rfl (fun _ => x_move) ?_
        refine wpP_pure rfl rfl rfl (fun _ => x_arr_full Tryz.underlying32 I5 rfl) ?_
        refine wpP_call rfl rfl rfl C18 (image_run (hS18.chg0 (drw w18))) ?_
        rintro v19 w19 ⟨hoI, hS19, hcI⟩
        refine ⟨trivial, ?_⟩
        have hcI : Chg [] w18 w19 := (drw w18).tr hcI
        refine wpP_call rfl rfl rfl C17 (find_ok w19 v19 _ (imageOf ds5.kept) W (64 * at_ + 8) hoI.sl ((hb17.chg0 hcI).sl (n := 48) (c := 48) hWl (Nat.le_refl _)) (by rw [imageOf_length, hS19.2.2.len]; decide) (by rw [imageOf_length, hS19.2.2.len, hWl]; omega) (by rw [hWl]; exact image_wrap hS19.2.2.inv hm24 hg2')) ?_
        rintro v20 w20 ⟨⟨j, hj, hv20⟩, hcF⟩
        refine ⟨trivial, ?_⟩
        subst hv20
        have hcF2 : Chg [] w18 w20 := hcI.tr hcF
        refine wpP_pure rfl rfl rfl (fun _ => x_to (x_geq rfl rfl) (congrArg Value.bool (decide_eq_true (by omega)))) ?_
        refine wpP_pure rfl rfl rfl (fun _ => x_move) ?_
        refine wpP_pure rfl rfl rfl (fun _ => x_move) ?_
        refine wpP_pure rfl rfl rfl (fun _ => x_to (x_eql rfl rfl) (congrArg Value.bool (decide_eq_true (rfl)))) ?_
        refine wpP_pure rfl rfl rfl (fun _ => (x_pick_t rfl)) ?_
        refine wpP_pure rfl rfl rfl (fun _ => x_move) ?_
        refine wpP_rdA 32 rfl rfl rfl Tryz.underlying23 rfl I23 rfl rfl (hb18.chg0 hcF2) (ha) ?_
        refine wpP_rdA 32 rfl rfl rfl Tryz.underlying23 rfl I23 rfl rfl (haa18.chg0 hcF2) (ha) ?_
        refine wpP_pure rfl rfl rfl (fun _ => x_to (x_eqArr Tryz.underlying23 I5 rfl Tryz.underlying5 (by kernel_rfl) rfl rfl (ha) (ha)) (congrArg Value.bool (decide_eq_true (rfl)))) ?_
        refine wpP_pure rfl rfl rfl (fun _ => (x_pick_t rfl)) ?_
        refine wpP_pure rfl rfl rfl (fun _ => x_move) ?_
        refine wpP_pure rfl rfl rfl (fun _ => x_move) ?_
        refine wpP_pure rfl rfl rfl (fun _ => (x_eql rfl rfl)) ?_
        refine wpP_pure rfl rfl rfl (fun _ => x_move) ?_
        refine wpP_pure rfl rfl rfl (fun _ => x_to (x_eqb rfl rfl Tryz.underlying4) (congrArg Value.bool (decide_eq_true (rfl)))) ?_
        refine wpP_pure rfl rfl rfl (fun _ => (x_pick_t rfl)) ?_
        refine wpP_pure rfl rfl rfl (fun _ => x_move) ?_
        refine wpP_pure rfl rfl rfl (fun _ => x_move) ?_
        refine wpP_pure rfl rfl rfl (fun _ => x_to (x_eql rfl rfl) (congrArg Value.bool (decide_eq_true (rfl)))) ?_
        refine wpP_pure rfl rfl rfl (fun _ => x_move) ?_
        refine wpP_no rfl rfl rfl ?_
        refine wpP_no rfl rfl rfl ?_
        refine wpP_pure rfl rfl rfl (fun _ => (x_pick_t rfl)) ?_
        refine wpP_pure rfl rfl rfl (fun _ => (x_pick_t rfl)) ?_
        refine wpP_pure rfl rfl rfl (fun _ => x_move) ?_
        refine wpP_rdA 32 rfl rfl rfl Tryz.underlying23 rfl I23 rfl rfl (hb20.chg0 hcF2) (hYl) ?_
        refine wpP_rdA 32 rfl rfl rfl Tryz.underlying23 rfl I23 rfl rfl (ha18.chg0 hcF2) (hYl) ?_
        refine wpP_pure rfl rfl rfl (fun _ => x_eqArr Tryz.underlying23 I5 rfl Tryz.underlying5 (by kernel_rfl) rfl rfl (hYl) (hYl)) ?_
        refine wpP_pure rfl rfl rfl (fun _ => (x_pick_t rfl)) ?_
        refine wpP_pure rfl rfl rfl (fun _ => x_assign) ?_
        refine wpP_nil (thenE_norm ?_)
        refine wpE_ret (fin_ret ?_)
        exact ⟨congrArg Value.bool (decide_eq_true rfl), ((hcac.tr hc1).tr (hS18.now.tr hcF2)).tr (Chg.refl _)⟩
      · skip
        have hob17 : ∃ Y, Y = List.replicate 32 (0 : UInt8) := ⟨_, rfl⟩
        obtain ⟨Y, hY⟩ := hob17
        have hYl : Y.length = 32 := by rw [hY]; rfl
        rw [if_neg hfit, ← hY] at hge
        have hun : rUnwrapV other at_ gen.toNat W = .tuple #[arrV Y, .bool false] := by unfold rUnwrapV; rw [if_neg hfit, ← hY]
        refine wpL_call rfl C15 (get_run hS11 at_ other hot) ?_
        rintro v12 w12 ⟨hv12, hS12, hc12⟩
        rw [hge] at hv12
        subst hv12
        refine wpL_value rfl x_move (wpL_value rfl (x_extract rfl rfl) (wpL_value rfl (x_extract rfl rfl) ?_))
        refine wpL_allocA (List.replicate 32 (0 : UInt8)) I23 rfl rfl rfl ?_
        rintro w13 b20 hn13 ha13 hc13 hl13
        refine wpL_exs rfl (x_storeN 32 I23 rfl (ha13) rfl rfl (rfl) (hYl)) ?_
        rintro w14 ⟨ha14, hc14, hs14⟩
        refine wpL_value rfl x_assign ?_
        refine wpL_nil (thenE_norm ?_)
        refine wpE_seq ?_
        refine wpE_region ?_
        have hc1114 : Chg [] w11 w14 := (hc12.tr hc13).t1 hc14 (by have := hc12.1; omega)
        have hob18 := hbig (hS11.chg0 hc1114)
        obtain ⟨hk14, ho14, haa14⟩ := hob18
        have hb17' : Arr w14 b17 W := (ha8.chg0 hc811).chg0 hc1114
        refine wpL_value rfl (x_loadN 32 Tryz.underlying23 rfl I23 rfl rfl (ho14) (hot)) ?_
        refine wpL_value rfl x_move (wpL_value rfl (x_conv32u rfl Tryz.underlying3 Tryz.underlying34) (wpL_value rfl x_move (wpL_value rfl (x_conv64u rfl Tryz.underlying3 Tryz.underlying35) (wpL_value rfl (x_add64u (b := 1) rfl rfl) ?_))))
        rw [hgn]
        refine wpL_value rfl (x_loadN 48 Tryz.underlying32 rfl I32 rfl rfl (hb17') (hWl)) ?_
        refine wpL_call rfl C16 (rUnwrap_ok other W (toU32 (at_ : Int)) at_ hu32 gen w14 hot hWl) ?_
        rintro v15 w16 ⟨hv15, hc15⟩
        rw [hun] at hv15
        subst hv15
        refine wpL_value rfl x_move (wpL_value rfl (x_extract rfl rfl) (wpL_value rfl (x_extract rfl rfl) ?_))
        have hc1116 : Chg [] w11 w16 := (((hc12.tr hc13).t1 hc14 (by have := hc12.1; omega)).tr hc15)
        have hS16 := hS11.chg0 hc1116
        refine wpL_allocA (List.replicate 32 (0 : UInt8)) I23 rfl rfl rfl ?_
        rintro w17 b22 hn17 ha17 hc17 hl17
        refine wpL_exs rfl (x_storeN 32 I23 rfl (ha17) rfl rfl (rfl) (hYl)) ?_
        rintro w18 ⟨ha18, hc18, hs18⟩
        refine wpL_value rfl x_assign ?_
        refine wpL_nil (thenE_norm ?_)
        refine wpE_seq ?_
        have hc1618 : Chg [] w16 w18 := hc17.t1 hc18 hn17
        have hS18 := hS16.chg0 hc1618
        have hb17 : Arr w18 b17 W := ((ha8.chg0 hc811).chg0 hc1116).chg0 hc1618
        have hb18 : Arr w18 b18 a := (ha11.chg0 hc1116).chg0 hc1618
        have hb20 : Arr w18 b20 Y := (ha14.chg0 hc15).chg0 hc1618
        have hob19 := hbig hS18
        obtain ⟨hk18, ho18, haa18⟩ := hob19
        refine wpE_draw mixed (.pure 0 (.pure 2 (.eff 1 [] (.eff 3 [] (.pure 4 (.pure 5 (.pure 6 (.pure 7 (.pure 8 (.pure 9 (.read 10 (.read 11 (.pure 12 (.pure 13 (.pure 14 (.pure 15 (.pure 16 (.pure 17 (.pure 18 (.pure 19 (.pure 20 (.pure 21 (.pure 22 (.pure 23 (.pure 24 (.pure 25 (.pure 26 (.pure 27 (.pure 28 (.read 29 (.read 30 (.pure 31 (.pure 32 (.pure 33 .nil)))))))))))))))))))))))))))))))))) (by kernel_rfl) ?_
        refine wpP_pure rfl rfl rfl (fun _ => x_move) ?_
        refine wpP_pure rfl rfl rfl (fun _ => x_arr_full Tryz.underlying32 I5 rfl) ?_
        refine wpP_call rfl rfl rfl C18 (image_run (hS18.chg0 (drw w18))) ?_
        rintro v19 w19 ⟨hoI, hS19, hcI⟩
        refine ⟨trivial, ?_⟩
        have hcI : Chg [] w18 w19 := (drw w18).tr hcI
        refine wpP_call rfl rfl rfl C17 (find_ok w19 v19 _ (imageOf ds5.kept) W (64 * at_ + 8) hoI.sl ((hb17.chg0 hcI).sl (n := 48) (c := 48) hWl (Nat.le_refl _)) (by rw [imageOf_length, hS19.2.2.len]; decide) (by rw [imageOf_length, hS19.2.2.len, hWl]; omega) (by rw [hWl]; exact image_wrap hS19.2.2.inv hm24 hg2')) ?_
        rintro v20 w20 ⟨⟨j, hj, hv20⟩, hcF⟩
        refine ⟨trivial, ?_⟩
        subst hv20
        have hcF2 : Chg [] w18 w20 := hcI.tr hcF
        refine wpP_pure rfl rfl rfl (fun _ => x_to (x_geq rfl rfl) (congrArg Value.bool (decide_eq_true (by omega)))) ?_
        refine wpP_pure rfl rfl rfl (fun _ => x_move) ?_
        refine wpP_pure rfl rfl rfl (fun _ => x_move) ?_
        refine wpP_pure rfl rfl rfl (fun _ => x_to (x_eql rfl rfl) (congrArg Value.bool (decide_eq_true (rfl)))) ?_
        refine wpP_pure rfl rfl rfl (fun _ => (x_pick_t rfl)) ?_
        refine wpP_pure rfl rfl rfl (fun _ => x_move) ?_
        refine wpP_rdA 32 rfl rfl rfl Tryz.underlying23 rfl I23 rfl rfl (hb18.chg0 hcF2) (ha) ?_
        refine wpP_rdA 32 rfl rfl rfl Tryz.underlying23 rfl I23 rfl rfl (haa18.chg0 hcF2) (ha) ?_
        refine wpP_pure rfl rfl rfl (fun _ => x_to (x_eqArr Tryz.underlying23 I5 rfl Tryz.underlying5 (by kernel_rfl) rfl rfl (ha) (ha)) (congrArg Value.bool (decide_eq_true (rfl)))) ?_
        refine wpP_pure rfl rfl rfl (fun _ => (x_pick_t rfl)) ?_
        refine wpP_pure rfl rfl rfl (fun _ => x_move) ?_
        refine wpP_pure rfl rfl rfl (fun _ => x_move) ?_
        refine wpP_pure rfl rfl rfl (fun _ => (x_eql rfl rfl)) ?_
        refine wpP_pure rfl rfl rfl (fun _ => x_move) ?_
        refine wpP_pure rfl rfl rfl (fun _ => x_to (x_eqb rfl rfl Tryz.underlying4) (congrArg Value.bool (decide_eq_true (rfl)))) ?_
        refine wpP_pure rfl rfl rfl (fun _ => (x_pick_t rfl)) ?_
        refine wpP_pure rfl rfl rfl (fun _ => x_move) ?_
        refine wpP_pure rfl rfl rfl (fun _ => x_move) ?_
        refine wpP_pure rfl rfl rfl (fun _ => x_to (x_eql rfl rfl) (congrArg Value.bool (decide_eq_false (show ¬ (50 : Int) = 0 by decide)))) ?_
        refine wpP_pure rfl rfl rfl (fun _ => x_move) ?_
        refine wpP_pure rfl rfl rfl (fun _ => x_move) ?_
        refine wpP_pure rfl rfl rfl (fun _ => x_to (x_eql rfl rfl) (congrArg Value.bool (decide_eq_true (rfl)))) ?_
        refine wpP_pure rfl rfl rfl (fun _ => (x_pick_f rfl)) ?_
        refine wpP_pure rfl rfl rfl (fun _ => (x_pick_t rfl)) ?_
        refine wpP_pure rfl rfl rfl (fun _ => x_move) ?_
        refine wpP_rdA 32 rfl rfl rfl Tryz.underlying23 rfl I23 rfl rfl (hb20.chg0 hcF2) (hYl) ?_
        refine wpP_rdA 32 rfl rfl rfl Tryz.underlying23 rfl I23 rfl rfl (ha18.chg0 hcF2) (hYl) ?_
        refine wpP_pure rfl rfl rfl (fun _ => x_eqArr Tryz.underlying23 I5 rfl Tryz.underlying5 (by kernel_rfl) rfl rfl (hYl) (hYl)) ?_
        refine wpP_pure rfl rfl rfl (fun _ => (x_pick_t rfl)) ?_
        refine wpP_pure rfl rfl rfl (fun _ => x_assign) ?_
        refine wpP_nil (thenE_norm ?_)
        refine wpE_ret (fin_ret ?_)
        exact ⟨congrArg Value.bool (decide_eq_true rfl), ((hcac.tr hc1).tr (hS18.now.tr hcF2)).tr (Chg.refl _)⟩
end Go.Proofs.YtenhmbhflgnhlaaGreat
