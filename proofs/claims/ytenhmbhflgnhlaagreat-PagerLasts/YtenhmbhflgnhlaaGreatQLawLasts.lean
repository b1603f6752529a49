/- pages committed tell the same, whatever comes later, until the next commit -/
import Derived.Test.YtenhmbhflgnhlaaGreatQModel
import Derived.Test.YtenhmbhflgnhlaaGreatQUsed
import Derived.Test.YtenhmbhflgnhlaaGreatSac1
namespace Go.Proofs.YtenhmbhflgnhlaaGreat
open Go Go.Sac
set_option maxRecDepth 100000
set_option maxHeartbeats 4000000
theorem PagerLasts_ok (w : World) (lv : Value) (l : List Step7) (bv : Value) (lb : List UInt8) (hl : Sl w lv l) (hok : ∀ x ∈ l, okStep7 w x) (hb : Sl w bv lb) :
    Ret Tryz.prog 8 #[lv, bv] w fun v w' => v = .bool true ∧ Chg [] w w' := by
  obtain ⟨pl, cl, rfl⟩ := hl.form rfl
  obtain ⟨pb, cb, rfl⟩ := hb.form rfl
  refine enter [4] Tryz.func8 rfl rfl (Nat.le_of_ble_eq_true rfl) ?_
  refine wpE_seq ?_
  refine wpE_region ?_
  refine wpL_value rfl x_assign ?_
  refine wpL_nil (thenE_norm ?_)
  refine wpE_seq ?_
  refine wpE_seq ?_
  refine wpE_region ?_
  refine wpL_call rfl C19 (known7_ok w) ?_
  rintro _ w1 ⟨rfl, hc1⟩
  refine wpL_value rfl (x_not rfl) ?_
  refine wpL_nil (thenE_norm ?_)
  refine wpE_cond_f (rfl) ?_
  refine wpE_skip (thenE_norm ?_)
  refine wpE_seq ?_
  refine wpE_seq ?_
  refine wpE_region ?_
  refine wpL_value rfl x_move (wpL_value rfl (x_len_slice rfl Tryz.underlying71) ?_)
  by_cases hz : 20 < l.length
  · skip
    refine wpL_value rfl (x_to (x_gtr rfl rfl) (congrArg Value.bool (decide_eq_true (by omega)))) ?_
    refine wpL_value rfl x_move (wpL_no rfl rfl (wpL_no rfl rfl (wpL_no rfl rfl (wpL_value rfl (x_pick_t rfl) ?_))))
    refine wpL_nil (thenE_norm ?_)
    refine wpE_cond_t (rfl) ?_
    refine wpE_seq ?_
    refine wpE_region ?_
    refine wpL_value rfl x_assign ?_
    refine wpL_nil (thenE_norm ?_)
    refine wpE_ret (thenE_ret (fin_ret ?_))
    exact ⟨rfl, hc1⟩
  · skip
    refine wpL_value rfl (x_to (x_gtr rfl rfl) (congrArg Value.bool (decide_eq_false (by omega)))) ?_
    refine wpL_value rfl x_move (wpL_yes rfl (wpL_value rfl x_move (wpL_yes rfl (wpL_value rfl (x_len_slice rfl Tryz.underlying41) (wpL_yes rfl (wpL_value rfl (x_gtr rfl rfl) (wpL_value rfl (x_pick_f rfl) ?_)))))))
    refine wpL_nil (thenE_norm ?_)
    refine wpE_cond_d rfl (fun h480 => ?_) (fun h480 => ?_)
    · skip
      refine wpE_seq ?_
      refine wpE_region ?_
      refine wpL_value rfl x_assign ?_
      refine wpL_nil (thenE_norm ?_)
      refine wpE_ret (thenE_ret (fin_ret ?_))
      exact ⟨rfl, hc1⟩
    · skip
      refine wpE_skip (thenE_norm ?_)
      refine wpE_seq ?_
      refine wpE_region ?_
      refine wpL_call rfl C20 (begun_run (n := 8) (by decide) V0 hc1) ?_
      rintro _ w2 ⟨b, kv, r, R, a, ds, mb, pv, ov, rfl, hS2, hM2, hMF, hc2⟩
      refine wpL_value rfl x_move (wpL_value rfl (x_extract rfl rfl) (wpL_value rfl (x_extract rfl rfl) (wpL_value rfl (x_extract rfl rfl) (wpL_value rfl (x_extract rfl rfl) (wpL_value rfl x_assign (wpL_value rfl x_assign (wpL_value rfl x_assign (wpL_value rfl x_assign ?_))))))))
      refine wpL_nil (thenE_norm ?_)
      refine wpE_seq ?_
      refine wpE_seq ?_
      refine wpE_region ?_
      refine wpL_value rfl x_move (wpL_value rfl (x_not rfl) ?_)
      refine wpL_nil (thenE_norm ?_)
      refine wpE_cond_f (rfl) ?_
      refine wpE_skip (thenE_norm ?_)
      refine wpE_seq ?_
      refine wpE_region ?_
      refine wpL_value rfl x_move ?_
      refine wpL_call rfl C21 (alloc_at hS2 0 (by decide) (fun j hj => by omega) rfl) ?_
      rintro _ w3 ⟨rfl, hS3, hc3⟩
      refine wpL_value rfl x_move (wpL_value rfl (x_extract rfl rfl) (wpL_value rfl (x_extract rfl rfl) (wpL_value rfl x_assign (wpL_value rfl x_assign ?_))))
      refine wpL_nil (thenE_norm ?_)
      refine wpE_seq ?_
      refine wpE_seq ?_
      refine wpE_region ?_
      refine wpL_value rfl x_move ?_
      refine wpL_value rfl (x_to (x_neq rfl rfl) (congrArg Value.bool (decide_eq_false (fun h => h rfl)))) ?_
      refine wpL_value rfl x_move (wpL_yes rfl (wpL_value rfl x_move (wpL_yes rfl (wpL_value rfl x_move (wpL_yes rfl (wpL_value rfl x_move (wpL_yes rfl ?_)))))))
      have hlt2 := hS2.lt
      have hlb : lb.length ≤ 480 := by omega
      have hb0 : ∀ x ∈ blkOf (.slice pb lb.length cb), x < w.heap.size := hb.lt
      have hge3 := hS3.ge
      refine wpL_call rfl C22 (write_run hS3 (by decide) 0 rfl (.slice pb lb.length cb) lb hlb (.inl (hb.mod0 hS3.now)) (fun _ x hx hh => by have := hb0 x hx; have := hge3 x hh; omega)) ?_
      rintro _ w4 ⟨rfl, ⟨ds4, hS4⟩, hc4⟩
      refine wpL_yes rfl ?_
      refine wpL_value rfl (x_to (x_neq rfl rfl) (congrArg Value.bool (decide_eq_false (fun h => h rfl)))) ?_
      refine wpL_value rfl (x_pick_f rfl) (wpL_value rfl x_move (wpL_yes rfl (wpL_value rfl x_move (wpL_yes rfl ?_))))
      refine wpL_call rfl C23 (commit_run hS4 (by decide) 5 t5 (by decide) (fun i hi => by have := (fresh_iff.1 hi).1; exact this)) ?_
      rintro _ w5 ⟨rfl, ⟨u5, r5, ku5, kr5, ds5, hR5, hS5, hpd5, _⟩, hc5⟩
      refine wpL_yes rfl (wpL_value rfl (x_neq rfl rfl) (wpL_value rfl (x_pick_f rfl) ?_))
      refine wpL_nil (thenE_norm ?_)
      refine wpE_cond_df rfl (fun h => h rfl) ?_
      refine wpE_skip (thenE_norm ?_)
      refine wpE_seq ?_
      refine wpE_region ?_
      refine wpL_value rfl x_move ?_
      have hob1 := hS5.abs
      obtain ⟨R5, P5, V5, hR5e, hP5, hV5, hS5⟩ := hob1
      have hRp : R.pb = R5.pb := by rw [hR5e]
      rw [← hR5e] at hR5
      have hMlt := hM2.lt
      have hk0 : w2.heap.size ≤ w3.heap.size := hc3.1
      have hk1 : w3.heap.size ≤ w4.heap.size := hc4.1
      have hM5 : MAt w5 mb pv ov (Mdl.zero 8) := ((hM2.chg hc3 (fun x hx => (hMF x hx).2)).chg hc4 (fun x hx => (hMF x hx).2)).chg hc5 (fun x hx => (hMF x hx).2)
      have hMR : ∀ x ∈ MF mb pv ov, x ∉ PF R5 ++ DF b kv r := fun x hx hh => by
        rcases List.mem_append.1 hh with hh | hh
        · rcases hR5 x hh with h | h
          · exact (hMF x hx).2 (List.mem_append_left _ h)
          · have := hMlt x hx; omega
        · exact (hMF x hx).2 (List.mem_append_right _ hh)
      refine wpL_call rfl C34 (mAlloc_ok w5 mb pv ov (Mdl.zero 8) hM5 (by decide)) ?_
      rintro _ w6 ⟨⟨M6, i6, e6, _, rfl, hM6⟩, hc6⟩
      refine wpL_nil (thenE_norm ?_)
      refine wpE_seq ?_
      refine wpE_seq ?_
      refine wpE_region ?_
      refine wpL_value rfl x_assign ?_
      refine wpL_nil (thenE_norm ?_)
      refine wpE_block ?_
      have hpvM : ∀ x ∈ blkOf pv, x ∈ MF mb pv ov := fun x hx => by simp [MF, hx]
      have hS6 := hS5.chg hc6 (fun x hx hh => hMR x (hpvM x hh) hx) (fun x hx => Nat.le_trans hc1.1 (hMF x (hpvM x hx)).1)
      have hk5 : P5.kept.used 0 = true ∧ P5.kept.written 0 = true ∧ (∀ j, P5.kept.used j = decide (j = 0)) ∧ (∀ j, P5.kept.written j = decide (j = 0)) ∧ P5.kept.root = 5 ∧ P5.kept.txt = t5 := by
        rw [hP5]
        refine ⟨rfl, rfl, fun j => ?_, fun j => ?_, rfl, rfl⟩
        · show addPg noPg _ j = _
          simp [addPg, noPg]
        · show addPg noPg _ j = _
          simp [addPg, noPg]
      have hn5 : P5.now.used 0 = true ∧ P5.now.written 0 = true := by rw [hP5]; exact ⟨rfl, rfl⟩
      have hv5 : V5 0 = lb := by rw [hV5]; simp [setV]
      have hob2 : ∃ K, K = P5.kept := ⟨_, rfl⟩
      obtain ⟨K, hK⟩ := hob2
      rw [← hK] at hk5
      have hvs : ∀ x, Value.pointer (some ⟨R.pb, 0, none⟩) = x ↔ Value.pointer (some ⟨R5.pb, 0, none⟩) = x := fun x => by rw [hRp]
      refine wpE_loopF [0, 1, 6, 9, 11] (fun q vs w' => ∃ (i kk : Nat) (ds : DSt) (P : Pg) (V : UInt32 → List UInt8), vs = [.slice pl l.length cl, .slice pb lb.length cb, .pointer (some ⟨R5.pb, 0, none⟩), .int .u32 (0 : UInt32).toNat, .int .i64 i] ∧ i + q = l.length ∧ kk ≤ i + 10 ∧ PS w w' b kv r R5 8 kk k39 ds P V ∧ P.kept = K ∧ P.now.used 0 = true ∧ P.now.written 0 = true ∧ V 0 = lb) (l.length) ?_ ?_
      · exact ⟨0, _, ds5, P5, V5, vs_cons rfl (vs_cons rfl (vs_cons ((hvs _).2 rfl) (vs_cons rfl (vs_cons rfl vs_nil)))), by omega, by omega, hS6, hK.symm, hn5.1, hn5.2, hv5⟩
      · rintro q vs J w7 ⟨i, kk, ds7, P7, V7, rfl, hi, hkk, hS7, hK7, hu7, hw7, hv7⟩
        refine wpE_seq ?_
        refine wpE_seq ?_
        refine wpE_region ?_
        refine wpL_value rfl x_move (wpL_value rfl x_move (wpL_value rfl (x_len_slice rfl Tryz.underlying71) (wpL_value rfl (x_lss rfl rfl) ?_)))
        refine wpL_nil (thenE_norm ?_)
        refine wpE_cond_d rfl (fun hil => ?_) (fun hil => ?_)
        · skip
          refine wpE_skip (thenE_norm ?_)
          refine wpE_seq ?_
          refine wpE_block ?_
          refine wpE_seq ?_
          refine wpE_region ?_
          refine wpL_value rfl x_move (wpL_value rfl x_move ?_)
          have hob3 : ∃ z, q = z + 1 := ⟨q - 1, by omega⟩
          obtain ⟨q, rfl⟩ := hob3
          have hli : l[i]? = some (l.getD i step70) := getD_some (by omega)
          have hob4 : ∃ x, x = l.getD i step70 := ⟨_, rfl⟩
          obtain ⟨x, hx⟩ := hob4
          rw [← hx] at hli
          have hob5 := hok x (List.mem_of_getElem? hli)
          obtain ⟨hok1, hok2, ⟨sb, hsb⟩, hok3, _⟩ := hob5
          have hl7 := hl.mod0 hS7.now
          refine wpL_ex rfl (x_idx (i) Tryz.underlying71 I75 rfl (hl7) rfl rfl (by first | rfl | omega) (by omega)) ?_
          rintro _ ⟨bi, oi, rfl, hei, hbi⟩
          refine wpL_value rfl (x_loadA Tryz.underlying75 rfl I75 rfl (hl7.at hei hli) rfl) ?_
          refine wpL_exw rfl (x_allocB (l := Flat.enc step70) I75 rfl rfl) ?_
          rintro _ w8 ⟨b8, rfl, hn8, hB8, hc8, hl8⟩
          refine wpL_exs rfl (x_storeB (l := Flat.enc x) I75 rfl rfl hB8 rfl rfl (by rw [Flat.len, Flat.len]; decide) (fun q hq => Flat.cell x q hq) (spl_all rfl)) ?_
          rintro w9 ⟨hB9, hc9, hs9⟩
          refine wpL_nil (thenE_norm ?_)
          refine wpE_seq ?_
          refine wpE_seq ?_
          refine wpE_region ?_
          refine wpL_value rfl (x_fieldAddr Tryz.underlying75 rfl I3 rfl rfl) ?_
          have hc79 : Chg [] w7 w9 := hc8.t1 hc9 hn8
          have hS9 := hS7.chg0 hc79
          have hlt7 := hS7.lt
          have hb8 : b8 ∉ PF R5 ++ DF b kv r := fun h => by have := hlt7 b8 h; omega
          have hob6 := hsb.form
          obtain ⟨ps, cs, hsf⟩ := hob6
          have hB9 : Blk w9 b8 [.int .i64 x.what, .int .i64 x.i, .slice ps sb.length cs, .int .u32 x.root.toNat, str x.txt, x.ch.1] := by rw [← hsf]; exact hB9
          rw [hsf] at hsb
          refine wpL_value rfl (x_load Tryz.underlying3 rfl rfl (hB9.c (off := 0) rfl)) ?_
          by_cases hw5 : 5 ≤ x.what
          · skip
            refine wpL_value rfl (x_to (x_geq rfl rfl) (congrArg Value.bool (decide_eq_true (by omega)))) ?_
            refine wpL_value rfl x_move (wpL_no rfl rfl (wpL_no rfl rfl (wpL_no rfl rfl (wpL_no rfl rfl (wpL_value rfl (x_pick_t rfl) ?_)))))
            refine wpL_nil (thenE_norm ?_)
            refine wpE_cond_t (rfl) ?_
            refine wpE_exit (thenE_exit (blockE_exit (thenE_norm ?_)))
            refine wpE_region ?_
            refine wpL_value rfl x_move (wpL_value rfl (x_add64 rfl rfl (by omega)) (wpL_value rfl x_assign ?_))
            refine wpL_nil (thenE_norm ?_)
            refine Exists.intro (q) (And.intro (by omega) ?_)
            exact ⟨i + 1, kk, ds7, P7, V7, rfl, by omega, by omega, hS9, hK7, hu7, hw7, hv7⟩
          · skip
            refine wpL_value rfl (x_to (x_geq rfl rfl) (congrArg Value.bool (decide_eq_false (by omega)))) ?_
            refine wpL_value rfl x_move (wpL_yes rfl (wpL_value rfl (x_fieldAddr Tryz.underlying75 rfl I41 rfl rfl) (wpL_yes rfl ?_)))
            refine wpL_value rfl (x_load Tryz.underlying41 rfl rfl (hB9.c (off := 2) rfl)) ?_
            refine wpL_yes rfl (wpL_value rfl (x_len_slice rfl Tryz.underlying41) (wpL_yes rfl (wpL_value rfl (x_gtr rfl rfl) (wpL_value rfl (x_pick_f rfl) ?_))))
            refine wpL_nil (thenE_norm ?_)
            refine wpE_cond_d rfl (fun h600 => ?_) (fun h600 => ?_)
            · skip
              refine wpE_exit (thenE_exit (blockE_exit (thenE_norm ?_)))
              refine wpE_region ?_
              refine wpL_value rfl x_move (wpL_value rfl (x_add64 rfl rfl (by omega)) (wpL_value rfl x_assign ?_))
              refine wpL_nil (thenE_norm ?_)
              refine Exists.intro (q) (And.intro (by omega) ?_)
              exact ⟨i + 1, kk, ds7, P7, V7, rfl, by omega, by omega, hS9, hK7, hu7, hw7, hv7⟩
            · skip
              refine wpE_skip (thenE_norm ?_)
              refine wpE_seq ?_
              refine wpE_region ?_
              refine wpL_value rfl x_move ?_
              have hn0 : P7.free 0 = false := by
                unfold Pg.free
                rw [hu7]; rfl
              rcases first_or (fun j => P7.free (UInt32.ofNat j)) 8 with ⟨j, hj8, hj0, hj1⟩ | hnone
              · skip
                have hj1 : P7.free (UInt32.ofNat j) = true := hj1
                have hjne : UInt32.ofNat j ≠ 0 := fun h => by rw [h, hn0] at hj1; cases hj1
                refine wpL_call rfl C21 (alloc_at hS9 j hj8 hj0 hj1) ?_
                rintro _ w10 ⟨rfl, hS10, hc10⟩
                refine wpL_value rfl x_move (wpL_value rfl (x_extract rfl rfl) (wpL_value rfl (x_extract rfl rfl) (wpL_value rfl x_assign (wpL_value rfl x_assign ?_))))
                refine wpL_nil (thenE_norm ?_)
                refine wpE_seq ?_
                refine wpE_seq ?_
                have hB10 : Blk w10 b8 [.int .i64 x.what, .int .i64 x.i, .slice ps sb.length cs, .int .u32 x.root.toNat, str x.txt, x.ch.1] := hB9.chg hc10 hb8
                have hsbl : sb ≠ [] → ∀ x ∈ blkOf (.slice ps sb.length cs), x ∉ PF R5 ++ DF b kv r := fun hne x hx hh => by
                  have := hsb.lt hne x hx
                  have := hS7.ge x hh
                  omega
                have hfj : P7.kept.used (UInt32.ofNat j) = false ∧ P7.now.used (UInt32.ofNat j) = false := by
                  unfold Pg.free at hj1
                  simp only [Bool.and_eq_true, Bool.not_eq_true'] at hj1
                  exact ⟨hj1.2, hj1.1⟩
                have hfr : Pg.fresh { P7 with now := { P7.now with used := addPg P7.now.used (UInt32.ofNat j) } } (UInt32.ofNat j) = true := fresh_iff.2 ⟨by show addPg _ _ _ = true; simp [addPg], hfj.1⟩
                have ha0 : addPg P7.now.used (UInt32.ofNat j) 0 = true := by unfold addPg; rw [hu7, Bool.or_true]
                refine wpE_draw mixed (.pure 0 (.pure 1 (.pure 2 (.pure 3 (.pure 4 (.pure 5 (.pure 6 (.pure 7 (.pure 8 (.pure 9 (.read 10 (.pure 13 (.read 14 (.pure 15 (.pure 16 (.eff 11 [14] (.pure 12 (.pure 17 (.pure 18 (.pure 19 .nil)))))))))))))))))))) (by kernel_rfl) ?_
                refine wpP_pure rfl rfl rfl (fun _ => x_move) ?_
                refine wpP_pure rfl rfl rfl (fun _ => x_to (x_eql rfl rfl) (congrArg Value.bool (decide_eq_true (rfl)))) ?_
                refine wpP_pure rfl rfl rfl (fun _ => x_move) ?_
                refine wpP_pure rfl rfl rfl (fun _ => x_move) ?_
                refine wpP_pure rfl rfl rfl (fun _ => x_move) ?_
                refine wpP_pure rfl rfl rfl (fun _ => x_to (x_eql32u rfl rfl) (congrArg Value.bool (decide_eq_false (hjne)))) ?_
                refine wpP_pure rfl rfl rfl (fun _ => x_move) ?_
                refine wpP_pure rfl rfl rfl (fun _ => x_move) ?_
                refine wpP_pure rfl rfl rfl (fun _ => x_move) ?_
                refine wpP_pure rfl rfl rfl (fun _ => (x_fieldAddr Tryz.underlying75 rfl I41 rfl rfl)) ?_
                refine wpP_rd rfl rfl rfl Tryz.underlying41 rfl rfl (hB10.c (off := 2) rfl) ?_
                refine wpP_pure rfl rfl rfl (fun _ => (x_fieldAddr Tryz.underlying75 rfl I41 rfl rfl)) ?_
                refine wpP_rd rfl rfl rfl Tryz.underlying41 rfl rfl (hB10.c (off := 2) rfl) ?_
                refine wpP_pure rfl rfl rfl (fun _ => (x_len_slice rfl Tryz.underlying41)) ?_
                refine wpP_pure rfl rfl rfl (fun _ => (x_leq rfl rfl)) ?_
                by_cases hs480 : sb.length ≤ 480
                · skip
                  refine wpP_call rfl rfl rfl C22 ((write_run (hS10.chg0 (drw _)) (by omega) (UInt32.ofNat j) hfr (.slice ps sb.length cs) sb hs480 ((hsb.mod0 hS10.now).mod0 (drw _)) hsbl :)) ?_
                  rintro _ w11 ⟨rfl, ⟨ds11, hS11⟩, hc11⟩
                  refine ⟨⟨(hB10.chg0 (drw _)).chg hc11 hb8 |>.c (off := 2) rfl, trivial⟩, ?_⟩
                  refine wpP_pure rfl rfl rfl (fun _ => (x_eql rfl rfl)) ?_
                  refine wpP_pure rfl rfl rfl (fun _ => (x_neb rfl rfl Tryz.underlying4)) ?_
                  refine wpP_pure rfl rfl rfl (fun _ => (x_pick_f rfl)) ?_
                  refine wpP_pure rfl rfl rfl (fun _ => (x_pick_t rfl)) ?_
                  refine wpP_nil (thenE_norm ?_)
                  refine wpE_cond_df rfl (fun h => h (by rw [decide_eq_true (show ((sb.length : Int) ≤ 480) by omega)]; rfl)) ?_
                  refine wpE_skip (thenE_norm ?_)
                  refine wpE_seq ?_
                  refine wpE_region ?_
                  refine wpL_value rfl x_move (wpL_value rfl x_move ?_)
                  have hob7 := hS11.abs
                  obtain ⟨Rr, Pr, Vr, hRr, hPr, hVr, hSr⟩ := hob7
                  subst hRr
                  have hwr : Pr.now.written 0 = true := by rw [hPr]; show addPg _ _ _ = true; unfold addPg; rw [hw7, Bool.or_true]
                  have hvr : Vr 0 = lb := by rw [hVr]; unfold setV; rw [if_neg (fun h => hjne h.symm)]; exact hv7
                  have hKr : Pr.kept = K := by rw [hPr]; exact hK7
                  have hur : Pr.now.used 0 = true := by rw [hPr]; exact ha0
                  refine wpL_call rfl C29 ((read_run hSr 0 hwr :)) ?_
                  rintro _ wr ⟨⟨rv, rfl, hsr⟩, hSr2, hcr⟩
                  refine wpL_value rfl x_move (wpL_value rfl (x_extract rfl rfl) (wpL_value rfl (x_extract rfl rfl) (wpL_value rfl x_assign (wpL_value rfl x_assign ?_))))
                  refine wpL_nil (thenE_norm ?_)
                  refine wpE_seq ?_
                  refine wpE_region ?_
                  refine wpL_value rfl x_move ?_
                  rw [hvr] at hsr
                  refine wpL_value rfl (x_to (x_neq rfl rfl) (congrArg Value.bool (decide_eq_false (fun h => h rfl)))) ?_
                  refine wpL_value rfl x_move (wpL_yes rfl (wpL_value rfl x_move (wpL_yes rfl ?_)))
                  refine wpL_value rfl (x_b2s Tryz.underlying41 Tryz.underlying5 Tryz.underlying9 hsr rfl) ?_
                  refine wpL_yes rfl (wpL_value rfl x_move (wpL_yes rfl ?_))
                  refine wpL_value rfl (x_b2s Tryz.underlying41 Tryz.underlying5 Tryz.underlying9 (hb.mod0 hSr2.now) rfl) ?_
                  refine wpL_yes rfl (wpL_value rfl (x_neS rfl rfl) (wpL_value rfl (x_pick_f rfl) ?_))
                  refine wpL_nil (thenE_norm ?_)
                  refine wpE_cond_df rfl (fun h => h rfl) ?_
                  refine wpE_skip (blockE_norm (thenE_norm ?_))
                  refine wpE_region ?_
                  refine wpL_value rfl x_move (wpL_value rfl (x_add64 rfl rfl (by omega)) (wpL_value rfl x_assign ?_))
                  refine wpL_nil (thenE_norm ?_)
                  refine Exists.intro (q) (And.intro (by omega) ?_)
                  exact ⟨i + 1, _, _, _, _, rfl, by omega, by omega, hSr2, hKr, hur, hwr, hvr⟩
                · skip
                  refine wpP_call rfl rfl rfl C22 ((write_bad (hS10.chg0 (drw _)) (UInt32.ofNat j) (by rw [UInt32.toNat_ofNat']; omega) (.slice ps sb.length cs) sb 11 (.inr ⟨hfr, by omega, rfl⟩) ((hsb.mod0 hS10.now).mod0 (drw _)) hsbl :)) ?_
                  rintro _ w11 ⟨rfl, hS11, hc11⟩
                  refine ⟨⟨(hB10.chg0 (drw _)).chg hc11 hb8 |>.c (off := 2) rfl, trivial⟩, ?_⟩
                  refine wpP_pure rfl rfl rfl (fun _ => (x_eql rfl rfl)) ?_
                  refine wpP_pure rfl rfl rfl (fun _ => (x_neb rfl rfl Tryz.underlying4)) ?_
                  refine wpP_pure rfl rfl rfl (fun _ => (x_pick_f rfl)) ?_
                  refine wpP_pure rfl rfl rfl (fun _ => (x_pick_t rfl)) ?_
                  refine wpP_nil (thenE_norm ?_)
                  refine wpE_cond_df rfl (fun h => h (by rw [decide_eq_false (show ¬ ((sb.length : Int) ≤ 480) by omega)]; rfl)) ?_
                  refine wpE_skip (thenE_norm ?_)
                  refine wpE_seq ?_
                  refine wpE_region ?_
                  refine wpL_value rfl x_move (wpL_value rfl x_move ?_)
                  have hob8 := hS11.abs
                  obtain ⟨Rr, Pr, Vr, hRr, hPr, hVr, hSr⟩ := hob8
                  subst hRr
                  have hwr : Pr.now.written 0 = true := by rw [hPr]; exact hw7
                  have hvr : Vr 0 = lb := by rw [hVr]; exact hv7
                  have hKr : Pr.kept = K := by rw [hPr]; exact hK7
                  have hur : Pr.now.used 0 = true := by rw [hPr]; exact ha0
                  refine wpL_call rfl C29 ((read_run hSr 0 hwr :)) ?_
                  rintro _ wr ⟨⟨rv, rfl, hsr⟩, hSr2, hcr⟩
                  refine wpL_value rfl x_move (wpL_value rfl (x_extract rfl rfl) (wpL_value rfl (x_extract rfl rfl) (wpL_value rfl x_assign (wpL_value rfl x_assign ?_))))
                  refine wpL_nil (thenE_norm ?_)
                  refine wpE_seq ?_
                  refine wpE_region ?_
                  refine wpL_value rfl x_move ?_
                  rw [hvr] at hsr
                  refine wpL_value rfl (x_to (x_neq rfl rfl) (congrArg Value.bool (decide_eq_false (fun h => h rfl)))) ?_
                  refine wpL_value rfl x_move (wpL_yes rfl (wpL_value rfl x_move (wpL_yes rfl ?_)))
                  refine wpL_value rfl (x_b2s Tryz.underlying41 Tryz.underlying5 Tryz.underlying9 hsr rfl) ?_
                  refine wpL_yes rfl (wpL_value rfl x_move (wpL_yes rfl ?_))
                  refine wpL_value rfl (x_b2s Tryz.underlying41 Tryz.underlying5 Tryz.underlying9 (hb.mod0 hSr2.now) rfl) ?_
                  refine wpL_yes rfl (wpL_value rfl (x_neS rfl rfl) (wpL_value rfl (x_pick_f rfl) ?_))
                  refine wpL_nil (thenE_norm ?_)
                  refine wpE_cond_df rfl (fun h => h rfl) ?_
                  refine wpE_skip (blockE_norm (thenE_norm ?_))
                  refine wpE_region ?_
                  refine wpL_value rfl x_move (wpL_value rfl (x_add64 rfl rfl (by omega)) (wpL_value rfl x_assign ?_))
                  refine wpL_nil (thenE_norm ?_)
                  refine Exists.intro (q) (And.intro (by omega) ?_)
                  exact ⟨i + 1, _, _, _, _, rfl, by omega, by omega, hSr2, hKr, hur, hwr, hvr⟩
              · skip
                refine wpL_call rfl C21 (alloc_none hS9 hnone) ?_
                rintro _ w10 ⟨rfl, hS10, hc10⟩
                refine wpL_value rfl x_move (wpL_value rfl (x_extract rfl rfl) (wpL_value rfl (x_extract rfl rfl) (wpL_value rfl x_assign (wpL_value rfl x_assign ?_))))
                refine wpL_nil (thenE_norm ?_)
                refine wpE_seq ?_
                refine wpE_seq ?_
                refine wpE_draw mixed (.pure 0 (.pure 1 (.pure 2 (.pure 3 (.pure 4 (.pure 5 (.pure 6 (.pure 7 (.pure 8 (.pure 9 (.read 10 (.pure 13 (.read 14 (.pure 15 (.pure 16 (.eff 11 [14] (.pure 12 (.pure 17 (.pure 18 (.pure 19 .nil)))))))))))))))))))) (by kernel_rfl) ?_
                refine wpP_pure rfl rfl rfl (fun _ => x_move) ?_
                refine wpP_pure rfl rfl rfl (fun _ => x_to (x_eql rfl rfl) (congrArg Value.bool (decide_eq_false (fun h => by cases h)))) ?_
                refine wpP_pure rfl rfl rfl (fun _ => x_move) ?_
                refine wpP_no rfl rfl rfl ?_
                refine wpP_no rfl rfl rfl ?_
                refine wpP_no rfl rfl rfl ?_
                refine wpP_no rfl rfl rfl ?_
                refine wpP_no rfl rfl rfl ?_
                refine wpP_no rfl rfl rfl ?_
                refine wpP_no rfl rfl rfl ?_
                refine wpP_nor rfl rfl rfl ?_
                refine wpP_no rfl rfl rfl ?_
                refine wpP_nor rfl rfl rfl ?_
                refine wpP_no rfl rfl rfl ?_
                refine wpP_no rfl rfl rfl ?_
                refine wpP_noe rfl rfl rfl ?_
                refine wpP_no rfl rfl rfl ?_
                refine wpP_no rfl rfl rfl ?_
                refine wpP_no rfl rfl rfl ?_
                refine wpP_pure rfl rfl rfl (fun _ => (x_pick_f rfl)) ?_
                refine wpP_nil (thenE_norm ?_)
                refine wpE_cond_f (rfl) ?_
                refine wpE_skip (thenE_norm ?_)
                refine wpE_seq ?_
                refine wpE_region ?_
                refine wpL_value rfl x_move (wpL_value rfl x_move ?_)
                have hSr := hS10.chg0 (drw _)
                have hwr := hw7
                have hvr := hv7
                have hKr := hK7
                have hur := hu7
                refine wpL_call rfl C29 ((read_run hSr 0 hwr :)) ?_
                rintro _ wr ⟨⟨rv, rfl, hsr⟩, hSr2, hcr⟩
                refine wpL_value rfl x_move (wpL_value rfl (x_extract rfl rfl) (wpL_value rfl (x_extract rfl rfl) (wpL_value rfl x_assign (wpL_value rfl x_assign ?_))))
                refine wpL_nil (thenE_norm ?_)
                refine wpE_seq ?_
                refine wpE_region ?_
                refine wpL_value rfl x_move ?_
                rw [hvr] at hsr
                refine wpL_value rfl (x_to (x_neq rfl rfl) (congrArg Value.bool (decide_eq_false (fun h => h rfl)))) ?_
                refine wpL_value rfl x_move (wpL_yes rfl (wpL_value rfl x_move (wpL_yes rfl ?_)))
                refine wpL_value rfl (x_b2s Tryz.underlying41 Tryz.underlying5 Tryz.underlying9 hsr rfl) ?_
                refine wpL_yes rfl (wpL_value rfl x_move (wpL_yes rfl ?_))
                refine wpL_value rfl (x_b2s Tryz.underlying41 Tryz.underlying5 Tryz.underlying9 (hb.mod0 hSr2.now) rfl) ?_
                refine wpL_yes rfl (wpL_value rfl (x_neS rfl rfl) (wpL_value rfl (x_pick_f rfl) ?_))
                refine wpL_nil (thenE_norm ?_)
                refine wpE_cond_df rfl (fun h => h rfl) ?_
                refine wpE_skip (blockE_norm (thenE_norm ?_))
                refine wpE_region ?_
                refine wpL_value rfl x_move (wpL_value rfl (x_add64 rfl rfl (by omega)) (wpL_value rfl x_assign ?_))
                refine wpL_nil (thenE_norm ?_)
                refine Exists.intro (q) (And.intro (by omega) ?_)
                exact ⟨i + 1, _, _, _, _, rfl, by omega, by omega, hSr2, hKr, hur, hwr, hvr⟩
        · skip
          refine wpE_exit (thenE_exit (thenE_exit (blockE_exit (thenE_norm ?_))))
          refine wpE_seq ?_
          refine wpE_seq ?_
          refine wpE_region ?_
          refine wpL_value rfl x_move (wpL_value rfl x_move ?_)
          refine wpL_call rfl C33 ((free_run hS7 0 hu7 :)) ?_
          rintro _ w8 ⟨rfl, hS8, hc8⟩
          refine wpL_value rfl (x_neq rfl rfl) ?_
          refine wpL_nil (thenE_norm ?_)
          refine wpE_cond_df rfl (fun h => h rfl) ?_
          refine wpE_skip (thenE_norm ?_)
          refine wpE_seq ?_
          refine wpE_region ?_
          refine wpL_value rfl x_move ?_
          refine wpL_call rfl C35 ((undo_run hS8 :)) ?_
          rintro _ w9 ⟨u9, r9, hS9, hc9⟩
          refine wpL_nil (thenE_norm ?_)
          refine wpE_seq ?_
          refine wpE_region ?_
          refine wpL_value rfl x_move (wpL_value rfl x_move ?_)
          have hob9 := hS9.absP
          obtain ⟨P9, V9, hP9, hV9, hS9⟩ := hob9
          have hnow : P9.now = K.st := by rw [hP9, ← hK7]
          have hkept : P9.kept = K := by rw [hP9]; exact hK7
          obtain ⟨_, hkw, hku, hkwr, hkr, hkt⟩ := hk5
          have hw9 : P9.now.written 0 = true := by rw [hnow]; exact hkw
          have hu9 : ∀ j, P9.now.used j = decide (j = 0) := fun j => by rw [hnow]; exact hku j
          have hpg : pgsL P9.now.used 8 = [0] := by
            have : P9.now.used = fun j => decide (j = 0) := funext hu9
            rw [this]; decide
          have hrm : roomN P9 8 = 7 := by
            unfold roomN
            have : (List.range 8).filter (fun i => P9.free (UInt32.ofNat i)) = (List.range 8).filter (fun i => decide (i ≠ 0)) := by
              refine List.filter_congr fun i hi => ?_
              have hi := List.mem_range.1 hi
              unfold Pg.free
              rw [hu9, hkept, hku]
              have : UInt32.ofNat i = 0 ↔ i = 0 := ⟨fun h => by have := congrArg UInt32.toNat h; rw [UInt32.toNat_ofNat_of_lt' (show i < 4294967296 by omega)] at this; exact this, fun h => by rw [h]; rfl⟩
              by_cases h0 : i = 0
              · rw [h0]; rfl
              · rw [decide_eq_false (fun h => h0 (this.1 h)), decide_eq_true h0]; rfl
            rw [this]; decide
          have hv9 : V9 0 = lb := by rw [hV9]; exact hv7
          refine wpL_call rfl C29 ((read_run hS9 0 hw9 :)) ?_
          rintro _ w10 ⟨⟨rv, rfl, hsr⟩, hS10, hc10⟩
          refine wpL_value rfl x_move (wpL_value rfl (x_extract rfl rfl) (wpL_value rfl (x_extract rfl rfl) (wpL_value rfl x_assign (wpL_value rfl x_assign ?_))))
          refine wpL_nil (thenE_norm ?_)
          refine wpE_seq ?_
          refine wpE_region ?_
          refine wpL_value rfl x_move ?_
          rw [hv9] at hsr
          refine wpL_call rfl C36 ((used_run hS10 (by decide) :)) ?_
          rintro uv w11 ⟨hou, hS11, hc11, hiu⟩
          refine wpL_value rfl x_assign ?_
          refine wpL_nil (thenE_norm ?_)
          refine wpE_seq ?_
          refine wpE_region ?_
          refine wpL_value rfl x_move ?_
          rw [hpg] at hou
          have hob10 := hou.form rfl
          obtain ⟨pu, cu, rfl⟩ := hob10
          refine wpL_value rfl (x_to (x_eql rfl rfl) (congrArg Value.bool (decide_eq_true (rfl)))) ?_
          refine wpL_value rfl x_move (wpL_yes rfl (wpL_value rfl x_move (wpL_yes rfl ?_)))
          refine wpL_value rfl (x_b2s Tryz.underlying41 Tryz.underlying5 Tryz.underlying9 (hsr.mod0 hc11) rfl) ?_
          refine wpL_yes rfl (wpL_value rfl x_move (wpL_yes rfl ?_))
          refine wpL_value rfl (x_b2s Tryz.underlying41 Tryz.underlying5 Tryz.underlying9 (hb.mod0 hS11.now) rfl) ?_
          refine wpL_yes rfl ?_
          refine wpL_value rfl (x_to (x_eqS rfl rfl) (congrArg Value.bool (decide_eq_true (rfl)))) ?_
          refine wpL_value rfl (x_pick_t rfl) (wpL_value rfl x_move (wpL_yes rfl (wpL_value rfl x_move (wpL_yes rfl (wpL_value rfl (x_len_slice rfl Tryz.underlying65) (wpL_yes rfl ?_))))))
          refine wpL_value rfl (x_to (x_eql rfl rfl) (congrArg Value.bool (decide_eq_true (rfl)))) ?_
          refine wpL_value rfl (x_pick_t rfl) (wpL_value rfl x_move (wpL_yes rfl (wpL_value rfl x_move (wpL_yes rfl ?_))))
          refine wpL_ex rfl (x_idx (0) Tryz.underlying65 I34 rfl (hou.sl) rfl rfl (by first | rfl | omega) (by decide)) ?_
          rintro _ ⟨bu, oU, rfl, heu, hbu⟩
          refine wpL_yes rfl ?_
          refine wpL_value rfl (x_load Tryz.underlying34 rfl rfl (((hou.sl.at heu rfl).c0 rfl : _ = some (.int .u32 (0 : UInt32).toNat)))) ?_
          refine wpL_yes rfl (wpL_value rfl x_move (wpL_yes rfl ?_))
          refine wpL_value rfl (x_to (x_eql32u rfl rfl) (congrArg Value.bool (decide_eq_true (rfl)))) ?_
          refine wpL_value rfl (x_pick_t rfl) (wpL_value rfl x_move (wpL_yes rfl (wpL_value rfl x_move (wpL_yes rfl ?_))))
          have hroot : P9.now.root = 5 := by rw [hnow]; exact hkr
          have htxt : P9.now.txt = t5 := by rw [hnow]; exact hkt
          refine wpL_call rfl C37 ((root_run hS11 :)) ?_
          rintro v12 w12 ⟨hv12, hS12, hc12⟩
          rw [hroot] at hv12
          subst hv12
          refine wpL_yes rfl ?_
          refine wpL_value rfl (x_to (x_eql32u (b := 5) rfl rfl) (congrArg Value.bool (decide_eq_true (rfl)))) ?_
          refine wpL_value rfl (x_pick_t rfl) (wpL_value rfl x_move (wpL_yes rfl (wpL_value rfl x_move (wpL_yes rfl ?_))))
          refine wpL_call rfl C38 ((meta_run hS12 :)) ?_
          rintro v13 w13 ⟨hv13, hS13, hc13⟩
          rw [htxt] at hv13
          subst hv13
          refine wpL_yes rfl ?_
          refine wpL_value rfl (x_to (x_eqS rfl rfl) (congrArg Value.bool (decide_eq_true (rfl)))) ?_
          refine wpL_value rfl (x_pick_t rfl) (wpL_value rfl x_move (wpL_yes rfl (wpL_value rfl x_move (wpL_yes rfl ?_))))
          refine wpL_call rfl C32 ((room_run hS13 :)) ?_
          rintro v14 w14 ⟨hv14, hS14, hc14⟩
          rw [hrm] at hv14
          subst hv14
          refine wpL_yes rfl (wpL_value rfl (x_eql rfl rfl) (wpL_value rfl (x_pick_t rfl) (wpL_value rfl x_assign ?_)))
          refine wpL_nil (thenE_norm ?_)
          refine wpE_ret (fin_ret ?_)
          exact ⟨rfl, hS14.now⟩
end Go.Proofs.YtenhmbhflgnhlaaGreat

