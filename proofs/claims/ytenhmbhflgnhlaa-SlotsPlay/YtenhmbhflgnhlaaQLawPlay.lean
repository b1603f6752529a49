/- Any play of puts, erasures, lost powers and crashes leaves each slot as it was told, or as the step in whose midst the power went allows. -/
import Derived.Test.YtenhmbhflgnhlaaQLawAlike
import Derived.Test.YtenhmbhflgnhlaaSac1
namespace Go.Proofs.Ytenhmbhflgnhlaa
open Go Go.Sac
set_option maxRecDepth 100000
set_option maxHeartbeats 4000000
def RS (w0 w : World) (b : Nat) (kv : Value) (r sb fr : Nat) (ds : DSt) (s : SSt) : Prop := RunD w0 w b kv r ds ∧ RunS w0 w sb fr b kv r s
section
variable {w0 w : World} {b r sb fr : Nat} {kv : Value} {ds : DSt} {s : SSt}
theorem RS.ge (h : RS w0 w b kv r sb fr ds s) : ∀ x ∈ SF sb fr b kv r, w0.heap.size ≤ x := by
  obtain ⟨hd, hs⟩ := h
  intro x hx
  simp only [SF, List.mem_cons] at hx
  rcases hx with rfl | rfl | hx
  · exact hs.2.2.1
  · exact hs.2.2.2
  · exact hd.2.2 x hx
theorem RS.lt (h : RS w0 w b kv r sb fr ds s) : ∀ x ∈ SF sb fr b kv r, x < w.heap.size := by
  obtain ⟨hd, hs⟩ := h
  intro x hx
  simp only [SF, List.mem_cons] at hx
  rcases hx with rfl | rfl | hx
  · exact hs.1.1.lt
  · exact hs.1.2.1.lt
  · exact hd.1.lt x hx
theorem RS.chg {w' : World} {S : List Nat} (h : RS w0 w b kv r sb fr ds s) (hm : Chg S w w') (hn : ∀ x ∈ SF sb fr b kv r, x ∉ S) (hs : ∀ x ∈ S, w0.heap.size ≤ x) : RS w0 w' b kv r sb fr ds s := by
  obtain ⟨hd, h2⟩ := h
  exact ⟨⟨hd.1.chg hm (fun x hx => hn x (by simp only [SF, List.mem_cons]; exact .inr (.inr hx))), hd.2.1.t0 hm hs, hd.2.2⟩,
    ⟨h2.1.chg hm (hn sb (by simp [SF])) (hn fr (by simp [SF])), h2.2⟩⟩
theorem RS.chg0 {w' : World} (h : RS w0 w b kv r sb fr ds s) (hm : Chg [] w w') : RS w0 w' b kv r sb fr ds s := h.chg hm (by simp) (by simp)
theorem RS.nb {w' : World} {c : Nat} (h : RS w0 w b kv r sb fr ds s) (hm : Chg [c] w w') (hn : c ∉ SF sb fr b kv r) (hc : w0.heap.size ≤ c) : RS w0 w' b kv r sb fr ds s :=
  h.chg hm (fun x hx h => hn (by simp at h; subst h; exact hx)) (fun x hx => by simp at hx; subst hx; exact hc)
theorem RS.turn {w' : World} {ds' : DSt} {s' : SSt} (h : RS w0 w b kv r sb fr ds s) (hd : DiskAt w' b kv r ds') (hs : SlotAt w' sb fr b s') (hm : Chg (SF sb fr b kv r) w w') : RS w0 w' b kv r sb fr ds' s' :=
  ⟨⟨hd, h.1.2.1.t0 hm h.ge, h.1.2.2⟩, ⟨hs, h.2.2⟩⟩
theorem RS.turnD {w' : World} {ds' : DSt} (h : RS w0 w b kv r sb fr ds s) (hd : DiskAt w' b kv r ds') (hm : Chg (DF b kv r) w w') : RS w0 w' b kv r sb fr ds' s ∧ Chg (SF sb fr b kv r) w w' := by
  have hm' : Chg (SF sb fr b kv r) w w' := hm.mono (fun x hx _ => by simp [SF, hx])
  exact ⟨h.turn hd (h.2.1.chg hm h.2.2.1.1 h.2.2.1.2) hm', hm'⟩
theorem RS.now (h : RS w0 w b kv r sb fr ds s) : Chg [] w0 w := h.1.2.1
end
theorem open_play {w0 w : World} {b r sb fr st : Nat} {kv : Value} {ds : DSt} {s : SSt} {kp : List Sec} (h : RS w0 w b kv r sb fr ds s) (hd : ds = ⟨st, 0, kp, []⟩) (hk : kp.length = 70) :
    Ret Try.prog 18 #[.pointer (some ⟨b, 0, none⟩)] w fun v w' => ∃ sb' fr', v = .tuple #[.pointer (some ⟨sb', 0, none⟩), .int .i64 0] ∧ RS w0 w' b kv r sb' fr' ds (openS ds 26) ∧ Chg [] w w' ∧ w.heap.size ≤ sb' ∧ w.heap.size ≤ fr' := by
  refine (Open2_ok w b r kv ds h.1.1).mono ?_
  rintro v w' ⟨hv, hc⟩
  have hlen : ds.kept.length = 70 := by rw [hd]; exact hk
  have hoff : ds.off = false := by rw [hd]; simp [DSt.off]
  rw [if_neg (by omega), if_neg (by rw [hoff]; decide)] at hv
  unfold newV at hv
  rw [if_pos rfl] at hv
  obtain ⟨sb', fr', rfl, hs, hsb, hfr⟩ := hv
  have hlt := h.1.1.lt
  have k1 := h.1.2.1.1
  refine ⟨sb', fr', rfl, ⟨h.1.chg0 hc, ⟨hs, ⟨fun hx => ?_, fun hx => ?_⟩, by omega, by omega⟩⟩, hc, hsb, hfr⟩
  · have := hlt _ hx; omega
  · have := hlt _ hx; omega
def Aft (k : Nat) (x : StepV) (m nx : List SlM) (f : Int) (ds : DSt) (s : SSt) : Prop :=
  (f = 0 ∧ Went k ds s ∧ Obs s nx ∧ ¬ (x.what ≤ 3 ∧ isSlot x.i = false)) ∨
  (f = 70 ∧ x.what ≤ 3 ∧ isSlot x.i = false ∧ Went k ds s ∧ Obs s m) ∨
  (f = 61 ∧ x.what ≤ 3 ∧ isSlot x.i = true ∧ 0 < x.power ∧ Fell k ds s m nx (m.set x.i.toNat sm0) ∧ (¬ x.what ≤ 2 → nx = m.set x.i.toNat sm0))
theorem SlotsPlay_ok (w : World) (lv : Value) (l : List StepV) (hl : Sl w lv l) (hok : ∀ x ∈ l, okStep w x) :
    Ret Try.prog 7 #[lv] w fun v w' => v = .bool true ∧ Chg [] w w' := by
  obtain ⟨pl, cl, rfl⟩ := hl.form rfl
  refine enter [2] Try.func7 rfl rfl (Nat.le_of_ble_eq_true rfl) ?_
  refine wpE_seq ?_
  refine wpE_region ?_
  refine wpL_value rfl x_assign ?_
  refine wpL_nil (thenE_norm ?_)
  refine wpE_seq ?_
  refine wpE_seq ?_
  refine wpE_region ?_
  refine wpL_call rfl C8 (known_ok w) ?_
  rintro _ w1 ⟨rfl, hc1⟩
  refine wpL_value rfl (x_not rfl) ?_
  refine wpL_nil (thenE_norm ?_)
  refine wpE_cond_f (rfl) ?_
  refine wpE_skip (thenE_norm ?_)
  refine wpE_seq ?_
  refine wpE_seq ?_
  refine wpE_region ?_
  refine wpL_value rfl x_move (wpL_value rfl (x_len_slice rfl Try.underlying40) (wpL_value rfl (x_gtr rfl rfl) ?_))
  refine wpL_nil (thenE_norm ?_)
  refine wpE_cond_d rfl (fun h30 => ?_) (fun h30 => ?_)
  · skip
    refine wpE_seq ?_
    refine wpE_region ?_
    refine wpL_value rfl x_assign ?_
    refine wpL_nil (thenE_norm ?_)
    refine wpE_ret (thenE_ret (fin_ret ?_))
    exact ⟨rfl, hc1⟩
  · skip
    refine wpE_skip (thenE_norm ?_)
    refine wpE_seq ?_
    refine wpE_region ?_
    refine wpL_call rfl C9 (new_run w w1 70 (by decide) hc1) ?_
    rintro _ w2 ⟨b, kv, r, rfl, hd2, hc2, hF2⟩
    refine wpL_value rfl x_assign ?_
    refine wpL_nil (thenE_norm ?_)
    refine wpE_seq ?_
    refine wpE_region ?_
    refine wpL_value rfl x_move ?_
    refine wpL_call rfl C10 (make_run hd2 (by decide) (by decide)) ?_
    rintro _ w3 ⟨sb, fr, rfl, hS3, hc3, hsb, hfr⟩
    refine wpL_value rfl x_move (wpL_value rfl (x_extract rfl rfl) (wpL_value rfl (x_extract rfl rfl) (wpL_value rfl x_assign (wpL_value rfl x_assign ?_))))
    refine wpL_nil (thenE_norm ?_)
    refine wpE_seq ?_
    refine wpE_region ?_
    have hlt3 := hS3.lt
    have hge3 := hS3.ge
    have hR3 : RS w w3 b kv r sb fr (makeD (dsN 70)).1 ss0 := ⟨hS3.1, hS3.2.1⟩
    refine wpL_allocA (List.replicate 24 sm0) I52 rfl rfl rfl ?_
    rintro w4 b6 hn6 ha6 hc6 hl6
    refine wpL_nil (thenE_norm ?_)
    refine wpE_seq ?_
    refine wpE_seq ?_
    refine wpE_region ?_
    refine wpL_value rfl x_move (wpL_value rfl (x_neq rfl rfl) ?_)
    refine wpL_nil (thenE_norm ?_)
    have hb6 : b6 ∉ SF sb fr b kv r := fun h => by have := hlt3 b6 h; omega
    have hw6 : w.heap.size ≤ b6 := by have := hR3.now.1; omega
    refine wpE_cond_df rfl (fun h => h rfl) ?_
    refine wpE_skip (thenE_norm ?_)
    refine wpE_seq ?_
    refine wpE_seq ?_
    refine wpE_region ?_
    refine wpL_value rfl x_assign ?_
    refine wpL_nil (thenE_norm ?_)
    refine wpE_block ?_
    refine wpE_loopF [0, 3, 4, 6, 7] (fun n vs w' => ∃ (i sb fr : Nat) (ds : DSt) (s : SSt) (m : List SlM), vs = [.slice pl l.length cl, .pointer (some ⟨b, 0, none⟩), .pointer (some ⟨sb, 0, none⟩), .pointer (some ⟨b6, 0, none⟩), .int .i64 i] ∧ i + n = l.length ∧ RS w w' b kv r sb fr ds s ∧ Arr w' b6 m ∧ b6 ∉ SF sb fr b kv r ∧ JInv i ds s m) (l.length) ?_ ?_
    · exact ⟨0, sb, fr, _, _, _, rfl, by omega, hR3.chg0 hc6, ha6, hb6, JInv.start.1⟩
    · rintro n vs J w5 ⟨i, sb, fr, ds, s, m, rfl, hi, hR5, ha5, hb6, hJ⟩
      refine wpE_seq ?_
      refine wpE_seq ?_
      refine wpE_region ?_
      refine wpL_value rfl x_move (wpL_value rfl x_move (wpL_value rfl (x_len_slice rfl Try.underlying40) (wpL_value rfl (x_lss rfl rfl) ?_)))
      refine wpL_nil (thenE_norm ?_)
      refine wpE_cond_d rfl (fun hil => ?_) (fun hil => ?_)
      · skip
        refine wpE_skip (thenE_norm ?_)
        refine wpE_seq ?_
        refine wpE_block ?_
        refine wpE_seq ?_
        refine wpE_region ?_
        refine wpL_value rfl x_move (wpL_value rfl x_move ?_)
        have hob1 : ∃ q, n = q + 1 := ⟨n - 1, by omega⟩
        obtain ⟨n, rfl⟩ := hob1
        have hli : l[i]? = some (l.getD i step0) := getD_some (by omega)
        have hob2 : ∃ x, x = l.getD i step0 := ⟨_, rfl⟩
        obtain ⟨x, hx⟩ := hob2
        rw [← hx] at hli
        have hxok := hok x (List.mem_of_getElem? hli)
        obtain ⟨hok1, hok2, hok3, ch, hch⟩ := hxok
        have hl5 := hl.mod0 hR5.now
        refine wpL_ex rfl (x_idx (i) Try.underlying40 I42 rfl (hl5) rfl rfl (by first | rfl | omega) (by omega)) ?_
        rintro _ ⟨bi, oi, rfl, hei, hbi⟩
        refine wpL_value rfl (x_loadA Try.underlying42 rfl I42 rfl (hl5.at hei hli) rfl) ?_
        refine wpL_exw rfl (x_allocB (l := Flat.enc step0) I42 rfl rfl) ?_
        rintro _ w6 ⟨b8, rfl, hn8, hB8, hc8, hl8⟩
        refine wpL_exs rfl (x_storeB (l := Flat.enc x) I42 rfl rfl hB8 rfl rfl (by rw [Flat.len, Flat.len]; decide) (fun q hq => Flat.cell x q hq) (spl_all rfl)) ?_
        rintro w7 ⟨hB7, hc7, hs7⟩
        refine wpL_nil (thenE_norm ?_)
        refine wpE_seq ?_
        refine wpE_seq ?_
        refine wpE_region ?_
        refine wpL_value rfl (x_fieldAddr Try.underlying42 rfl I22 rfl rfl) ?_
        have hc57 : Chg [] w5 w7 := hc8.t1 hc7 hn8
        have hR7 := hR5.chg0 hc57
        have ha7 := ha5.chg0 hc57
        have hlt5 := hR5.lt
        have hb8 : b8 ∉ SF sb fr b kv r := fun h => by have := hlt5 b8 h; omega
        have hw8 : w.heap.size ≤ b8 := by have := hR5.now.1; omega
        have hb68 : b6 ≠ b8 := by have := ha5.lt; omega
        obtain ⟨pc, cc, hcf⟩ := hch.form
        have hB7 : Blk w7 b8 [.int .i64 x.what, .int .i64 x.i, .int .u8 x.kek.toNat, .int .u8 x.key.toNat, .int .i64 x.power, .slice pc ch.length cc] := by rw [← hcf]; exact hB7
        refine wpL_value rfl (x_load Try.underlying22 rfl rfl (hB7.c (off := 5) rfl)) ?_
        refine wpL_value rfl (x_len_slice rfl Try.underlying22) (wpL_value rfl (x_gtr rfl rfl) ?_)
        refine wpL_nil (thenE_norm ?_)
        refine wpE_cond_d rfl (fun hch20 => ?_) (fun hch20 => ?_)
        · skip
          refine wpE_seq ?_
          refine wpE_region ?_
          refine wpL_value rfl x_assign ?_
          refine wpL_nil (thenE_norm ?_)
          refine wpE_ret (thenE_ret (blockE_ret (thenE_ret (thenE_ret (blockE_ret (thenE_ret (fin_ret ?_)))))))
          exact ⟨rfl, hR7.now⟩
        · skip
          refine wpE_skip (thenE_norm ?_)
          have hJp := hJ.puts
          have hJs := hJ.steps
          have hJf := hJ.few
          have hJl := hJ.len
          have hi99 : i + 1 ≤ 100 := by omega
          refine wpE_cutF [0, 3, 4, 6, 7, 8] (fun vs w' => ∃ ds1 : DSt, vs = [.slice pl l.length cl, .pointer (some ⟨b, 0, none⟩), .pointer (some ⟨sb, 0, none⟩), .pointer (some ⟨b6, 0, none⟩), .int .i64 i, .pointer (some ⟨b8, 0, none⟩)] ∧ RS w w' b kv r sb fr ds1 s ∧ Chg (SF sb fr b kv r) w7 w' ∧ Went i ds1 s ∧ ds1.steps ≤ 100 * (i + 1) ∧ (0 < ds1.offAt → 0 < x.power)) ?_ ?_
          · skip
            refine wpE_seq ?_
            refine wpE_region ?_
            refine wpL_value rfl (x_fieldAddr Try.underlying42 rfl I3 rfl rfl) ?_
            refine wpL_value rfl (x_load Try.underlying3 rfl rfl (hB7.c (off := 4) rfl)) ?_
            refine wpL_value rfl (x_gtr rfl rfl) ?_
            refine wpL_nil (thenE_norm ?_)
            refine wpE_cond_d rfl (fun hpw => ?_) (fun hpw => ?_)
            · skip
              refine wpE_draw mixed (.pure 0 (.pure 1 (.pure 2 (.pure 3 (.read 4 (.pure 5 (.pure 6 (.eff 7 [] .nil)))))))) (by kernel_rfl) ?_
              refine wpP_pure rfl rfl rfl (fun _ => x_move) ?_
              refine wpP_pure rfl rfl rfl (fun _ => (x_nil rfl)) ?_
              refine wpP_pure rfl rfl rfl (fun _ => (x_fieldAddr Try.underlying59 rfl I55 rfl rfl)) ?_
              refine wpP_pure rfl rfl rfl (fun _ => (x_fieldAddr Try.underlying42 rfl I3 rfl rfl)) ?_
              refine wpP_rd rfl rfl rfl Try.underlying3 rfl rfl (hB7.c (off := 4) rfl) ?_
              refine wpP_pure rfl rfl rfl (fun _ => (x_rem64 rfl rfl (by omega))) ?_
              refine wpP_pure rfl rfl rfl (fun _ => (x_add64 rfl rfl (by omega))) ?_
              have hmod : 0 ≤ x.power % 10 ∧ x.power % 10 < 10 := by omega
              refine wpP_call rfl rfl rfl C20 (Power_ok _ b r kv ds (x.power % 10 + 1) (hR7.1.1.chg0 (drw _)) hJ.p.fine (by omega)) ?_
              rintro _ w8 ⟨hd8, hc8', hs8⟩
              refine ⟨trivial, ?_⟩
              refine wpP_nil (thenE_norm ?_)
              have hc8' : Chg [b] w7 w8 := hc8'
              have hob3 := hR7.turnD hd8 (DF_sub hc8')
              obtain ⟨hR8, hc8''⟩ := hob3
              exact ⟨_, rfl, hR8, hc8'', (Went.of hJ (by omega)).1, by rw [(hJ.p.power hJ.off (by omega)).2.1]; omega, fun _ => hpw⟩
            · skip
              refine wpE_skip (thenE_norm ?_)
              exact ⟨ds, rfl, hR7, Chg.refl' _ _, (Went.of hJ (n := 0) (by decide)).2, by omega, fun h => by rw [hJ.off] at h; omega⟩
          · rintro vs J w8 ⟨ds1, rfl, hR8, hc8', hW, hst1, hpo⟩
            refine wpE_seq ?_
            refine wpE_region ?_
            refine wpL_value rfl (x_fieldAddr Try.underlying42 rfl I3 rfl rfl) ?_
            have hB8 := hB7.chg hc8' hb8
            have ha8 := ha7.chg hc8' hb6
            refine wpL_value rfl (x_load Try.underlying3 rfl rfl (hB8.c (off := 1) rfl)) ?_
            refine wpL_value rfl x_assign ?_
            refine wpL_nil (thenE_norm ?_)
            refine wpE_cutF [0, 3, 4, 6, 7, 8, 9, 10] (fun vs w' => vs = [.slice pl l.length cl, .pointer (some ⟨b, 0, none⟩), .pointer (some ⟨sb, 0, none⟩), .pointer (some ⟨b6, 0, none⟩), .int .i64 i, .pointer (some ⟨b8, 0, none⟩), .int .i64 x.i, .bool (isSlot x.i)] ∧ w8 = w') ?_ ?_
            · skip
              refine wpE_region ?_
              refine wpL_value rfl x_move ?_
              by_cases hi0 : 0 ≤ x.i
              · skip
                refine wpL_value rfl (x_to (x_geq rfl rfl) (congrArg Value.bool (decide_eq_true (hi0)))) ?_
                refine wpL_value rfl x_move (wpL_yes rfl (wpL_value rfl x_move (wpL_yes rfl (wpL_value rfl (x_lss rfl rfl) (wpL_value rfl (x_pick_t rfl) (wpL_value rfl x_assign ?_))))))
                refine wpL_nil (thenE_norm ?_)
                exact ⟨vs_cons rfl (vs_cons rfl (vs_cons rfl (vs_cons rfl (vs_cons rfl (vs_cons rfl (vs_cons rfl (vs_cons (by unfold isSlot; rw [decide_eq_true hi0, Bool.true_and]; rfl) vs_nil))))))), rfl⟩
              · skip
                refine wpL_value rfl (x_to (x_geq rfl rfl) (congrArg Value.bool (decide_eq_false (hi0)))) ?_
                refine wpL_value rfl x_move (wpL_no rfl rfl (wpL_no rfl rfl (wpL_value rfl (x_pick_f rfl) (wpL_value rfl x_assign ?_))))
                refine wpL_nil (thenE_norm ?_)
                exact ⟨vs_cons rfl (vs_cons rfl (vs_cons rfl (vs_cons rfl (vs_cons rfl (vs_cons rfl (vs_cons rfl (vs_cons (by unfold isSlot; rw [decide_eq_false hi0]; rfl) vs_nil))))))), rfl⟩
            · rintro vs J w9 ⟨rfl, rfl⟩
              refine wpE_seq ?_
              refine wpE_region ?_
              refine wpL_value rfl (x_loadN 24 Try.underlying52 rfl I52 rfl rfl (ha8) (hJl)) ?_
              refine wpL_allocA (List.replicate 24 sm0) I52 rfl rfl rfl ?_
              rintro w9 b11 hn11 ha11 hc9 hl9
              refine wpL_exs rfl (x_storeN 24 I52 rfl (ha11) rfl rfl (rfl) (hJl)) ?_
              rintro w10 ⟨ha10, hc10, hs10⟩
              refine wpL_nil (thenE_norm ?_)
              refine wpE_seq ?_
              refine wpE_region ?_
              refine wpL_value rfl x_assign ?_
              refine wpL_nil (thenE_norm ?_)
              have hc810 : Chg [] w8 w10 := hc9.t1 hc10 hn11
              have hR10 := hR8.chg0 hc810
              have hB10 := hB8.chg0 hc810
              have ha610 := ha8.chg0 hc810
              have hlt8 := hR8.lt
              have hb11 : b11 ∉ SF sb fr b kv r := fun h => by have := hlt8 b11 h; omega
              have hw11 : w.heap.size ≤ b11 := by have := hR8.now.1; omega
              have hb611 : b6 ≠ b11 := by have := ha8.lt; omega
              have hb811 : b8 ≠ b11 := by have := hB8.lt; omega
              have hgeS := hR10.ge
              refine wpE_cutF [0, 3, 4, 6, 7, 8, 9, 10, 11, 12] (fun vs w' => ∃ (f : Int) (nx : List SlM) (ds2 : DSt) (s2 : SSt), vs = [.slice pl l.length cl, .pointer (some ⟨b, 0, none⟩), .pointer (some ⟨sb, 0, none⟩), .pointer (some ⟨b6, 0, none⟩), .int .i64 i, .pointer (some ⟨b8, 0, none⟩), .int .i64 x.i, .bool (isSlot x.i), .pointer (some ⟨b11, 0, none⟩), .int .i64 f] ∧ RS w w' b kv r sb fr ds2 s2 ∧ Arr w' b6 m ∧ Arr w' b11 nx ∧ Blk w' b8 [.int .i64 x.what, .int .i64 x.i, .int .u8 x.kek.toNat, .int .u8 x.key.toNat, .int .i64 x.power, .slice pc ch.length cc] ∧ nx.length = 24 ∧ Aft i x m nx f ds2 s2) ?_ ?_
              · skip
                refine wpE_block ?_
                refine wpE_seq ?_
                refine wpE_region ?_
                refine wpL_value rfl (x_fieldAddr Try.underlying42 rfl I3 rfl rfl) ?_
                refine wpL_value rfl (x_load Try.underlying3 rfl rfl (hB10.c (off := 0) rfl)) ?_
                refine wpL_value rfl (x_leq rfl rfl) (wpL_value rfl x_assign ?_)
                refine wpL_nil (thenE_norm ?_)
                refine wpE_cond_d rfl (fun hw2 => ?_) (fun hw2 => ?_)
                · skip
                  refine wpE_seq ?_
                  refine wpE_draw mixed (.pure 0 (.pure 1 (.pure 2 (.read 3 (.pure 5 (.read 6 (.eff 4 [6] (.eff 7 [] (.eff 8 [] (.pure 9 .nil)))))))))) (by kernel_rfl) ?_
                  refine wpP_pure rfl rfl rfl (fun _ => x_move) ?_
                  refine wpP_pure rfl rfl rfl (fun _ => x_move) ?_
                  refine wpP_pure rfl rfl rfl (fun _ => (x_fieldAddr Try.underlying42 rfl I5 rfl rfl)) ?_
                  refine wpP_rd rfl rfl rfl Try.underlying5 rfl rfl (hB10.c (off := 2) rfl) ?_
                  refine wpP_pure rfl rfl rfl (fun _ => (x_fieldAddr Try.underlying42 rfl I5 rfl rfl)) ?_
                  refine wpP_rd rfl rfl rfl Try.underlying5 rfl rfl (hB10.c (off := 3) rfl) ?_
                  refine wpP_call rfl rfl rfl C13 (key_ok x.kek _) ?_
                  rintro _ w11 ⟨rfl, hc11⟩
                  have hc11 : Chg [] w10 w11 := hc11
                  refine ⟨⟨(hB10.chg0 hc11).c (off := 3) rfl, trivial⟩, ?_⟩
                  refine wpP_call rfl rfl rfl C13 (key_ok x.key _) ?_
                  rintro _ w12 ⟨rfl, hc12⟩
                  refine ⟨trivial, ?_⟩
                  have hR12 := (hR10.chg0 hc11).chg0 hc12
                  refine wpP_call rfl rfl rfl C12 (Put2_ok w12 sb fr b r kv ds1 s x.i (keyN x.kek) (keyN x.key) rfl rfl hR12.2.1 hR12.1.1 hW.p.fine (by omega) hR12.2.2.1) ?_
                  rintro _ w13 ⟨rfl, hd13, hs13, hc13⟩
                  refine ⟨trivial, ?_⟩
                  refine wpP_pure rfl rfl rfl (fun _ => x_assign) ?_
                  refine wpP_nil (thenE_norm ?_)
                  refine wpE_seq ?_
                  refine wpE_region ?_
                  refine wpL_value rfl x_move ?_
                  refine wpL_nil (thenE_norm ?_)
                  have hR13 := hR12.turn hd13 hs13 hc13
                  have hc1013 : Chg (SF sb fr b kv r) w10 w13 := (hc11.tr hc12).tr0' hc13
                  have ha613 := ha610.chg hc1013 hb6
                  have ha1113 := ha10.chg hc1013 hb11
                  have hB13 := hB10.chg hc1013 hb8
                  refine wpE_cond rfl (fun hin => ?_) (fun hin => ?_)
                  · skip
                    refine wpE_region ?_
                    refine wpL_value rfl x_move (wpL_value rfl (x_fieldAddr Try.underlying42 rfl I5 rfl rfl) ?_)
                    have hx0 : 0 ≤ x.i ∧ x.i < 24 := by simpa [isSlot] using hin
                    have hxi : ((x.i.toNat : Nat) : Int) = x.i := by omega
                    have hj : x.i.toNat < 24 := by omega
                    have hput := hW.put hJp hst1 (by omega) hJ.obs hJl hj x.kek x.key
                    rw [hxi] at hput
                    refine wpL_value rfl (x_load Try.underlying5 rfl rfl (hB13.c (off := 2) rfl)) ?_
                    refine wpL_value rfl (x_fieldAddr Try.underlying42 rfl I5 rfl rfl) ?_
                    refine wpL_value rfl (x_load Try.underlying5 rfl rfl (hB13.c (off := 3) rfl)) ?_
                    refine wpL_value rfl (x_buildL Try.underlying51 I51 rfl (zs := [.bool false, .int .u8 0, .int .u8 0]) rfl rfl (fill1 rfl rfl rfl (Nat.le_of_ble_eq_true rfl) (fill1 rfl rfl rfl (Nat.le_of_ble_eq_true rfl) (fill1 rfl rfl rfl (Nat.le_of_ble_eq_true rfl) (fill0 (cs' := [.bool true, .int .u8 x.kek.toNat, .int .u8 x.key.toNat]) rfl))))) ?_
                    refine wpL_value rfl (x_idxA (x.i.toNat) Try.underlying52 I51 rfl rfl (by first | rfl | omega) (by first | assumption | omega)) ?_
                    refine wpL_exs rfl (x_store1 (a := (⟨true, x.kek, x.key⟩ : SlM)) (k := x.i.toNat) I51 rfl rfl rfl rfl (ha1113) rfl (by first | assumption | omega)) ?_
                    rintro w14 ⟨ha14, hc14, hs14⟩
                    refine wpL_nil (blockE_norm (thenE_norm ?_))
                    refine ⟨_, m.set x.i.toNat ⟨true, x.kek, x.key⟩, _, _, rfl, hR13.nb hc14 hb11 hw11, ha613.nb hc14 hb611, ha14, hB13.nb hc14 hb811, (by simp [hJl]), ?_⟩
                    rcases hput with ⟨h1, h2, h3⟩ | ⟨h1, h2, h3⟩
                    · exact .inl ⟨h1, h2, h3, fun h => by rw [hin] at h; cases h.2⟩
                    · exact .inr (.inr ⟨h1, by omega, hin, hpo h2, h3, fun h => absurd hw2 h⟩)
                  · skip
                    refine wpE_skip (blockE_norm (thenE_norm ?_))
                    have hin : isSlot x.i = false := by simpa using hin
                    have hpd : putD ds1 s x.i (keyN x.kek) (keyN x.key) rfl = (ds1, s, 70) := by
                      unfold putD; rw [if_neg (by rw [hW.p.dead]; decide), if_neg (by rw [hin]; decide)]
                    exact ⟨_, m, ds1, s, rfl, (by rw [hpd] at hR13; exact hR13), ha613, ha1113, hB13, hJl, .inr (.inl ⟨by rw [hpd], by omega, hin, hW, hJ.obs⟩)⟩
                · skip
                  refine wpE_seq ?_
                  refine wpE_region ?_
                  refine wpL_value rfl (x_fieldAddr Try.underlying42 rfl I3 rfl rfl) ?_
                  refine wpL_value rfl (x_load Try.underlying3 rfl rfl (hB10.c (off := 0) rfl)) ?_
                  refine wpL_value rfl (x_eql rfl rfl) (wpL_value rfl x_assign ?_)
                  refine wpL_nil (thenE_norm ?_)
                  refine wpE_cond_d rfl (fun hw3 => ?_) (fun hw3 => ?_)
                  · skip
                    refine wpE_seq ?_
                    refine wpE_region ?_
                    refine wpL_value rfl x_move (wpL_value rfl x_move ?_)
                    refine wpL_call rfl C14 (Erase_ok w10 sb fr b r kv ds1 s x.i hR10.2.1 hR10.1.1 hW.p.fine (by omega) hR10.2.2.1) ?_
                    rintro _ w13 ⟨rfl, hd13, hs13, hc13⟩
                    refine wpL_value rfl x_assign ?_
                    refine wpL_nil (thenE_norm ?_)
                    refine wpE_seq ?_
                    refine wpE_region ?_
                    refine wpL_value rfl x_move ?_
                    refine wpL_nil (thenE_norm ?_)
                    have hR13 := hR10.turn hd13 hs13 hc13
                    have ha613 := ha610.chg hc13 hb6
                    have ha1113 := ha10.chg hc13 hb11
                    have hB13 := hB10.chg hc13 hb8
                    refine wpE_cond rfl (fun hin => ?_) (fun hin => ?_)
                    · skip
                      refine wpE_region ?_
                      refine wpL_value rfl x_move ?_
                      have hx0 : 0 ≤ x.i ∧ x.i < 24 := by simpa [isSlot] using hin
                      have hxi : ((x.i.toNat : Nat) : Int) = x.i := by omega
                      have hj : x.i.toNat < 24 := by omega
                      have hput := hW.erase hJp hst1 (by omega) hJ.obs hJl hj
                      rw [hxi] at hput
                      refine wpL_value rfl (x_buildL Try.underlying51 I51 rfl (zs := [.bool false, .int .u8 0, .int .u8 0]) rfl rfl (fill0 (cs' := [.bool false, .int .u8 0, .int .u8 0]) rfl)) ?_
                      refine wpL_value rfl (x_idxA (x.i.toNat) Try.underlying52 I51 rfl rfl (by first | rfl | omega) (by first | assumption | omega)) ?_
                      refine wpL_exs rfl (x_store1 (a := sm0) (k := x.i.toNat) I51 rfl rfl rfl rfl (ha1113) rfl (by first | assumption | omega)) ?_
                      rintro w14 ⟨ha14, hc14, hs14⟩
                      refine wpL_nil (blockE_norm (thenE_norm ?_))
                      refine ⟨_, m.set x.i.toNat sm0, _, _, rfl, hR13.nb hc14 hb11 hw11, ha613.nb hc14 hb611, ha14, hB13.nb hc14 hb811, (by simp [hJl]), ?_⟩
                      rcases hput with ⟨h1, h2, h3⟩ | ⟨h1, h2, h3⟩
                      · exact .inl ⟨h1, h2, h3, fun h => by rw [hin] at h; cases h.2⟩
                      · exact .inr (.inr ⟨h1, by omega, hin, hpo h2, h3, fun _ => rfl⟩)
                    · skip
                      refine wpE_skip (blockE_norm (thenE_norm ?_))
                      have hin : isSlot x.i = false := by simpa using hin
                      have hpd : eraseD ds1 s x.i = (ds1, s, 70) := by
                        unfold eraseD; rw [if_neg (by rw [hW.p.dead]; decide), if_neg (by rw [hin]; decide)]
                      exact ⟨_, m, ds1, s, rfl, (by rw [hpd] at hR13; exact hR13), ha613, ha1113, hB13, hJl, .inr (.inl ⟨by rw [hpd], by omega, hin, hW, hJ.obs⟩)⟩
                  · skip
                    refine wpE_seq ?_
                    refine wpE_region ?_
                    refine wpL_value rfl (x_fieldAddr Try.underlying42 rfl I3 rfl rfl) ?_
                    refine wpL_value rfl (x_load Try.underlying3 rfl rfl (hB10.c (off := 0) rfl)) ?_
                    refine wpL_value rfl (x_eql rfl rfl) (wpL_value rfl x_assign ?_)
                    refine wpL_nil (thenE_norm ?_)
                    have hdone : ∀ {w' : World} (t : Bool), RS w w' b kv r sb fr ds1 s → Arr w' b6 m → Arr w' b11 m → Blk w' b8 [.int .i64 x.what, .int .i64 x.i, .int .u8 x.kek.toNat, .int .u8 x.key.toNat, .int .i64 x.power, .slice pc ch.length cc] →
                        ∃ (f : Int) (nx : List SlM) (ds2 : DSt) (s2 : SSt), [.slice pl l.length cl, .pointer (some ⟨b, 0, none⟩), .pointer (some ⟨sb, 0, none⟩), .pointer (some ⟨b6, 0, none⟩), .int .i64 i, .pointer (some ⟨b8, 0, none⟩), .int .i64 x.i, .bool t, .pointer (some ⟨b11, 0, none⟩), Value.int .i64 0] = [.slice pl l.length cl, .pointer (some ⟨b, 0, none⟩), .pointer (some ⟨sb, 0, none⟩), .pointer (some ⟨b6, 0, none⟩), .int .i64 i, .pointer (some ⟨b8, 0, none⟩), .int .i64 x.i, .bool t, .pointer (some ⟨b11, 0, none⟩), .int .i64 f] ∧ RS w w' b kv r sb fr ds2 s2 ∧ Arr w' b6 m ∧ Arr w' b11 nx ∧ Blk w' b8 [.int .i64 x.what, .int .i64 x.i, .int .u8 x.kek.toNat, .int .u8 x.key.toNat, .int .i64 x.power, .slice pc ch.length cc] ∧ nx.length = 24 ∧ Aft i x m nx f ds2 s2 :=
                      fun t q1 q2 q3 q4 => ⟨0, m, ds1, s, rfl, q1, q2, q3, q4, hJl, .inl ⟨rfl, hW, hJ.obs, fun h => by omega⟩⟩
                    refine wpE_cond_d rfl (fun hw4 => ?_) (fun hw4 => ?_)
                    · skip
                      refine wpE_seq ?_
                      refine wpE_region ?_
                      refine wpL_value rfl x_move (wpL_value rfl x_move (wpL_value rfl (x_fieldAddr Try.underlying42 rfl I5 rfl rfl) ?_))
                      refine wpL_value rfl (x_load Try.underlying5 rfl rfl (hB10.c (off := 2) rfl)) ?_
                      refine wpL_call rfl C13 (key_ok x.kek _) ?_
                      rintro _ w11 ⟨rfl, hc11⟩
                      have hgl := getS_len s x.i (keyN x.kek)
                      have hob4 : ∃ g, g = getS s x.i (keyN x.kek) := ⟨_, rfl⟩
                      obtain ⟨g, hg⟩ := hob4
                      rw [← hg] at hgl
                      refine wpL_call rfl C15 (Get2_ok w11 sb fr b s x.i (keyN x.kek) (hR10.chg0 hc11).2.1 rfl) ?_
                      rintro v12 w12 ⟨hv12, hc12⟩
                      rw [← hg] at hv12
                      subst hv12
                      refine wpL_value rfl x_move (wpL_value rfl (x_extract rfl rfl) (wpL_value rfl (x_extract rfl rfl) ?_))
                      refine wpL_allocA (List.replicate 32 (0 : UInt8)) I33 rfl rfl rfl ?_
                      rintro w13 b13 hn13 ha13 hc13 hl13
                      refine wpL_exs rfl (x_storeN 32 I33 rfl (ha13) rfl rfl (rfl) (hgl)) ?_
                      rintro w14 ⟨ha14, hc14, hs14⟩
                      refine wpL_value rfl x_assign ?_
                      refine wpL_nil (thenE_norm ?_)
                      refine wpE_seq ?_
                      have hc1014 : Chg [] w10 w14 := (hc11.tr hc12).tr (hc13.t1 hc14 hn13)
                      have hR14 := hR10.chg0 hc1014
                      have ha614 := ha610.chg0 hc1014
                      have ha1114 := ha10.chg0 hc1014
                      have hB14 := hB10.chg0 hc1014
                      cases hin : isSlot x.i with
                      | false =>
                        skip
                        have hg2 : g.2 = 70 := by rw [hg]; unfold getS; rw [if_neg (by rw [hin]; decide)]
                        refine wpE_draw mixed (.pure 0 (.pure 1 (.pure 2 (.pure 3 (.pure 4 (.read 5 (.pure 6 (.pure 7 (.pure 8 (.pure 9 (.pure 10 (.read 11 (.pure 12 (.read 13 (.pure 14 (.pure 15 (.pure 16 .nil))))))))))))))))) (by kernel_rfl) ?_
                        refine wpP_pure rfl rfl rfl (fun _ => x_move) ?_
                        refine wpP_pure rfl rfl rfl (fun _ => x_move) ?_
                        refine wpP_no rfl rfl rfl ?_
                        refine wpP_no rfl rfl rfl ?_
                        refine wpP_no rfl rfl rfl ?_
                        refine wpP_nor rfl rfl rfl ?_
                        refine wpP_pure rfl rfl rfl (fun _ => (x_pick_f rfl)) ?_
                        refine wpP_pure rfl rfl rfl (fun _ => x_move) ?_
                        refine wpP_no rfl rfl rfl ?_
                        refine wpP_no rfl rfl rfl ?_
                        refine wpP_no rfl rfl rfl ?_
                        refine wpP_nor rfl rfl rfl ?_
                        refine wpP_no rfl rfl rfl ?_
                        refine wpP_nor rfl rfl rfl ?_
                        refine wpP_no rfl rfl rfl ?_
                        refine wpP_pure rfl rfl rfl (fun _ => (x_pick_f rfl)) ?_
                        refine wpP_pure rfl rfl rfl (fun _ => x_assign) ?_
                        refine wpP_nil (thenE_norm ?_)
                        refine wpE_seq ?_
                        refine wpE_draw mixed (.pure 0 (.pure 1 (.pure 2 (.pure 3 (.pure 4 (.read 5 (.pure 6 (.pure 7 (.pure 8 (.read 9 (.eff 10 [5] (.pure 11 (.pure 12 (.pure 13 (.pure 14 (.pure 15 (.pure 16 (.pure 17 (.pure 18 (.pure 19 (.read 20 (.pure 21 (.pure 22 (.pure 23 (.pure 24 (.pure 25 (.pure 26 (.pure 27 (.pure 28 (.pure 29 (.pure 30 (.pure 31 (.pure 32 (.pure 33 (.pure 34 (.pure 35 .nil)))))))))))))))))))))))))))))))))))) (by kernel_rfl) ?_
                        refine wpP_pure rfl rfl rfl (fun _ => x_move) ?_
                        refine wpP_pure rfl rfl rfl (fun _ => x_move) ?_
                        refine wpP_no rfl rfl rfl ?_
                        refine wpP_no rfl rfl rfl ?_
                        refine wpP_no rfl rfl rfl ?_
                        refine wpP_nor rfl rfl rfl ?_
                        refine wpP_no rfl rfl rfl ?_
                        refine wpP_no rfl rfl rfl ?_
                        refine wpP_no rfl rfl rfl ?_
                        refine wpP_nor rfl rfl rfl ?_
                        refine wpP_noe rfl rfl rfl ?_
                        refine wpP_no rfl rfl rfl ?_
                        refine wpP_no rfl rfl rfl ?_
                        refine wpP_pure rfl rfl rfl (fun _ => (x_pick_f rfl)) ?_
                        refine wpP_pure rfl rfl rfl (fun _ => x_move) ?_
                        refine wpP_pure rfl rfl rfl (fun _ => x_move) ?_
                        refine wpP_pure rfl rfl rfl (fun _ => x_move) ?_
                        refine wpP_no rfl rfl rfl ?_
                        refine wpP_no rfl rfl rfl ?_
                        refine wpP_no rfl rfl rfl ?_
                        refine wpP_nor rfl rfl rfl ?_
                        refine wpP_no rfl rfl rfl ?_
                        refine wpP_pure rfl rfl rfl (fun _ => (x_pick_f rfl)) ?_
                        refine wpP_pure rfl rfl rfl (fun _ => x_move) ?_
                        refine wpP_no rfl rfl rfl ?_
                        refine wpP_no rfl rfl rfl ?_
                        refine wpP_pure rfl rfl rfl (fun _ => (x_pick_f rfl)) ?_
                        refine wpP_pure rfl rfl rfl (fun _ => (x_pick_f rfl)) ?_
                        refine wpP_pure rfl rfl rfl (fun _ => x_move) ?_
                        refine wpP_pure rfl rfl rfl (fun _ => x_move) ?_
                        refine wpP_pure rfl rfl rfl (fun _ => (x_not rfl)) ?_
                        refine wpP_pure rfl rfl rfl (fun _ => x_move) ?_
                        refine wpP_pure rfl rfl rfl (fun _ => x_move) ?_
                        refine wpP_pure rfl rfl rfl (fun _ => (x_neq rfl rfl)) ?_
                        refine wpP_pure rfl rfl rfl (fun _ => (x_pick_t rfl)) ?_
                        refine wpP_pure rfl rfl rfl (fun _ => (x_pick_f rfl)) ?_
                        refine wpP_nil (thenE_norm ?_)
                        refine wpE_cond_df rfl (fun h => h hg2) ?_
                        refine wpE_skip (blockE_norm (thenE_norm ?_))
                        exact hdone false hR14 ha614 ha1114 hB14
                      | true =>
                        skip
                        have hx0 : 0 ≤ x.i ∧ x.i < 24 := by simpa [isSlot] using hin
                        have hj : x.i.toNat < 24 := by omega
                        have hmj : m[x.i.toNat]? = some (m.getD x.i.toNat sm0) := getD_some (by omega)
                        have hob5 : ∃ mj, mj = m.getD x.i.toNat sm0 := ⟨_, rfl⟩
                        obtain ⟨mj, hmd⟩ := hob5
                        rw [← hmd] at hmj
                        have hob := hJ.obs x.i.toNat hj
                        rw [← hmd] at hob
                        have hgx := getS_getX s hj (keyN x.kek)
                        rw [show ((x.i.toNat : Nat) : Int) = x.i by omega] at hgx hob
                        rw [hgx] at hg
                        refine wpE_draw mixed (.pure 0 (.pure 1 (.pure 2 (.pure 3 (.pure 4 (.read 5 (.pure 6 (.pure 7 (.pure 8 (.pure 9 (.pure 10 (.read 11 (.pure 12 (.read 13 (.pure 14 (.pure 15 (.pure 16 .nil))))))))))))))))) (by kernel_rfl) ?_
                        refine wpP_pure rfl rfl rfl (fun _ => x_move) ?_
                        refine wpP_pure rfl rfl rfl (fun _ => x_move) ?_
                        refine wpP_pure rfl rfl rfl (fun _ => x_move) ?_
                        refine wpP_pure rfl rfl rfl (fun _ => x_idxA (x.i.toNat) Try.underlying52 I51 rfl rfl (by first | rfl | omega) (by first | assumption | omega)) ?_
                        refine wpP_pure rfl rfl rfl (fun _ => (x_fieldAddr Try.underlying51 rfl I4 rfl rfl)) ?_
                        cases hinn : mj.inn with
                        | false =>
                          skip
                          have hmj0 : (Flat.enc mj)[0]? = some (.bool false) := by rw [← hinn]; rfl
                          have hg2 : g.2 = 120 := by
                            unfold obsX at hob; rw [if_neg (by rw [hinn]; decide)] at hob
                            rw [hg]; exact (getX_120 _ _ _).2 hob
                          refine wpP_rd rfl rfl rfl Try.underlying4 rfl rfl (ha614.cell hmj (j := 0) rfl (by decide) hmj0) ?_
                          refine wpP_pure rfl rfl rfl (fun _ => (x_pick_t rfl)) ?_
                          refine wpP_pure rfl rfl rfl (fun _ => x_move) ?_
                          refine wpP_no rfl rfl rfl ?_
                          refine wpP_no rfl rfl rfl ?_
                          refine wpP_no rfl rfl rfl ?_
                          refine wpP_nor rfl rfl rfl ?_
                          refine wpP_no rfl rfl rfl ?_
                          refine wpP_nor rfl rfl rfl ?_
                          refine wpP_no rfl rfl rfl ?_
                          refine wpP_pure rfl rfl rfl (fun _ => (x_pick_f rfl)) ?_
                          refine wpP_pure rfl rfl rfl (fun _ => x_assign) ?_
                          refine wpP_nil (thenE_norm ?_)
                          refine wpE_seq ?_
                          refine wpE_draw mixed (.pure 0 (.pure 1 (.pure 2 (.pure 3 (.pure 4 (.read 5 (.pure 6 (.pure 7 (.pure 8 (.read 9 (.eff 10 [5] (.pure 11 (.pure 12 (.pure 13 (.pure 14 (.pure 15 (.pure 16 (.pure 17 (.pure 18 (.pure 19 (.read 20 (.pure 21 (.pure 22 (.pure 23 (.pure 24 (.pure 25 (.pure 26 (.pure 27 (.pure 28 (.pure 29 (.pure 30 (.pure 31 (.pure 32 (.pure 33 (.pure 34 (.pure 35 .nil)))))))))))))))))))))))))))))))))))) (by kernel_rfl) ?_
                          refine wpP_pure rfl rfl rfl (fun _ => x_move) ?_
                          refine wpP_pure rfl rfl rfl (fun _ => x_move) ?_
                          refine wpP_no rfl rfl rfl ?_
                          refine wpP_no rfl rfl rfl ?_
                          refine wpP_no rfl rfl rfl ?_
                          refine wpP_nor rfl rfl rfl ?_
                          refine wpP_no rfl rfl rfl ?_
                          refine wpP_no rfl rfl rfl ?_
                          refine wpP_no rfl rfl rfl ?_
                          refine wpP_nor rfl rfl rfl ?_
                          refine wpP_noe rfl rfl rfl ?_
                          refine wpP_no rfl rfl rfl ?_
                          refine wpP_no rfl rfl rfl ?_
                          refine wpP_pure rfl rfl rfl (fun _ => (x_pick_f rfl)) ?_
                          refine wpP_pure rfl rfl rfl (fun _ => x_move) ?_
                          refine wpP_pure rfl rfl rfl (fun _ => x_move) ?_
                          refine wpP_pure rfl rfl rfl (fun _ => x_move) ?_
                          refine wpP_pure rfl rfl rfl (fun _ => x_move) ?_
                          refine wpP_pure rfl rfl rfl (fun _ => x_idxA (x.i.toNat) Try.underlying52 I51 rfl rfl (by first | rfl | omega) (by first | assumption | omega)) ?_
                          refine wpP_pure rfl rfl rfl (fun _ => (x_fieldAddr Try.underlying51 rfl I4 rfl rfl)) ?_
                          refine wpP_rd rfl rfl rfl Try.underlying4 rfl rfl (ha614.cell hmj (j := 0) rfl (by decide) hmj0) ?_
                          refine wpP_pure rfl rfl rfl (fun _ => (x_not rfl)) ?_
                          refine wpP_pure rfl rfl rfl (fun _ => (x_pick_t rfl)) ?_
                          refine wpP_pure rfl rfl rfl (fun _ => x_move) ?_
                          refine wpP_pure rfl rfl rfl (fun _ => x_move) ?_
                          refine wpP_pure rfl rfl rfl (fun _ => x_to (x_neq rfl rfl) (congrArg Value.bool (decide_eq_false (fun h => h hg2)))) ?_
                          refine wpP_pure rfl rfl rfl (fun _ => (x_pick_t rfl)) ?_
                          refine wpP_pure rfl rfl rfl (fun _ => (x_pick_f rfl)) ?_
                          refine wpP_pure rfl rfl rfl (fun _ => x_move) ?_
                          refine wpP_pure rfl rfl rfl (fun _ => x_move) ?_
                          refine wpP_pure rfl rfl rfl (fun _ => (x_not rfl)) ?_
                          refine wpP_pure rfl rfl rfl (fun _ => x_move) ?_
                          refine wpP_no rfl rfl rfl ?_
                          refine wpP_no rfl rfl rfl ?_
                          refine wpP_pure rfl rfl rfl (fun _ => (x_pick_f rfl)) ?_
                          refine wpP_pure rfl rfl rfl (fun _ => (x_pick_f rfl)) ?_
                          refine wpP_nil (thenE_norm ?_)
                          refine wpE_cond_f (rfl) ?_
                          refine wpE_skip (blockE_norm (thenE_norm ?_))
                          exact hdone true hR14 ha614 ha1114 hB14
                        | true =>
                          skip
                          have hmj0 : (Flat.enc mj)[0]? = some (.bool true) := by rw [← hinn]; rfl
                          refine wpP_rd rfl rfl rfl Try.underlying4 rfl rfl (ha614.cell hmj (j := 0) rfl (by decide) hmj0) ?_
                          refine wpP_pure rfl rfl rfl (fun _ => (x_pick_t rfl)) ?_
                          refine wpP_pure rfl rfl rfl (fun _ => x_move) ?_
                          refine wpP_pure rfl rfl rfl (fun _ => x_move) ?_
                          refine wpP_pure rfl rfl rfl (fun _ => x_idxA (x.i.toNat) Try.underlying52 I51 rfl rfl (by first | rfl | omega) (by first | assumption | omega)) ?_
                          refine wpP_pure rfl rfl rfl (fun _ => (x_fieldAddr Try.underlying51 rfl I5 rfl rfl)) ?_
                          refine wpP_rd rfl rfl rfl Try.underlying5 rfl rfl (ha614.cell hmj (j := 1) rfl (by decide) rfl) ?_
                          refine wpP_pure rfl rfl rfl (fun _ => (x_fieldAddr Try.underlying42 rfl I5 rfl rfl)) ?_
                          refine wpP_rd rfl rfl rfl Try.underlying5 rfl rfl (hB14.c (off := 2) rfl) ?_
                          by_cases hkk : mj.kek = x.kek
                          · skip
                            have hge : g = (keyN mj.key, 0) := by
                              unfold obsX at hob; rw [if_pos hinn, hkk] at hob
                              rw [hg]; exact hob
                            subst hge
                            refine wpP_pure rfl rfl rfl (fun _ => x_to (x_eql8u rfl rfl) (congrArg Value.bool (decide_eq_true (hkk)))) ?_
                            refine wpP_pure rfl rfl rfl (fun _ => (x_pick_t rfl)) ?_
                            refine wpP_pure rfl rfl rfl (fun _ => x_assign) ?_
                            refine wpP_nil (thenE_norm ?_)
                            refine wpE_seq ?_
                            refine wpE_draw mixed (.pure 0 (.pure 1 (.pure 2 (.pure 3 (.pure 4 (.read 5 (.pure 6 (.pure 7 (.pure 8 (.read 9 (.eff 10 [5] (.pure 11 (.pure 12 (.pure 13 (.pure 14 (.pure 15 (.pure 16 (.pure 17 (.pure 18 (.pure 19 (.read 20 (.pure 21 (.pure 22 (.pure 23 (.pure 24 (.pure 25 (.pure 26 (.pure 27 (.pure 28 (.pure 29 (.pure 30 (.pure 31 (.pure 32 (.pure 33 (.pure 34 (.pure 35 .nil)))))))))))))))))))))))))))))))))))) (by kernel_rfl) ?_
                            refine wpP_pure rfl rfl rfl (fun _ => x_move) ?_
                            refine wpP_pure rfl rfl rfl (fun _ => x_move) ?_
                            refine wpP_pure rfl rfl rfl (fun _ => x_move) ?_
                            refine wpP_pure rfl rfl rfl (fun _ => x_to (x_neq rfl rfl) (congrArg Value.bool (decide_eq_false (fun h => h rfl)))) ?_
                            refine wpP_pure rfl rfl rfl (fun _ => x_move) ?_
                            refine wpP_rdA 32 rfl rfl rfl Try.underlying33 rfl I33 rfl rfl (ha14) (rfl) ?_
                            refine wpP_pure rfl rfl rfl (fun _ => x_move) ?_
                            refine wpP_pure rfl rfl rfl (fun _ => x_idxA (x.i.toNat) Try.underlying52 I51 rfl rfl (by first | rfl | omega) (by first | assumption | omega)) ?_
                            refine wpP_pure rfl rfl rfl (fun _ => (x_fieldAddr Try.underlying51 rfl I5 rfl rfl)) ?_
                            refine wpP_rd rfl rfl rfl Try.underlying5 rfl rfl (ha614.cell hmj (j := 2) rfl (by decide) rfl) ?_
                            refine wpP_call rfl rfl rfl C13 (key_ok mj.key _) ?_
                            rintro _ w15 ⟨rfl, hc15⟩
                            have hc15 : Chg [] w14 w15 := hc15
                            refine ⟨⟨ha14.chg0 hc15, trivial⟩, ?_⟩
                            refine wpP_pure rfl rfl rfl (fun _ => x_to (x_neArr Try.underlying33 I5 rfl Try.underlying5 (by kernel_rfl) rfl rfl (rfl) (rfl)) (congrArg Value.bool (decide_eq_false (fun h => h rfl)))) ?_
                            refine wpP_pure rfl rfl rfl (fun _ => (x_pick_f rfl)) ?_
                            refine wpP_pure rfl rfl rfl (fun _ => (x_pick_t rfl)) ?_
                            refine wpP_pure rfl rfl rfl (fun _ => x_move) ?_
                            refine wpP_pure rfl rfl rfl (fun _ => x_move) ?_
                            refine wpP_pure rfl rfl rfl (fun _ => x_move) ?_
                            refine wpP_pure rfl rfl rfl (fun _ => x_move) ?_
                            refine wpP_pure rfl rfl rfl (fun _ => x_idxA (x.i.toNat) Try.underlying52 I51 rfl rfl (by first | rfl | omega) (by first | assumption | omega)) ?_
                            refine wpP_pure rfl rfl rfl (fun _ => (x_fieldAddr Try.underlying51 rfl I4 rfl rfl)) ?_
                            refine wpP_rd rfl rfl rfl Try.underlying4 rfl rfl ((ha614.chg0 hc15).cell hmj (j := 0) rfl (by decide) hmj0) ?_
                            refine wpP_pure rfl rfl rfl (fun _ => (x_not rfl)) ?_
                            refine wpP_pure rfl rfl rfl (fun _ => (x_pick_t rfl)) ?_
                            refine wpP_pure rfl rfl rfl (fun _ => x_move) ?_
                            refine wpP_no rfl rfl rfl ?_
                            refine wpP_no rfl rfl rfl ?_
                            refine wpP_pure rfl rfl rfl (fun _ => (x_pick_f rfl)) ?_
                            refine wpP_pure rfl rfl rfl (fun _ => (x_pick_f rfl)) ?_
                            refine wpP_pure rfl rfl rfl (fun _ => x_move) ?_
                            refine wpP_pure rfl rfl rfl (fun _ => x_move) ?_
                            refine wpP_pure rfl rfl rfl (fun _ => (x_not rfl)) ?_
                            refine wpP_pure rfl rfl rfl (fun _ => x_move) ?_
                            refine wpP_no rfl rfl rfl ?_
                            refine wpP_no rfl rfl rfl ?_
                            refine wpP_pure rfl rfl rfl (fun _ => (x_pick_f rfl)) ?_
                            refine wpP_pure rfl rfl rfl (fun _ => (x_pick_f rfl)) ?_
                            refine wpP_nil (thenE_norm ?_)
                            refine wpE_cond_f (rfl) ?_
                            refine wpE_skip (blockE_norm (thenE_norm ?_))
                            exact hdone true (hR14.chg0 hc15) (ha614.chg0 hc15) (ha1114.chg0 hc15) (hB14.chg0 hc15)
                          · skip
                            refine wpP_pure rfl rfl rfl (fun _ => x_to (x_eql8u rfl rfl) (congrArg Value.bool (decide_eq_false (hkk)))) ?_
                            refine wpP_pure rfl rfl rfl (fun _ => (x_pick_t rfl)) ?_
                            refine wpP_pure rfl rfl rfl (fun _ => x_assign) ?_
                            refine wpP_nil (thenE_norm ?_)
                            refine wpE_seq ?_
                            refine wpE_draw mixed (.pure 0 (.pure 1 (.pure 2 (.pure 3 (.pure 4 (.read 5 (.pure 6 (.pure 7 (.pure 8 (.read 9 (.eff 10 [5] (.pure 11 (.pure 12 (.pure 13 (.pure 14 (.pure 15 (.pure 16 (.pure 17 (.pure 18 (.pure 19 (.read 20 (.pure 21 (.pure 22 (.pure 23 (.pure 24 (.pure 25 (.pure 26 (.pure 27 (.pure 28 (.pure 29 (.pure 30 (.pure 31 (.pure 32 (.pure 33 (.pure 34 (.pure 35 .nil)))))))))))))))))))))))))))))))))))) (by kernel_rfl) ?_
                            refine wpP_pure rfl rfl rfl (fun _ => x_move) ?_
                            refine wpP_pure rfl rfl rfl (fun _ => x_move) ?_
                            refine wpP_no rfl rfl rfl ?_
                            refine wpP_no rfl rfl rfl ?_
                            refine wpP_no rfl rfl rfl ?_
                            refine wpP_nor rfl rfl rfl ?_
                            refine wpP_no rfl rfl rfl ?_
                            refine wpP_no rfl rfl rfl ?_
                            refine wpP_no rfl rfl rfl ?_
                            refine wpP_nor rfl rfl rfl ?_
                            refine wpP_noe rfl rfl rfl ?_
                            refine wpP_no rfl rfl rfl ?_
                            refine wpP_no rfl rfl rfl ?_
                            refine wpP_pure rfl rfl rfl (fun _ => (x_pick_f rfl)) ?_
                            refine wpP_pure rfl rfl rfl (fun _ => x_move) ?_
                            refine wpP_pure rfl rfl rfl (fun _ => x_move) ?_
                            refine wpP_pure rfl rfl rfl (fun _ => x_move) ?_
                            refine wpP_pure rfl rfl rfl (fun _ => x_move) ?_
                            refine wpP_pure rfl rfl rfl (fun _ => x_idxA (x.i.toNat) Try.underlying52 I51 rfl rfl (by first | rfl | omega) (by first | assumption | omega)) ?_
                            refine wpP_pure rfl rfl rfl (fun _ => (x_fieldAddr Try.underlying51 rfl I4 rfl rfl)) ?_
                            refine wpP_rd rfl rfl rfl Try.underlying4 rfl rfl (ha614.cell hmj (j := 0) rfl (by decide) hmj0) ?_
                            refine wpP_pure rfl rfl rfl (fun _ => (x_not rfl)) ?_
                            refine wpP_pure rfl rfl rfl (fun _ => (x_pick_t rfl)) ?_
                            refine wpP_pure rfl rfl rfl (fun _ => x_move) ?_
                            refine wpP_no rfl rfl rfl ?_
                            refine wpP_no rfl rfl rfl ?_
                            refine wpP_pure rfl rfl rfl (fun _ => (x_pick_f rfl)) ?_
                            refine wpP_pure rfl rfl rfl (fun _ => (x_pick_f rfl)) ?_
                            refine wpP_pure rfl rfl rfl (fun _ => x_move) ?_
                            refine wpP_pure rfl rfl rfl (fun _ => x_move) ?_
                            refine wpP_pure rfl rfl rfl (fun _ => (x_not rfl)) ?_
                            refine wpP_pure rfl rfl rfl (fun _ => x_move) ?_
                            refine wpP_no rfl rfl rfl ?_
                            refine wpP_no rfl rfl rfl ?_
                            refine wpP_pure rfl rfl rfl (fun _ => (x_pick_f rfl)) ?_
                            refine wpP_pure rfl rfl rfl (fun _ => (x_pick_f rfl)) ?_
                            refine wpP_nil (thenE_norm ?_)
                            refine wpE_cond_f (rfl) ?_
                            refine wpE_skip (blockE_norm (thenE_norm ?_))
                            exact hdone true hR14 ha614 ha1114 hB14
                    · skip
                      refine wpE_skip (blockE_norm (thenE_norm ?_))
                      exact hdone _ hR10 ha610 ha10 hB10
              · rintro vs J w15 ⟨f, nx, ds2, s2, rfl, hR15, ha615, ha1115, hB15, hnl, hA⟩
                refine wpE_cutF [0, 3, 4, 6, 7, 8, 9, 10, 11, 12] (fun vs w' => ∃ nx2 : List SlM, vs = [.slice pl l.length cl, .pointer (some ⟨b, 0, none⟩), .pointer (some ⟨sb, 0, none⟩), .pointer (some ⟨b6, 0, none⟩), .int .i64 i, .pointer (some ⟨b8, 0, none⟩), .int .i64 x.i, .bool (isSlot x.i), .pointer (some ⟨b11, 0, none⟩), .int .i64 f] ∧ RS w w' b kv r sb fr ds2 s2 ∧ Arr w' b6 m ∧ Arr w' b11 nx2 ∧ Blk w' b8 [.int .i64 x.what, .int .i64 x.i, .int .u8 x.kek.toNat, .int .u8 x.key.toNat, .int .i64 x.power, .slice pc ch.length cc] ∧ nx2.length = 24 ∧ ((f = 0 ∧ Went i ds2 s2 ∧ Obs s2 nx2) ∨ (f = 70 ∧ Went i ds2 s2 ∧ Obs s2 m) ∨ (f = 61 ∧ x.what ≤ 3 ∧ isSlot x.i = true ∧ Fell i ds2 s2 m nx2 (m.set x.i.toNat sm0) ∧ (¬ x.what ≤ 2 → nx2 = m.set x.i.toNat sm0)))) ?_ ?_
                · skip
                  refine wpE_seq ?_
                  refine wpE_region ?_
                  refine wpL_value rfl (x_fieldAddr Try.underlying42 rfl I3 rfl rfl) ?_
                  refine wpL_value rfl (x_load Try.underlying3 rfl rfl (hB15.c (off := 0) rfl)) ?_
                  have hlt15 := hR15.lt
                  by_cases h3 : x.what ≤ 3 ∧ isSlot x.i = false
                  · obtain ⟨h3a, h3b⟩ := h3
                    have hf : f = 70 ∧ Went i ds2 s2 ∧ Obs s2 m := by
                      rcases hA with ⟨_, _, _, h⟩ | ⟨h, _, _, h2, h4⟩ | ⟨_, _, h, _⟩
                      · exact absurd ⟨h3a, h3b⟩ h
                      · exact ⟨h, h2, h4⟩
                      · rw [h3b] at h; cases h
                    refine wpL_value rfl (x_to (x_leq rfl rfl) (congrArg Value.bool (decide_eq_true (h3a)))) ?_
                    refine wpL_value rfl x_move (wpL_yes rfl (wpL_value rfl x_move (wpL_yes rfl (wpL_value rfl (x_not rfl) (wpL_value rfl (x_pick_t rfl) ?_)))))
                    refine wpL_nil (thenE_norm ?_)
                    refine wpE_cond_t (congrArg (fun t => Value.bool (!t)) h3b) ?_
                    refine wpE_seq ?_
                    refine wpE_seq ?_
                    refine wpE_region ?_
                    refine wpL_value rfl x_move ?_
                    refine wpL_value rfl (x_to (x_neq rfl rfl) (congrArg Value.bool (decide_eq_false (fun h => h hf.1)))) ?_
                    refine wpL_value rfl x_move (wpL_no rfl rfl (wpL_no rfl rfl (wpL_value rfl (x_pick_f rfl) ?_)))
                    refine wpL_nil (thenE_norm ?_)
                    refine wpE_cond_f (rfl) ?_
                    refine wpE_skip (thenE_norm ?_)
                    refine wpE_region ?_
                    refine wpL_value rfl (x_loadN 24 Try.underlying52 rfl I52 rfl rfl (ha615) (hJl)) ?_
                    refine wpL_exs rfl (x_storeN 24 I52 rfl (ha1115) rfl rfl (hnl) (hJl)) ?_
                    rintro w16 ⟨ha16, hc16, hs16⟩
                    refine wpL_nil (thenE_norm ?_)
                    exact ⟨m, rfl, hR15.nb hc16 hb11 hw11, ha615.nb hc16 hb611, ha16, hB15.nb hc16 hb811, hJl, .inr (.inl hf)⟩
                  · skip
                    have hA2 : ((f = 0 ∧ Went i ds2 s2 ∧ Obs s2 nx) ∨ (f = 70 ∧ Went i ds2 s2 ∧ Obs s2 m) ∨ (f = 61 ∧ x.what ≤ 3 ∧ isSlot x.i = true ∧ Fell i ds2 s2 m nx (m.set x.i.toNat sm0) ∧ (¬ x.what ≤ 2 → nx = m.set x.i.toNat sm0))) := by
                      rcases hA with ⟨h, h2, h4, _⟩ | ⟨_, h, h2, _⟩ | ⟨h, h2, h4, _, h5, h6⟩
                      · exact .inl ⟨h, h2, h4⟩
                      · exact absurd ⟨h, h2⟩ h3
                      · exact .inr (.inr ⟨h, h2, h4, h5, h6⟩)
                    have hpw : f = 61 → 0 < x.power := by
                      rcases hA with ⟨h, _⟩ | ⟨h, _⟩ | ⟨_, _, _, h, _⟩
                      · intro h'; rw [h] at h'; cases h'
                      · intro h'; rw [h] at h'; cases h'
                      · exact fun _ => h
                    by_cases h3a : x.what ≤ 3
                    · skip
                      have hin : isSlot x.i = true := by
                        cases h : isSlot x.i with
                        | true => rfl
                        | false => exact absurd ⟨h3a, h⟩ h3
                      refine wpL_value rfl (x_to (x_leq rfl rfl) (congrArg Value.bool (decide_eq_true (h3a)))) ?_
                      refine wpL_value rfl x_move (wpL_yes rfl (wpL_value rfl x_move (wpL_yes rfl (wpL_value rfl (x_not rfl) (wpL_value rfl (x_pick_t rfl) ?_)))))
                      refine wpL_nil (thenE_norm ?_)
                      refine wpE_cond_f (congrArg (fun t => Value.bool (!t)) hin) ?_
                      refine wpE_seq ?_
                      refine wpE_region ?_
                      refine wpL_value rfl x_move ?_
                      by_cases hf0 : f = 0
                      · skip
                        refine wpL_value rfl (x_to (x_neq rfl rfl) (congrArg Value.bool (decide_eq_false (fun h => h hf0)))) ?_
                        refine wpL_value rfl x_move (wpL_no rfl rfl (wpL_no rfl rfl (wpL_no rfl rfl (wpL_no rfl rfl (wpL_no rfl rfl (wpL_no rfl rfl (wpL_no rfl rfl (wpL_value rfl (x_pick_f rfl) ?_))))))))
                        refine wpL_nil (thenE_norm ?_)
                        refine wpE_cond_f (rfl) ?_
                        refine wpE_skip (thenE_norm ?_)
                        exact ⟨nx, rfl, hR15, ha615, ha1115, hB15, hnl, hA2⟩
                      · skip
                        have hf61 : f = 61 ∨ f = 70 := by
                          rcases hA2 with ⟨h, _⟩ | ⟨h, _⟩ | ⟨h, _⟩
                          · exact absurd h hf0
                          · exact .inr h
                          · exact .inl h
                        have hf61 : f = 61 := by
                          rcases hA with ⟨h, _⟩ | ⟨_, h, h2, _⟩ | ⟨h, _⟩
                          · exact absurd h hf0
                          · exact absurd ⟨h, h2⟩ h3
                          · exact h
                        refine wpL_value rfl (x_to (x_neq rfl rfl) (congrArg Value.bool (decide_eq_true (hf0)))) ?_
                        refine wpL_value rfl x_move (wpL_yes rfl (wpL_value rfl x_move (wpL_yes rfl ?_)))
                        refine wpL_value rfl (x_to (x_neq rfl rfl) (congrArg Value.bool (decide_eq_false (fun h => h hf61)))) ?_
                        refine wpL_yes rfl (wpL_value rfl x_move (wpL_yes rfl (wpL_value rfl (x_fieldAddr Try.underlying42 rfl I3 rfl rfl) (wpL_yes rfl ?_))))
                        refine wpL_value rfl (x_load Try.underlying3 rfl rfl (hB15.c (off := 4) rfl)) ?_
                        refine wpL_yes rfl ?_
                        refine wpL_value rfl (x_to (x_leq rfl rfl) (congrArg Value.bool (decide_eq_false (fun h => by have := hpw hf61; omega)))) ?_
                        refine wpL_yes rfl (wpL_value rfl (x_pick_f rfl) (wpL_value rfl (x_pick_t rfl) ?_))
                        refine wpL_nil (thenE_norm ?_)
                        refine wpE_cond_f (rfl) ?_
                        refine wpE_skip (thenE_norm ?_)
                        exact ⟨nx, rfl, hR15, ha615, ha1115, hB15, hnl, hA2⟩
                    · skip
                      refine wpL_value rfl (x_to (x_leq rfl rfl) (congrArg Value.bool (decide_eq_false (h3a)))) ?_
                      refine wpL_value rfl x_move (wpL_no rfl rfl (wpL_no rfl rfl (wpL_value rfl (x_pick_f rfl) ?_)))
                      refine wpL_nil (thenE_norm ?_)
                      refine wpE_cond_f (rfl) ?_
                      refine wpE_seq ?_
                      refine wpE_region ?_
                      refine wpL_value rfl x_move ?_
                      by_cases hf0 : f = 0
                      · skip
                        refine wpL_value rfl (x_to (x_neq rfl rfl) (congrArg Value.bool (decide_eq_false (fun h => h hf0)))) ?_
                        refine wpL_value rfl x_move (wpL_no rfl rfl (wpL_no rfl rfl (wpL_no rfl rfl (wpL_no rfl rfl (wpL_no rfl rfl (wpL_no rfl rfl (wpL_no rfl rfl (wpL_value rfl (x_pick_f rfl) ?_))))))))
                        refine wpL_nil (thenE_norm ?_)
                        refine wpE_cond_f (rfl) ?_
                        refine wpE_skip (thenE_norm ?_)
                        exact ⟨nx, rfl, hR15, ha615, ha1115, hB15, hnl, hA2⟩
                      · skip
                        have hf61 : f = 61 ∨ f = 70 := by
                          rcases hA2 with ⟨h, _⟩ | ⟨h, _⟩ | ⟨h, _⟩
                          · exact absurd h hf0
                          · exact .inr h
                          · exact .inl h
                        have hf61 : f = 61 := by
                          rcases hA with ⟨h, _⟩ | ⟨_, h, h2, _⟩ | ⟨h, _⟩
                          · exact absurd h hf0
                          · exact absurd ⟨h, h2⟩ h3
                          · exact h
                        refine wpL_value rfl (x_to (x_neq rfl rfl) (congrArg Value.bool (decide_eq_true (hf0)))) ?_
                        refine wpL_value rfl x_move (wpL_yes rfl (wpL_value rfl x_move (wpL_yes rfl ?_)))
                        refine wpL_value rfl (x_to (x_neq rfl rfl) (congrArg Value.bool (decide_eq_false (fun h => h hf61)))) ?_
                        refine wpL_yes rfl (wpL_value rfl x_move (wpL_yes rfl (wpL_value rfl (x_fieldAddr Try.underlying42 rfl I3 rfl rfl) (wpL_yes rfl ?_))))
                        refine wpL_value rfl (x_load Try.underlying3 rfl rfl (hB15.c (off := 4) rfl)) ?_
                        refine wpL_yes rfl ?_
                        refine wpL_value rfl (x_to (x_leq rfl rfl) (congrArg Value.bool (decide_eq_false (fun h => by have := hpw hf61; omega)))) ?_
                        refine wpL_yes rfl (wpL_value rfl (x_pick_f rfl) (wpL_value rfl (x_pick_t rfl) ?_))
                        refine wpL_nil (thenE_norm ?_)
                        refine wpE_cond_f (rfl) ?_
                        refine wpE_skip (thenE_norm ?_)
                        exact ⟨nx, rfl, hR15, ha615, ha1115, hB15, hnl, hA2⟩
                · rintro vs J w16 ⟨nx2, rfl, hR16, ha616, ha1116, hB16, hnl2, hA2⟩
                  refine wpE_cutF [0, 3, 4, 6, 7, 8, 9, 10, 11, 12] (fun vs w' => ∃ m2 : List SlM, vs = [.slice pl l.length cl, .pointer (some ⟨b, 0, none⟩), .pointer (some ⟨sb, 0, none⟩), .pointer (some ⟨b6, 0, none⟩), .int .i64 i, .pointer (some ⟨b8, 0, none⟩), .int .i64 x.i, .bool (isSlot x.i), .pointer (some ⟨b11, 0, none⟩), .int .i64 f] ∧ RS w w' b kv r sb fr ds2 s2 ∧ Arr w' b6 m2 ∧ Arr w' b11 nx2 ∧ Blk w' b8 [.int .i64 x.what, .int .i64 x.i, .int .u8 x.kek.toNat, .int .u8 x.key.toNat, .int .i64 x.power, .slice pc ch.length cc] ∧ m2.length = 24 ∧ (((f = 0 ∨ f = 70) ∧ Went i ds2 s2 ∧ Obs s2 m2) ∨ (f = 61 ∧ x.what ≤ 3 ∧ isSlot x.i = true ∧ Fell i ds2 s2 m2 nx2 (m2.set x.i.toNat sm0) ∧ (¬ x.what ≤ 2 → nx2 = m2.set x.i.toNat sm0)))) ?_ ?_
                  · skip
                    refine wpE_seq ?_
                    refine wpE_region ?_
                    refine wpL_value rfl x_move (wpL_value rfl (x_eql rfl rfl) ?_)
                    refine wpL_nil (thenE_norm ?_)
                    refine wpE_cond_d rfl (fun hf0 => ?_) (fun hf0 => ?_)
                    · skip
                      refine wpE_region ?_
                      refine wpL_value rfl (x_loadN 24 Try.underlying52 rfl I52 rfl rfl (ha1116) (hnl2)) ?_
                      refine wpL_exs rfl (x_storeN 24 I52 rfl (ha616) rfl rfl (hJl) (hnl2)) ?_
                      rintro w17 ⟨ha17, hc17, hs17⟩
                      refine wpL_nil (thenE_norm ?_)
                      refine ⟨nx2, rfl, hR16.nb hc17 hb6 hw6, ha17, ha1116.nb hc17 (Ne.symm hb611), hB16.nb hc17 (Ne.symm hb68), hnl2, .inl ?_⟩
                      rcases hA2 with ⟨h, h2, h3⟩ | ⟨h, _⟩ | ⟨h, _⟩
                      · exact ⟨.inl h, h2, h3⟩
                      · rw [h] at hf0; exact absurd hf0 (by decide)
                      · rw [h] at hf0; exact absurd hf0 (by decide)
                    · skip
                      refine wpE_skip (thenE_norm ?_)
                      refine ⟨m, rfl, hR16, ha616, ha1116, hB16, hJl, ?_⟩
                      rcases hA2 with ⟨h, h2, h3⟩ | ⟨h, h2⟩ | h
                      · exact absurd h hf0
                      · exact .inl ⟨.inr h, h2⟩
                      · exact .inr h
                  · rintro vs J w17 ⟨m2, rfl, hR17, ha617, ha1117, hB17, hml, hA3⟩
                    refine wpE_cutF [0, 3, 4, 6, 7, 8, 9, 10, 11, 12] (fun vs w' => vs = [.slice pl l.length cl, .pointer (some ⟨b, 0, none⟩), .pointer (some ⟨sb, 0, none⟩), .pointer (some ⟨b6, 0, none⟩), .int .i64 i, .pointer (some ⟨b8, 0, none⟩), .int .i64 x.i, .bool (isSlot x.i), .pointer (some ⟨b11, 0, none⟩), .int .i64 f] ∧ RS w w' b kv r sb fr ds2 s2 ∧ Arr w' b6 m2 ∧ Arr w' b11 nx2 ∧ Blk w' b8 [.int .i64 x.what, .int .i64 x.i, .int .u8 x.kek.toNat, .int .u8 x.key.toNat, .int .i64 x.power, .slice pc ch.length cc]) ?_ ?_
                    · skip
                      refine wpE_seq ?_
                      refine wpE_region ?_
                      refine wpL_value rfl x_move ?_
                      by_cases hf61 : f = 61
                      · skip
                        have hFe : Fell i ds2 s2 m2 nx2 (m2.set x.i.toNat sm0) := by
                          rcases hA3 with ⟨h, _⟩ | ⟨_, _, _, h, _⟩
                          · rcases h with h | h <;> rw [h] at hf61 <;> exact absurd hf61 (by decide)
                          · exact h
                        have hfs := hFe.steps
                        refine wpL_value rfl (x_to (x_eql rfl rfl) (congrArg Value.bool (decide_eq_true (hf61)))) ?_
                        refine wpL_value rfl x_move (wpL_yes rfl (wpL_value rfl x_move (wpL_yes rfl ?_)))
                        refine wpL_call rfl C21 (Dead_ok w17 sb fr b s2 hR17.2.1) ?_
                        rintro v18 w18 ⟨hv18, hh18⟩
                        rw [hFe.dead] at hv18
                        subst hv18
                        have hR18 := hR17.chg0 (Chg.heap hh18)
                        refine wpL_yes rfl (wpL_value rfl (x_not rfl) (wpL_yes rfl (wpL_value rfl x_move (wpL_yes rfl (wpL_value rfl x_move (wpL_yes rfl ?_))))))
                        refine wpL_call rfl C13 (key_ok 0 w18) ?_
                        rintro _ w19 ⟨rfl, hc19⟩
                        refine wpL_yes rfl ?_
                        refine wpL_call rfl C13 (key_ok 0 w19) ?_
                        rintro _ w20 ⟨rfl, hc20⟩
                        refine wpL_yes rfl ?_
                        have hR20 := (hR18.chg0 hc19).chg0 hc20
                        have hpd : putD ds2 s2 0 (keyN 0) (keyN 0) rfl = (ds2, s2, 260) := by unfold putD; rw [if_pos hFe.dead]
                        refine wpL_call rfl C12 (Put2_ok w20 sb fr b r kv ds2 s2 0 (keyN 0) (keyN 0) rfl rfl hR20.2.1 hR20.1.1 hFe.fine (by omega) hR20.2.2.1) ?_
                        rintro v21 w21 ⟨hv21, hd21, hs21, hc21⟩
                        rw [hpd] at hv21 hd21 hs21
                        subst hv21
                        have hR21 := hR20.turn hd21 hs21 hc21
                        have hc1721 : Chg (SF sb fr b kv r) w17 w21 := (((Chg.heap (S := []) hh18).tr hc19).tr hc20).tr0' hc21
                        refine wpL_yes rfl (wpL_value rfl (x_neq rfl rfl) (wpL_yes rfl (wpL_value rfl (x_pick_f rfl) (wpL_value rfl (x_pick_t rfl) ?_))))
                        refine wpL_nil (thenE_norm ?_)
                        refine wpE_cond_df rfl (fun h => h rfl) ?_
                        refine wpE_skip (thenE_norm ?_)
                        exact ⟨rfl, hR21, ha617.chg hc1721 hb6, ha1117.chg hc1721 hb11, hB17.chg hc1721 hb8⟩
                      · skip
                        refine wpL_value rfl (x_to (x_eql rfl rfl) (congrArg Value.bool (decide_eq_false (hf61)))) ?_
                        refine wpL_value rfl x_move (wpL_no rfl rfl (wpL_no rfl rfl (wpL_no rfl rfl (wpL_no rfl rfl (wpL_no rfl rfl (wpL_no rfl rfl (wpL_no rfl rfl (wpL_no rfl rfl (wpL_no rfl rfl (wpL_no rfl rfl (wpL_value rfl (x_pick_f rfl) ?_)))))))))))
                        refine wpL_nil (thenE_norm ?_)
                        refine wpE_cond_f (rfl) ?_
                        refine wpE_skip (thenE_norm ?_)
                        exact ⟨rfl, hR17, ha617, ha1117, hB17⟩
                    · rintro vs J w18 ⟨rfl, hR18, ha618, ha1118, hB18⟩
                      have hchX : ∀ {w' : World}, Chg [] w w' → (ch = [] ∨ (Sl w' (.slice pc ch.length cc) ch ∧ ∀ y ∈ blkOf (.slice pc ch.length cc), y ∉ DF b kv r)) := fun hcw => by
                        rcases hch with h | ⟨h, _⟩
                        · right
                          rw [hcf] at h
                          refine ⟨h.mod0 hcw, fun y hy hyd => ?_⟩
                          have q1 := h.lt y hy
                          have q2 := hR5.ge y (by simp [SF, hyd])
                          omega
                        · exact .inl h
                      refine wpE_cutF [0, 3, 4, 6, 7] (fun vs w' => ∃ (sb3 fr3 : Nat) (ds3 : DSt) (s3 : SSt) (m3 : List SlM), vs = [.slice pl l.length cl, .pointer (some ⟨b, 0, none⟩), .pointer (some ⟨sb3, 0, none⟩), .pointer (some ⟨b6, 0, none⟩), .int .i64 i] ∧ RS w w' b kv r sb3 fr3 ds3 s3 ∧ Arr w' b6 m3 ∧ b6 ∉ SF sb3 fr3 b kv r ∧ ds3.Fine ∧ JInv (i + 1) (ds3.power 0) s3 m3) ?_ ?_
                      · skip
                        refine wpE_seq ?_
                        refine wpE_region ?_
                        refine wpL_value rfl (x_fieldAddr Try.underlying42 rfl I3 rfl rfl) ?_
                        refine wpL_value rfl (x_load Try.underlying3 rfl rfl (hB18.c (off := 0) rfl)) ?_
                        by_cases h5 : 5 ≤ x.what
                        · skip
                          refine wpL_value rfl (x_to (x_geq rfl rfl) (congrArg Value.bool (decide_eq_true (h5)))) ?_
                          refine wpL_value rfl x_move (wpL_no rfl rfl (wpL_no rfl rfl (wpL_value rfl (x_pick_t rfl) ?_)))
                          refine wpL_nil (thenE_norm ?_)
                          refine wpE_cond_t (rfl) ?_
                          refine wpE_seq ?_
                          refine wpE_region ?_
                          refine wpL_value rfl x_move (wpL_value rfl (x_fieldAddr Try.underlying42 rfl I22 rfl rfl) ?_)
                          have hWO : Went i ds2 s2 ∧ Obs s2 m2 ∧ ¬ f = 61 := by
                            rcases hA3 with ⟨h, h2, h3⟩ | ⟨_, h, _⟩
                            · refine ⟨h2, h3, ?_⟩
                              rcases h with h | h <;> rw [h] <;> decide
                            · omega
                          obtain ⟨hW2, hO2, hf61⟩ := hWO
                          have hob6 := hW2.crash hO2 ch
                          obtain ⟨st, kp, P, hcr, hst, hkp, hn, hP, hO⟩ := hob6
                          have hob7 := opened_next hcr hst hkp hn hP hi99 hO hml
                          obtain ⟨hp0, hJn⟩ := hob7
                          refine wpL_value rfl (x_load Try.underlying22 rfl rfl (hB18.c (off := 5) rfl)) ?_
                          refine wpL_call rfl C17 (Crash_ok w18 b r kv _ ds2 ch hR18.1.1 hW2.p.fine (by rw [hW2.p.inv.pend]; exact Nat.zero_le _) ⟨_, _, rfl⟩ (hchX hR18.now) (by omega)) ?_
                          rintro _ w19 ⟨hd19, hc19⟩
                          refine wpL_nil (thenE_norm ?_)
                          refine wpE_seq ?_
                          refine wpE_region ?_
                          refine wpL_value rfl x_move ?_
                          have hob8 := hR18.turnD hd19 hc19
                          obtain ⟨hR19, hc19'⟩ := hob8
                          have ha619 := ha618.chg hc19' hb6
                          refine wpL_call rfl C18 (open_play hR19 hcr hkp) ?_
                          rintro _ w20 ⟨sb3, fr3, rfl, hR20, hc20, hsb3, hfr3⟩
                          refine wpL_value rfl x_move (wpL_value rfl (x_extract rfl rfl) (wpL_value rfl (x_extract rfl rfl) (wpL_value rfl x_assign (wpL_value rfl x_assign ?_))))
                          refine wpL_nil (thenE_norm ?_)
                          refine wpE_seq ?_
                          refine wpE_seq ?_
                          refine wpE_region ?_
                          refine wpL_value rfl x_move (wpL_value rfl (x_neq rfl rfl) ?_)
                          refine wpL_nil (thenE_norm ?_)
                          have ha620 := ha619.chg0 hc20
                          have hb63 : b6 ∉ SF sb3 fr3 b kv r := fun h => by
                            have := ha619.lt
                            simp only [SF, List.mem_cons] at h
                            rcases h with h | h | h
                            · omega
                            · omega
                            · exact hb6 (by simp [SF, h])
                          refine wpE_cond_df rfl (fun h => h rfl) ?_
                          refine wpE_skip (thenE_norm ?_)
                          refine wpE_seq ?_
                          refine wpE_region ?_
                          refine wpL_value rfl x_move (wpL_value rfl x_assign ?_)
                          refine wpL_nil (thenE_norm ?_)
                          refine wpE_seq ?_
                          refine wpE_region ?_
                          refine wpL_value rfl x_move ?_
                          refine wpL_value rfl (x_to (x_eql rfl rfl) (congrArg Value.bool (decide_eq_false (hf61)))) ?_
                          refine wpL_value rfl x_move (wpL_no rfl rfl (wpL_no rfl rfl (wpL_no rfl rfl (wpL_no rfl rfl (wpL_value rfl (x_pick_f rfl) ?_)))))
                          refine wpL_nil (thenE_norm ?_)
                          refine wpE_cond_f (rfl) ?_
                          refine wpE_skip (thenE_norm ?_)
                          have hpw0 : (ds2.crash ch).power 0 = ds2.crash ch := hp0
                          exact ⟨sb3, fr3, _, _, m2, rfl, hR20, ha620, hb63, hJn.p.fine, by rw [hpw0]; exact hJn⟩
                        · skip
                          refine wpL_value rfl (x_to (x_geq rfl rfl) (congrArg Value.bool (decide_eq_false (h5)))) ?_
                          refine wpL_value rfl x_move (wpL_yes rfl (wpL_value rfl x_move (wpL_yes rfl (wpL_value rfl (x_eql rfl rfl) (wpL_value rfl (x_pick_f rfl) ?_)))))
                          refine wpL_nil (thenE_norm ?_)
                          refine wpE_cond_d rfl (fun hf61 => ?_) (fun hf61 => ?_)
                          · skip
                            refine wpE_seq ?_
                            refine wpE_region ?_
                            refine wpL_value rfl x_move (wpL_value rfl (x_fieldAddr Try.underlying42 rfl I22 rfl rfl) ?_)
                            have hF2 : Fell i ds2 s2 m2 nx2 (m2.set x.i.toNat sm0) ∧ isSlot x.i = true ∧ (¬ x.what ≤ 2 → nx2 = m2.set x.i.toNat sm0) := by
                              rcases hA3 with ⟨h, _⟩ | ⟨_, _, h, h2, h3⟩
                              · rcases h with h | h <;> rw [h] at hf61 <;> exact absurd hf61 (by decide)
                              · exact ⟨h2, h, h3⟩
                            obtain ⟨hFe, hin, hn3⟩ := hF2
                            rw [hin]
                            have hx0 : 0 ≤ x.i ∧ x.i < 24 := by simpa [isSlot] using hin
                            have hob9 := hFe.crash ch
                            obtain ⟨⟨st, kp, P, hcr, hst, hkp, hn, hP⟩, hO⟩ := hob9
                            have hfs := hFe.steps
                            have hpd := hFe.pend
                            refine wpL_value rfl (x_load Try.underlying22 rfl rfl (hB18.c (off := 5) rfl)) ?_
                            refine wpL_call rfl C17 (Crash_ok w18 b r kv _ ds2 ch hR18.1.1 hFe.fine (by omega) ⟨_, _, rfl⟩ (hchX hR18.now) (by omega)) ?_
                            rintro _ w19 ⟨hd19, hc19⟩
                            refine wpL_nil (thenE_norm ?_)
                            refine wpE_seq ?_
                            refine wpE_region ?_
                            refine wpL_value rfl x_move ?_
                            have hob10 := hR18.turnD hd19 hc19
                            obtain ⟨hR19, hc19'⟩ := hob10
                            have ha619 := ha618.chg hc19' hb6
                            have ha1119 := ha1118.chg hc19' hb11
                            have hB19 := hB18.chg hc19' hb8
                            refine wpL_call rfl C18 (open_play hR19 hcr hkp) ?_
                            rintro _ w20 ⟨sb3, fr3, rfl, hR20, hc20, hsb3, hfr3⟩
                            refine wpL_value rfl x_move (wpL_value rfl (x_extract rfl rfl) (wpL_value rfl (x_extract rfl rfl) (wpL_value rfl x_assign (wpL_value rfl x_assign ?_))))
                            refine wpL_nil (thenE_norm ?_)
                            refine wpE_seq ?_
                            refine wpE_seq ?_
                            refine wpE_region ?_
                            refine wpL_value rfl x_move (wpL_value rfl (x_neq rfl rfl) ?_)
                            refine wpL_nil (thenE_norm ?_)
                            have ha620 := ha619.chg0 hc20
                            have ha1120 := ha1119.chg0 hc20
                            have hB20 := hB19.chg0 hc20
                            have hb63 : b6 ∉ SF sb3 fr3 b kv r := fun h => by
                              have := ha619.lt
                              simp only [SF, List.mem_cons] at h
                              rcases h with h | h | h
                              · omega
                              · omega
                              · exact hb6 (by simp [SF, h])
                            have hb113 : b11 ∉ SF sb3 fr3 b kv r := fun h => by
                              have := ha1119.lt
                              simp only [SF, List.mem_cons] at h
                              rcases h with h | h | h
                              · omega
                              · omega
                              · exact hb11 (by simp [SF, h])
                            refine wpE_cond_df rfl (fun h => h rfl) ?_
                            refine wpE_skip (thenE_norm ?_)
                            refine wpE_seq ?_
                            refine wpE_region ?_
                            refine wpL_value rfl x_move (wpL_value rfl x_assign ?_)
                            refine wpL_nil (thenE_norm ?_)
                            refine wpE_seq ?_
                            refine wpE_region ?_
                            refine wpL_value rfl x_move ?_
                            refine wpL_value rfl (x_to (x_eql rfl rfl) (congrArg Value.bool (decide_eq_true (hf61)))) ?_
                            refine wpL_value rfl x_move (wpL_yes rfl (wpL_value rfl x_move (wpL_yes rfl ?_)))
                            refine wpL_value rfl (x_loadN 24 Try.underlying52 rfl I52 rfl rfl (ha620) (hml)) ?_
                            refine wpL_yes rfl ?_
                            refine wpL_call rfl C22 (alike_ok w20 sb3 fr3 b (openS (ds2.crash ch) 26) m2 hR20.2.1 hml) ?_
                            rintro v21 w21 ⟨⟨t, hv21, ht⟩, hc21⟩
                            subst hv21
                            have hc21 : Chg [] w20 w21 := hc21
                            have hR21 := hR20.chg0 hc21
                            have ha621 := ha620.chg0 hc21
                            have ha1121 := ha1120.chg0 hc21
                            have hB21 := hB20.chg0 hc21
                            cases t with
                            | true =>
                              skip
                              refine wpL_yes rfl (wpL_value rfl (x_not rfl) (wpL_value rfl (x_pick_t rfl) ?_))
                              refine wpL_nil (thenE_norm ?_)
                              refine wpE_cond_f (rfl) ?_
                              refine wpE_skip (thenE_norm ?_)
                              have hob11 := opened_next hcr hst hkp hn hP hi99 (ht.1 rfl) hml
                              obtain ⟨hp0, hJn⟩ := hob11
                              have hpw0 : (ds2.crash ch).power 0 = ds2.crash ch := hp0
                              exact ⟨sb3, fr3, _, _, m2, rfl, hR21, ha621, hb63, hJn.p.fine, by rw [hpw0]; exact hJn⟩
                            | false =>
                              skip
                              have hO : Obs (openS (ds2.crash ch) 26) nx2 ∨ Obs (openS (ds2.crash ch) 26) (m2.set x.i.toNat sm0) := by
                                rcases hO with h | h
                                · exact absurd (ht.2 h) (by decide)
                                · exact h
                              refine wpL_yes rfl (wpL_value rfl (x_not rfl) (wpL_value rfl (x_pick_t rfl) ?_))
                              refine wpL_nil (thenE_norm ?_)
                              refine wpE_cond_t (rfl) ?_
                              refine wpE_seq ?_
                              refine wpE_seq ?_
                              refine wpE_region ?_
                              refine wpL_value rfl x_move (wpL_value rfl x_move (wpL_yes rfl (wpL_value rfl (x_fieldAddr Try.underlying42 rfl I3 rfl rfl) (wpL_yes rfl ?_))))
                              refine wpL_value rfl (x_load Try.underlying3 rfl rfl (hB21.c (off := 0) rfl)) ?_
                              refine wpL_yes rfl ?_
                              by_cases hw2 : x.what ≤ 2
                              · skip
                                refine wpL_value rfl (x_to (x_leq rfl rfl) (congrArg Value.bool (decide_eq_true (hw2)))) ?_
                                refine wpL_value rfl (x_pick_t rfl) (wpL_value rfl x_move (wpL_yes rfl (wpL_value rfl x_move (wpL_yes rfl ?_))))
                                refine wpL_value rfl (x_loadN 24 Try.underlying52 rfl I52 rfl rfl (ha1121) (hnl2)) ?_
                                refine wpL_yes rfl ?_
                                refine wpL_call rfl C22 (alike_ok w21 sb3 fr3 b (openS (ds2.crash ch) 26) nx2 hR21.2.1 hnl2) ?_
                                rintro v22 w22 ⟨⟨t2, hv22, ht2⟩, hc22⟩
                                subst hv22
                                have hc22 : Chg [] w21 w22 := hc22
                                have hR22 := hR21.chg0 hc22
                                have ha622 := ha621.chg0 hc22
                                have ha1122 := ha1121.chg0 hc22
                                cases t2 with
                                | true =>
                                  skip
                                  refine wpL_yes rfl (wpL_value rfl (x_not rfl) (wpL_value rfl (x_pick_t rfl) ?_))
                                  refine wpL_nil (thenE_norm ?_)
                                  refine wpE_cond_f (rfl) ?_
                                  refine wpE_skip (thenE_norm ?_)
                                  refine wpE_region ?_
                                  refine wpL_value rfl (x_loadN 24 Try.underlying52 rfl I52 rfl rfl (ha1122) (hnl2)) ?_
                                  refine wpL_exs rfl (x_storeN 24 I52 rfl (ha622) rfl rfl (hml) (hnl2)) ?_
                                  rintro w23 ⟨ha23, hc23, hs23⟩
                                  refine wpL_nil (thenE_norm ?_)
                                  have hob12 := opened_next hcr hst hkp hn hP hi99 (ht2.1 rfl) hnl2
                                  obtain ⟨hp0, hJn⟩ := hob12
                                  have hpw0 : (ds2.crash ch).power 0 = ds2.crash ch := hp0
                                  exact ⟨sb3, fr3, _, _, nx2, rfl, hR22.nb hc23 hb63 hw6, ha23, hb63, hJn.p.fine, by rw [hpw0]; exact hJn⟩
                                | false =>
                                  skip
                                  have hO : Obs (openS (ds2.crash ch) 26) (m2.set x.i.toNat sm0) := by
                                    rcases hO with h | h
                                    · exact absurd (ht2.2 h) (by decide)
                                    · exact h
                                  refine wpL_yes rfl (wpL_value rfl (x_not rfl) (wpL_value rfl (x_pick_t rfl) ?_))
                                  refine wpL_nil (thenE_norm ?_)
                                  refine wpE_cond_t (rfl) ?_
                                  refine wpE_seq ?_
                                  refine wpE_region ?_
                                  refine wpL_value rfl (x_loadN 24 Try.underlying52 rfl I52 rfl rfl (ha622) (hml)) ?_
                                  refine wpL_exs rfl (x_storeN 24 I52 rfl (ha1122) rfl rfl (hnl2) (hml)) ?_
                                  rintro w23 ⟨ha23, hc23, hs23⟩
                                  refine wpL_nil (thenE_norm ?_)
                                  refine wpE_region ?_
                                  refine wpL_value rfl x_move ?_
                                  refine wpL_value rfl (x_buildL Try.underlying51 I51 rfl (zs := [.bool false, .int .u8 0, .int .u8 0]) rfl rfl (fill0 (cs' := [.bool false, .int .u8 0, .int .u8 0]) rfl)) ?_
                                  refine wpL_value rfl (x_idxA (x.i.toNat) Try.underlying52 I51 rfl rfl (by first | rfl | omega) (by first | assumption | omega)) ?_
                                  refine wpL_exs rfl (x_store1 (a := sm0) (k := x.i.toNat) I51 rfl rfl rfl rfl (ha23) rfl (by first | assumption | omega)) ?_
                                  rintro w24 ⟨ha24, hc24, hs24⟩
                                  refine wpL_nil (thenE_norm ?_)
                                  refine wpE_region ?_
                                  have hR24 := (hR22.nb hc23 hb113 hw11).nb hc24 hb113 hw11
                                  have ha624 := (ha622.nb hc23 hb611).nb hc24 hb611
                                  have hml3 : (m2.set x.i.toNat sm0).length = 24 := by rw [List.length_set]; exact hml
                                  refine wpL_value rfl (x_loadN 24 Try.underlying52 rfl I52 rfl rfl (ha24) (hml3)) ?_
                                  refine wpL_exs rfl (x_storeN 24 I52 rfl (ha624) rfl rfl (hml) (hml3)) ?_
                                  rintro w25 ⟨ha25, hc25, hs25⟩
                                  refine wpL_nil (thenE_norm ?_)
                                  have hob13 := opened_next hcr hst hkp hn hP hi99 hO hml3
                                  obtain ⟨hp0, hJn⟩ := hob13
                                  have hpw0 : (ds2.crash ch).power 0 = ds2.crash ch := hp0
                                  exact ⟨sb3, fr3, _, _, _, rfl, hR24.nb hc25 hb63 hw6, ha25, hb63, hJn.p.fine, by rw [hpw0]; exact hJn⟩
                              · skip
                                have hO : Obs (openS (ds2.crash ch) 26) nx2 := by
                                  rcases hO with h | h
                                  · exact h
                                  · rw [hn3 hw2]; exact h
                                refine wpL_value rfl (x_to (x_leq rfl rfl) (congrArg Value.bool (decide_eq_false (hw2)))) ?_
                                refine wpL_value rfl (x_pick_t rfl) (wpL_value rfl x_move (wpL_no rfl rfl (wpL_no rfl rfl (wpL_no rfl rfl (wpL_no rfl rfl (wpL_value rfl (x_pick_f rfl) ?_))))))
                                refine wpL_nil (thenE_norm ?_)
                                refine wpE_cond_f (rfl) ?_
                                refine wpE_skip (thenE_norm ?_)
                                refine wpE_region ?_
                                refine wpL_value rfl (x_loadN 24 Try.underlying52 rfl I52 rfl rfl (ha1121) (hnl2)) ?_
                                refine wpL_exs rfl (x_storeN 24 I52 rfl (ha621) rfl rfl (hml) (hnl2)) ?_
                                rintro w22 ⟨ha22, hc22, hs22⟩
                                refine wpL_nil (thenE_norm ?_)
                                have hob14 := opened_next hcr hst hkp hn hP hi99 hO hnl2
                                obtain ⟨hp0, hJn⟩ := hob14
                                have hpw0 : (ds2.crash ch).power 0 = ds2.crash ch := hp0
                                exact ⟨sb3, fr3, _, _, nx2, rfl, hR21.nb hc22 hb63 hw6, ha22, hb63, hJn.p.fine, by rw [hpw0]; exact hJn⟩
                          · skip
                            refine wpE_skip (thenE_norm ?_)
                            have hWO : Went i ds2 s2 ∧ Obs s2 m2 := by
                              rcases hA3 with ⟨h, h2, h3⟩ | ⟨h, _⟩
                              · exact ⟨h2, h3⟩
                              · exact absurd h hf61
                            obtain ⟨hW2, hO2⟩ := hWO
                            exact ⟨sb, fr, _, _, m2, rfl, hR18, ha618, hb6, hW2.p.fine, hW2.next hO2 hml hi99⟩
                      · rintro vs J w21 ⟨sb3, fr3, ds3, s3, m3, rfl, hR21, ha621, hb63, hfine, hJn⟩
                        refine wpE_seq ?_
                        refine wpE_region ?_
                        refine wpL_value rfl x_move (wpL_value rfl (x_nil rfl) (wpL_value rfl (x_fieldAddr Try.underlying59 rfl I55 rfl rfl) ?_))
                        refine wpL_call rfl C20 (Power_ok _ b r kv ds3 0 hR21.1.1 hfine (by omega)) ?_
                        rintro _ w22 ⟨hd22, hc22, hs22⟩
                        refine wpL_nil (thenE_norm ?_)
                        refine wpE_seq ?_
                        refine wpE_region ?_
                        refine wpL_value rfl x_move ?_
                        have hob15 := hR21.turnD hd22 (DF_sub hc22)
                        obtain ⟨hR22, hc22'⟩ := hob15
                        have ha622 := ha621.chg hc22' hb63
                        refine wpL_value rfl (x_loadN 24 Try.underlying52 rfl I52 rfl rfl (ha622) (hJn.len)) ?_
                        refine wpL_call rfl C22 (alike_ok w22 sb3 fr3 b s3 m3 hR22.2.1 hJn.len) ?_
                        rintro v23 w23 ⟨⟨t, hv23, ht⟩, hc23⟩
                        have ht : t = true := ht.2 hJn.obs
                        subst ht
                        subst hv23
                        refine wpL_value rfl (x_not rfl) ?_
                        refine wpL_nil (thenE_norm ?_)
                        refine wpE_cond_f (rfl) ?_
                        refine wpE_skip (blockE_norm (thenE_norm ?_))
                        refine wpE_region ?_
                        refine wpL_value rfl x_move (wpL_value rfl (x_add64 rfl rfl (by omega)) (wpL_value rfl x_assign ?_))
                        refine wpL_nil (thenE_norm ?_)
                        exact ⟨n, by omega, i + 1, sb3, fr3, _, s3, m3, rfl, by omega, hR22.chg0 hc23, ha622.chg0 hc23, hb63, hJn⟩
      · skip
        refine wpE_exit (thenE_exit (thenE_exit (blockE_exit (thenE_norm ?_))))
        refine wpE_seq ?_
        refine wpE_region ?_
        refine wpL_value rfl x_assign ?_
        refine wpL_nil (thenE_norm ?_)
        refine wpE_ret (fin_ret ?_)
        exact ⟨rfl, hR5.now⟩
end Go.Proofs.Ytenhmbhflgnhlaa
