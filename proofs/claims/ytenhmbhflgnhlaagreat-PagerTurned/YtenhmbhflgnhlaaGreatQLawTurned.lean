/- A page of which a byte was changed on the disk, or another page's first sector stands in its place, is told as what stands there opens to, or that it isn't sealed so; other pages are as they were: by the document's seals. It holds for every input; there are no conditions. -/
import Derived.Test.YtenhmbhflgnhlaaGreatQLaw7c
import Derived.Test.YtenhmbhflgnhlaaGreatSac2
namespace Go.Proofs.YtenhmbhflgnhlaaGreat
open Go Go.Sac
set_option maxRecDepth 100000
set_option maxHeartbeats 4000000
def tOther : List UInt8 := [111, 116, 104, 101, 114]
theorem read_stands (w : World) (R : PR) (b r : Nat) (kv : Value) (ds : DSt) (k : List UInt8) (hk : k.length = 32) (P : Pg) (h : PagerAt w R b k P) (hd : DiskAt w b kv r ds) (hb : P.broken = false) (ho : ds.off = false) (hl : ds.kept.length ≤ 4000) (i : UInt32) (hi : 40 + i.toNat * 8 ≤ ds.kept.length) (hu : P.now.used i = true) (hw : P.now.written i = true) (g : UInt64) (hg : P.gens i = some g) (now : List UInt8) (hn : ds.reads (32 + (i.toNat : Int) * 8) 8 = now) :
    Ret Tryz.prog 29 #[.pointer (some ⟨R.pb, 0, none⟩), .int .u32 i.toNat] w fun v w' => ((v = .tuple #[.slice none 0 0, .int .i64 50] ∧ (opensR (deriveL k tPage 0) i.toNat (be 8 g.toNat) now = ([], false))) ∨ (∃ rv l, v = .tuple #[rv, .int .i64 0] ∧ Sl w' rv l ∧ opensR (deriveL k tPage 0) i.toNat (be 8 g.toNat) now = (l, true))) ∧ Chg [] w w' := by
  have hnl : now.length = 512 := by rw [← hn]; exact DSt.reads_length _ _ _
  have h8 : (now.take 8).length = 8 := by rw [List.length_take]; omega
  have hgh := gen_head (g := g) h8
  have hb8 : (be 8 g.toNat).take 8 = be 8 g.toNat := List.take_of_length_le (by rw [be_length]; omega)
  refine (Read_ok3 w R b r kv ds k hk P h hd (fun _ => ho) hl i (fun _ => hi)).mono ?_
  rintro v w' ⟨hR, hc⟩
  refine ⟨?_, hc⟩
  rcases hR with ⟨q, _⟩ | ⟨_, q, _⟩ | ⟨_, _, _, q, rfl⟩ | ⟨_, _, _, q1, l, rv, q2, rfl, hs⟩
  · rw [hb] at q; cases q
  · rw [hu, hw] at q; rcases q with q | q <;> cases q
  · left
    refine ⟨rfl, ?_⟩
    rw [hn, hg] at q
    unfold opensR
    rw [hb8]
    rcases q with q | q
    · rw [if_neg (fun hh => q (hgh.2 hh))]
    · split
      · rw [q]
      · rfl
  · right
    rw [hn] at q1 q2
    rw [hg] at q1
    refine ⟨rv, l, rfl, hs, ?_⟩
    unfold opensR
    rw [hb8, if_pos (hgh.1 q1), q2]
theorem opensR_head (pk : List UInt8) (i : Nat) (g : UInt64) (l now : List UInt8) : opensR pk i (pageB pk i g.toNat l) now = opensR pk i (be 8 g.toNat) now := by
  have h1 : (pageB pk i g.toNat l).take 8 = be 8 g.toNat := by unfold pageB; rw [List.append_assoc, List.take_left' (be_length _ _)]
  have hb8 : (be 8 g.toNat).take 8 = be 8 g.toNat := List.take_of_length_le (by rw [be_length]; omega)
  unfold opensR
  rw [h1, hb8]
theorem opensR_own2 (pk : List UInt8) (i : Nat) (g : UInt64) (l : List UInt8) (h : l.length ≤ 480) : opensR pk i (be 8 g.toNat) (pageB pk i g.toNat l) = (l, true) := by
  rw [← opensR_head pk i g l]
  unfold opensR
  rw [if_pos rfl, openP_pageB _ _ _ _ h]
theorem PagerTurned_ok (w : World) (lv : Value) (l : List UInt8) (hl : Sl w lv l) (x1 : UInt16) (x2 : UInt8) (x3 : Bool) :
    Ret Tryz.prog 4 #[lv, .int .u16 x1.toNat, .int .u8 x2.toNat, .bool x3] w fun v w' => v = .bool true ∧ Chg [] w w' := by
  obtain ⟨pl, cl, rfl⟩ := hl.form rfl
  have hx1 := x1.toNat_lt
  refine enter [8] Tryz.func4 rfl rfl (Nat.le_of_ble_eq_true rfl) ?_
  refine wpE_seq ?_
  refine wpE_region ?_
  refine wpL_value rfl x_assign ?_
  refine wpL_nil (thenE_norm ?_)
  refine wpE_seq ?_
  refine wpE_seq ?_
  refine wpE_region ?_
  refine wpL_call rfl C19 (known7_ok w) ?_
  rintro _ w1 ⟨rfl, hc1⟩
  refine wpL_value rfl (x_not rfl) ?_
  refine wpL_nil (thenE_norm ?_)
  refine wpE_cond_f (rfl) ?_
  refine wpE_skip (thenE_norm ?_)
  refine wpE_seq ?_
  refine wpE_seq ?_
  refine wpE_region ?_
  refine wpL_value rfl x_move (wpL_value rfl (x_len_slice rfl Tryz.underlying41) (wpL_value rfl (x_gtr rfl rfl) ?_))
  refine wpL_nil (thenE_norm ?_)
  refine wpE_cond_d rfl (fun h480 => ?_) (fun h480 => ?_)
  · skip
    refine wpE_seq ?_
    refine wpE_region ?_
    refine wpL_value rfl x_assign ?_
    refine wpL_nil (thenE_norm ?_)
    refine wpE_ret (thenE_ret (fin_ret ?_))
    exact ⟨rfl, hc1⟩
  · skip
    refine wpE_skip (thenE_norm ?_)
    refine wpE_seq ?_
    refine wpE_region ?_
    have hl4 : l.length ≤ 480 := by omega
    refine wpL_call rfl C20 (begun_run (n := 5) (by omega) V0 hc1) ?_
    rintro _ w2 ⟨b, kv, r, R, a, ds, mb, pv, ov, rfl, hS2, hM2, hMF, hc2⟩
    refine wpL_value rfl x_move (wpL_value rfl (x_extract rfl rfl) (wpL_value rfl (x_extract rfl rfl) (wpL_value rfl (x_extract rfl rfl) (wpL_value rfl (x_extract rfl rfl) (wpL_value rfl x_assign (wpL_value rfl x_assign (wpL_value rfl x_assign (wpL_value rfl x_assign ?_))))))))
    refine wpL_nil (thenE_norm ?_)
    refine wpE_seq ?_
    refine wpE_seq ?_
    refine wpE_region ?_
    refine wpL_value rfl x_move (wpL_value rfl (x_not rfl) ?_)
    refine wpL_nil (thenE_norm ?_)
    refine wpE_cond_f (rfl) ?_
    refine wpE_skip (thenE_norm ?_)
    refine wpE_seq ?_
    refine wpE_region ?_
    refine wpL_value rfl x_move ?_
    refine wpL_call rfl C21 (alloc_at hS2 0 (by omega) (fun j hj => by omega) rfl) ?_
    rintro _ w3 ⟨rfl, hS3, hc3⟩
    refine wpL_value rfl x_move (wpL_value rfl (x_extract rfl rfl) (wpL_value rfl (x_extract rfl rfl) (wpL_value rfl x_assign (wpL_value rfl x_assign ?_))))
    refine wpL_nil (thenE_norm ?_)
    refine wpE_seq ?_
    refine wpE_region ?_
    refine wpL_value rfl x_move ?_
    refine wpL_call rfl C21 (alloc_at hS3 1 (by omega) (fun j hj => by rw [show j = 0 by omega]; rfl) rfl) ?_
    rintro _ w4 ⟨rfl, hS4, hc4⟩
    refine wpL_value rfl x_move (wpL_value rfl (x_extract rfl rfl) (wpL_value rfl (x_extract rfl rfl) (wpL_value rfl x_assign (wpL_value rfl x_assign ?_))))
    refine wpL_nil (thenE_norm ?_)
    refine wpE_seq ?_
    refine wpE_seq ?_
    refine wpE_region ?_
    refine wpL_value rfl x_move ?_
    have hge4 := hS4.ge
    have hbl : l ≠ [] → ∀ x ∈ blkOf (.slice pl l.length cl), x ∉ PF R ++ DF b kv r := fun _ x hx hh => by
      have := hl.lt x hx
      have := hge4 x hh
      omega
    refine wpL_value rfl (x_to (x_neq rfl rfl) (congrArg Value.bool (decide_eq_false (fun h => h rfl)))) ?_
    refine wpL_value rfl x_move (wpL_yes rfl (wpL_value rfl x_move (wpL_yes rfl ?_)))
    refine wpL_value rfl (x_to (x_neq rfl rfl) (congrArg Value.bool (decide_eq_false (fun h => h rfl)))) ?_
    refine wpL_value rfl (x_pick_f rfl) (wpL_value rfl x_move (wpL_yes rfl (wpL_value rfl x_move (wpL_yes rfl (wpL_value rfl x_move (wpL_yes rfl (wpL_value rfl x_move (wpL_yes rfl ?_))))))))
    refine wpL_call rfl C22 (write_run hS4 (by decide) 0 rfl (.slice pl l.length cl) l hl4 (.inl (hl.mod0 hS4.now)) hbl) ?_
    rintro _ w5 ⟨rfl, ⟨ds5, hS5⟩, hc5⟩
    refine wpL_yes rfl ?_
    refine wpL_value rfl (x_to (x_neq rfl rfl) (congrArg Value.bool (decide_eq_false (fun h => h rfl)))) ?_
    refine wpL_value rfl (x_pick_f rfl) (wpL_value rfl x_move (wpL_yes rfl (wpL_value rfl x_move (wpL_yes rfl (wpL_value rfl x_move (wpL_yes rfl ?_))))))
    refine wpL_exw rfl (x_bsS [.int .u8 111, .int .u8 116, .int .u8 104, .int .u8 101, .int .u8 114] tOther Tryz.underlying41 I5 rfl rfl rfl rfl rfl rfl (by decide) (by decide)) ?_
    rintro _ w6 ⟨⟨b6, o6, c6, rfl⟩, ho6, hc6, hi6⟩
    refine wpL_yes rfl ?_
    refine wpL_exv rfl (x_convB Tryz.underlying41 Tryz.underlying5 rfl ho6.sl) ?_
    rintro w7 ⟨hs7, hc7, hl7⟩
    refine wpL_yes rfl ?_
    have hlt5 := hS5.lt
    have hb6 : ∀ x ∈ PF R ++ DF b kv r, x ∉ [b6] := fun x hx hh => by
      have := hi6.ge b6 (by simp [blkOf])
      have := hlt5 x hx
      simp at hh; omega
    have hw5 := hS5.now.1
    have hS7 := (hS5.chg0 hc6).chg hc7 hb6 (fun x hx => by simp at hx; have := hi6.ge b6 (by simp [blkOf]); omega)
    refine wpL_call rfl C22 (write_run hS7 (by decide) 1 rfl (.slice (some ⟨b6, o6, none⟩) 5 c6) tOther (by decide) (.inl hs7) (fun _ x hx hh => hb6 x hh (by simpa [blkOf] using hx))) ?_
    rintro _ w8 ⟨rfl, ⟨ds8, hS8⟩, hc8⟩
    refine wpL_yes rfl ?_
    refine wpL_value rfl (x_to (x_neq rfl rfl) (congrArg Value.bool (decide_eq_false (fun h => h rfl)))) ?_
    refine wpL_value rfl (x_pick_f rfl) (wpL_value rfl x_move (wpL_yes rfl (wpL_value rfl x_move (wpL_yes rfl ?_))))
    refine wpL_call rfl C23 (commit_run hS8 (by decide) 1 [] (by decide) (fun i hi => by have := (fresh_iff.1 hi).1; exact this)) ?_
    rintro _ w9 ⟨rfl, ⟨u9, r9, ku9, kr9, ds9, hR9, hS9, hpd9, _⟩, hc9⟩
    refine wpL_yes rfl (wpL_value rfl (x_neq rfl rfl) (wpL_value rfl (x_pick_f rfl) ?_))
    refine wpL_nil (thenE_norm ?_)
    refine wpE_cond_df rfl (fun h => h rfl) ?_
    refine wpE_skip (thenE_norm ?_)
    refine wpE_seq ?_
    refine wpE_region ?_
    refine wpL_value rfl x_move (wpL_value rfl x_move ?_)
    have hob1 := hS9.2.2.2.1.ok.pages 0 (.inl rfl)
    obtain ⟨g0, hg0, hst0, _⟩ := hob1
    have hob2 := hS9.2.2.2.1.ok.pages 1 (.inl rfl)
    obtain ⟨g1, hg1, hst1, _⟩ := hob2
    have hst0 : ds9.reads 32 8 = pageB (deriveL k39 tPage 0) 0 g0.toNat l := hst0
    have hst1 : ds9.reads (32 + ((1 : UInt32).toNat : Int) * 8) 8 = pageB (deriveL k39 tPage 0) 1 g1.toNat tOther := hst1
    have hlen9 : ds9.kept.length = 72 := hS9.2.2.2.1.ok.len
    have hoff9 := hS9.2.2.2.1.ok.off
    refine wpL_call rfl C24 ((stands_ok w9 b r kv ds9 0 hS9.1.1 hS9.2.2.2.1.ok.offF (by rw [hlen9]; decide) hS9.small :)) ?_
    rintro va wa ⟨⟨pa, ca, hva, hoa, hia⟩, hca⟩
    subst hva
    have hoa : Own wa (.slice pa 512 ca) (ds9.reads 32 8) := hoa
    have hob3 : ∃ was, was = ds9.reads 32 8 := ⟨_, rfl⟩
    obtain ⟨was, hwas⟩ := hob3
    rw [← hwas] at hoa hst0
    have hwl : was.length = 512 := by rw [hwas]; exact DSt.reads_length _ _ _
    refine wpL_value rfl x_move (wpL_value rfl (x_extract rfl rfl) (wpL_value rfl (x_extract rfl rfl) (wpL_value rfl x_assign (wpL_value rfl x_assign ?_))))
    refine wpL_nil (thenE_norm ?_)
    refine wpE_seq ?_
    refine wpE_seq ?_
    refine wpE_region ?_
    refine wpL_value rfl x_move (wpL_value rfl (x_not rfl) ?_)
    refine wpL_nil (thenE_norm ?_)
    refine wpE_cond_f (rfl) ?_
    refine wpE_skip (thenE_norm ?_)
    refine wpE_seq ?_
    refine wpE_region ?_
    refine wpL_value rfl x_move (wpL_value rfl (x_convI rfl Tryz.underlying44 Tryz.underlying3 (by omega)) (wpL_value rfl (x_rem64 rfl rfl (by omega)) (wpL_value rfl x_assign ?_)))
    refine wpL_nil (thenE_norm ?_)
    refine wpE_seq ?_
    refine wpE_region ?_
    refine wpL_value rfl x_move ?_
    have hob4 : ∃ k : Nat, k = x1.toNat % 512 := ⟨_, rfl⟩
    obtain ⟨k, hk⟩ := hob4
    have hk5 : k < 512 := by omega
    have hke : (x1.toNat : Int) % 512 = (k : Int) := by omega
    refine wpL_append Tryz.underlying41 Tryz.underlying41 I5 (.inr ⟨_, rfl⟩) rfl rfl rfl (by decide) rfl (Own.nil wa) (hoa.sl.src) rfl rfl (by rw [hwl]; decide) ?_
    rintro vb wb hb
    refine wpL_value rfl x_assign ?_
    refine wpL_nil (thenE_norm ?_)
    refine wpE_seq ?_
    refine wpE_region ?_
    refine wpL_value rfl x_move (wpL_value rfl x_move ?_)
    have hob5 := hb.step (Chg.refl _) In.nil
    obtain ⟨hob, hcb, hib⟩ := hob5
    rw [List.nil_append] at hob
    have hob6 := hob.form hwl
    obtain ⟨pb, cb, rfl⟩ := hob6
    refine wpL_ex rfl (x_idx (k) Tryz.underlying41 I5 rfl (hob.sl) rfl rfl (by first | rfl | omega) (by omega)) ?_
    rintro _ ⟨bi, oi, rfl, hei, hbi⟩
    refine wpL_value rfl (x_load Tryz.underlying5 rfl rfl ((hob.sl.at hei (getD_some (d := 0) (by omega))).c0 rfl)) ?_
    refine wpL_value rfl x_move (wpL_value rfl (x_xor8u rfl rfl) ?_)
    refine wpL_ex rfl (x_idx (k) Tryz.underlying41 I5 rfl (hob.sl) rfl rfl (by first | rfl | omega) (by omega)) ?_
    rintro _ ⟨bj, oj, rfl, hej, hbj⟩
    refine wpL_exs rfl (x_storeO (a := was.getD k 0 ^^^ x2) I5 rfl (hob) rfl (hej) rfl rfl (by omega)) ?_
    rintro wc ⟨hoc, hcc, hsc⟩
    refine wpL_nil (thenE_norm ?_)
    have z0 : (0 : UInt32).toNat = 0 := rfl
    have z1 : (1 : UInt32).toNat = 1 := rfl
    have y0 : (UInt32.ofNat 0).toNat = 0 := rfl
    have y1 : (UInt32.ofNat 1).toNat = 1 := rfl
    have hibs : ∀ x ∈ blkOf (.slice pb 512 cb), wa.heap.size ≤ x := fun x hx => hib.ge x hx
    have hcac : Chg [] wa wc := hcb.t0 hcc hibs
    have hdfa := hS9.1.1.lt
    have k9a := hca.1
    refine wpE_cutF [9, 10, 13, 15, 17, 18, 19] (fun vs w' => ∃ (k' : Nat) (now : List UInt8) (pn : Option Addr) (cn : Nat), vs = [.pointer (some ⟨b, 0, none⟩), .pointer (some ⟨R.pb, 0, none⟩), .int .u32 ((0 : UInt32).toNat : Nat), .int .u32 ((1 : UInt32).toNat : Nat), .slice pa 512 ca, .int .i64 k', .slice pn 512 cn] ∧ k' < 512 ∧ now.length = 512 ∧ Near (k' / 64) now was ∧ Sl w' (.slice pn 512 cn) now ∧ (∀ x ∈ blkOf (.slice pn 512 cn), wa.heap.size ≤ x) ∧ Chg [] wa w') ?_ ?_
    · skip
      refine wpE_seq ?_
      refine wpE_region ?_
      refine wpL_value rfl x_move ?_
      refine wpL_nil (thenE_norm ?_)
      refine wpE_cond rfl (fun h3 => ?_) (fun h3 => ?_)
      · skip
        refine wpE_seq ?_
        refine wpE_region ?_
        refine wpL_value rfl x_assign ?_
        refine wpL_nil (thenE_norm ?_)
        refine wpE_seq ?_
        refine wpE_region ?_
        refine wpL_value rfl x_move (wpL_value rfl x_move (wpL_value rfl (x_convI rfl Tryz.underlying34 Tryz.underlying3 (by omega)) (wpL_value rfl (x_mul64 rfl rfl (by omega)) (wpL_value rfl (x_add64 rfl rfl (by omega)) ?_))))
        refine wpL_call rfl C25 (Read_ok wc b r kv ds9 (32 + 8 * (((1 : UInt32).toNat : Nat) : Int)) ((hS9.1.1.chg0 hca).chg0 hcac)) ?_
        rintro vd wd ⟨hcd, hvd⟩
        have his : ds9.is (32 + 8 * (((1 : UInt32).toNat : Nat) : Int)) = true := DSt.is_iff.2 (by rw [hlen9]; decide)
        rw [if_neg (by rw [hS9.2.2.2.1.ok.offF]; decide), if_pos his] at hvd
        obtain ⟨pd, rfl, hsd, hid⟩ := hvd
        refine wpL_value rfl x_move (wpL_value rfl (x_extract rfl rfl) (wpL_value rfl (x_extract rfl rfl) (wpL_value rfl x_assign (wpL_value rfl x_assign ?_))))
        refine wpL_nil (thenE_norm ?_)
        have hs64 := (ds9.now (32 + 8 * (((1 : UInt32).toNat : Nat) : Int))).2
        have hoad := (hoa.mod0 hcac).mod0 hcd
        refine wpE_draw mixed (.pure 0 (.pure 2 (.pure 3 (.eff 1 [] (.eff 4 [] (.pure 5 .nil)))))) (by kernel_rfl) ?_
        refine wpP_pure rfl rfl rfl (fun _ => x_move) ?_
        refine wpP_pure rfl rfl rfl (fun _ => x_move) ?_
        refine wpP_ex rfl rfl rfl (x_from 64 Tryz.underlying41 I5 rfl hoad.sl rfl rfl rfl (by omega)) ?_
        rintro _ ⟨⟨pf, cf, rfl⟩, hsf, hblf⟩
        refine wpP_exw rfl rfl rfl (x_app Tryz.underlying41 Tryz.underlying41 I5 (.inr ⟨_, rfl⟩) rfl rfl rfl (by decide) (Own.nil _) ((hsd.mod0 (rdrw wd)).src) rfl rfl (by rw [hs64]; decide)) ?_
        rintro vg wg hg
        refine ⟨trivial, ?_⟩
        have hgo := hg.own
        have hgm : Chg [] wd wg := hg.mod
        have hgi : In vg [] wd.heap.size := hg.inn
        rw [List.nil_append] at hgo
        refine wpP_exw rfl rfl rfl (x_app Tryz.underlying41 Tryz.underlying41 I5 (.inr ⟨_, rfl⟩) rfl rfl rfl (by decide) (hgo) ((hsf.mod0 hgm).src) rfl rfl (by rw [hs64, List.length_drop]; omega)) ?_
        rintro vh wh hh
        refine ⟨trivial, ?_⟩
        refine wpP_pure rfl rfl rfl (fun _ => x_assign) ?_
        refine wpP_nil (thenE_norm ?_)
        have hho := hh.own
        have hhl : ((ds9.now (32 + 8 * (((1 : UInt32).toNat : Nat) : Int))).1 ++ was.drop 64).length = 512 := by rw [List.length_append, hs64, List.length_drop]; omega
        have hob7 := hho.form hhl
        obtain ⟨ph, ch, rfl⟩ := hob7
        have hcg : Chg [] wa wg := (hcac.tr hcd).tr hgm
        have kad := hcac.1
        have kcd := hcd.1
        exact ⟨0, _, ph, ch, rfl, by omega, hhl, Near.head hs64 (by omega), hho.sl, fun x hx => (hh.inn x hx).elim (fun h => by have := hgi.ge x h; omega) (fun h => by have := hcg.1; omega), hcg.t0 hh.mod (fun x hx => by have := hgi.ge x hx; omega)⟩
      · skip
        refine wpE_skip (thenE_norm ?_)
        exact ⟨k, was.set k (was.getD k 0 ^^^ x2), pb, cb, vs_cons rfl (vs_cons rfl (vs_cons rfl (vs_cons rfl (vs_cons rfl (vs_cons (int_eq hke) (vs_cons rfl vs_nil)))))), hk5, by simpa using hwl, Near.set _ _ rfl, hoc.sl, hibs, hcac⟩
    · rintro vs J we ⟨k', now, pn, cn, rfl, hk', hnl, hN, hsn, hin, hce⟩
      refine wpE_seq ?_
      refine wpE_seq ?_
      refine wpE_region ?_
      refine wpL_value rfl x_move (wpL_value rfl x_move (wpL_value rfl (x_convI rfl Tryz.underlying34 Tryz.underlying3 (by omega)) (wpL_value rfl (x_mul64 rfl rfl (by omega)) (wpL_value rfl (x_add64 rfl rfl (by omega)) (wpL_value rfl x_move (wpL_value rfl (x_quo64 rfl rfl (by omega)) (wpL_value rfl (x_add64 rfl rfl (by omega)) (wpL_value rfl x_move (wpL_value rfl x_move (wpL_value rfl (x_quo64 rfl rfl (by omega)) (wpL_value rfl (x_mul64 rfl rfl (by omega)) (wpL_value rfl x_move (wpL_value rfl (x_quo64 rfl rfl (by omega)) (wpL_value rfl (x_mul64 rfl rfl (by omega)) (wpL_value rfl (x_add64 rfl rfl (by omega)) ?_)))))))))))))))
      have hob8 : ∃ q : Nat, q = k' / 64 := ⟨_, rfl⟩
      obtain ⟨q, hq⟩ := hob8
      have hq8 : q < 8 := by omega
      have hqe : (k' : Int) / 64 = (q : Int) := by omega
      rw [← hq] at hN
      obtain ⟨t1, t2, t3, t4, t5, t6⟩ := turned_reads (i := 32) (n := 8) hoff9 hwas.symm hnl hq8 (by decide) (by rw [hlen9]; decide) hN
      have hf9 := hS9.2.2.2.1.ok.fine
      have hst9 := hS9.2.2.2.1.ok.steps
      refine wpL_ex rfl (x_fromto (64 * q) (64 * q + 64) Tryz.underlying41 I5 rfl hsn rfl rfl rfl (by omega) (by omega) (by omega)) ?_
      rintro _ ⟨⟨p5, c5, rfl⟩, hs5, hbl5⟩
      have hs5 : Sl we (.slice p5 (64 * q + 64 - 64 * q) c5) ((now.drop (64 * q)).take 64) := by rw [show 64 * q + 64 - 64 * q = 64 by omega] at hs5 ⊢; exact hs5
      have hd9e : DiskAt we b kv r ds9 := (hS9.1.1.chg0 hca).chg0 hce
      have hbn5 : b ∉ blkOf (.slice p5 (64 * q + 64 - 64 * q) c5) := fun h => by
        rw [hbl5] at h
        have := hin b h
        have := hdfa b (by simp [DF])
        omega
      have hpos : 32 + 8 * (((0 : UInt32).toNat : Nat) : Int) + (k' : Int) / 64 = 32 + (q : Int) := by rw [hqe, z0]; rfl
      have hob9 : ∃ dsA, dsA = ds9.write (32 + (q : Int)) ((now.drop (64 * q)).take 64) := ⟨_, rfl⟩
      obtain ⟨dsA, hdsA⟩ := hob9
      have hWr := Write2_ok we b r kv (.slice p5 (64 * q + 64 - 64 * q) c5) _ ds9 (32 + (q : Int)) hd9e hf9 hs5 hbn5
      rw [← hdsA] at t1 t2 t3 t4 t5 t6 hWr
      rw [← hpos, t1] at hWr
      have hfA : dsA.1.Fine := by rw [hdsA]; exact hf9.write (by omega) _ _
      refine wpL_call rfl C26 (hWr) ?_
      rintro _ wf ⟨rfl, hdf, hcf⟩
      refine wpL_value rfl (x_to (x_neq rfl rfl) (congrArg Value.bool (decide_eq_false (fun h => h rfl)))) ?_
      refine wpL_value rfl x_move (wpL_yes rfl (wpL_value rfl x_move (wpL_yes rfl ?_)))
      refine wpL_call rfl C27 (Flush_ok wf b r kv dsA.1 hdf hfA) ?_
      rintro vg wg ⟨hvg, hdg, hcg⟩
      rw [t2] at hvg
      subst hvg
      refine wpL_yes rfl (wpL_value rfl (x_neq rfl rfl) (wpL_value rfl (x_pick_f rfl) ?_))
      refine wpL_nil (thenE_norm ?_)
      refine wpE_cond_df rfl (fun h => h rfl) ?_
      refine wpE_skip (thenE_norm ?_)
      refine wpE_seq ?_
      refine wpE_region ?_
      refine wpL_value rfl x_move (wpL_value rfl x_move (wpL_value rfl x_move ?_))
      have hapR := hS9.apart
      have hcd9 : Chg (DF b kv r) w9 wg := (((hca.tr hce).mono (by simp)).tr hcf).tr hcg
      have hPg := hS9.2.1.chg hcd9 hapR
      have hsa : Own wg (.slice pa 512 ca) was := (((hoa.mod0 hce).mod hcf (fun x hx hh => by have := hia.ge x hx; have := hdfa x hh; omega)).mod hcg (fun x hx hh => by have := hia.ge x hx; have := hdfa x hh; omega))
      have hsn2 : Sl wg (.slice pn 512 cn) now := (hsn.mod hcf (fun x hx hh => by have := hin x hx; have := hdfa x hh; omega)).mod hcg (fun x hx hh => by have := hin x hx; have := hdfa x hh; omega)
      refine wpL_call rfl C28 ((opens_ok wg 0 pa ca pn cn was now hsa.sl hsn2 hwl hnl :)) ?_
      rintro vh wh ⟨hvh, hch⟩
      rw [z0, hst0, opensR_head] at hvh
      subst hvh
      refine wpL_value rfl x_move (wpL_value rfl (x_extract rfl rfl) (wpL_value rfl (x_extract rfl rfl) (wpL_value rfl x_assign (wpL_value rfl x_assign ?_))))
      refine wpL_nil (thenE_norm ?_)
      refine wpE_seq ?_
      refine wpE_region ?_
      refine wpL_value rfl x_move (wpL_value rfl x_move ?_)
      have hfo : dsA.1.flush.1.off = false := by unfold DSt.off; rw [t6]; rfl
      have hfl : dsA.1.flush.1.kept.length = 72 := by rw [t5, hlen9]
      have hPh := hPg.chg0 hch
      have hdh := hdg.chg0 hch
      have t3' : dsA.1.flush.1.reads (32 + ((0 : UInt32).toNat : Int) * 8) 8 = now := t3
      have t4' : dsA.1.flush.1.reads (32 + ((1 : UInt32).toNat : Int) * 8) 8 = pageB (deriveL k39 tPage 0) 1 g1.toNat tOther := by rw [t4 _ 8 (by decide) (by rw [hlen9]; decide) (by right; decide)]; exact hst1
      refine wpL_call rfl C29 ((read_stands wh _ b r kv dsA.1.flush.1 k39 rfl _ hPh hdh rfl hfo (by rw [hfl]; decide) 0 (by rw [hfl]; decide) rfl rfl g0 hg0 now t3' :)) ?_
      rintro vi wi ⟨hvi, hci⟩
      rw [z0] at hvi
      have hPi := hPh.chg0 hci
      have hdi := hdh.chg0 hci
      have hRy := read_stands wi _ b r kv dsA.1.flush.1 k39 rfl _ hPi hdi rfl hfo (by rw [hfl]; decide) 1 (by rw [hfl]; decide) rfl rfl g1 hg1 _ t4'
      rw [z1, opensR_own2 _ _ _ _ (show tOther.length ≤ 480 by decide)] at hRy
      have hend : ∀ {w' : World}, Chg [] wi w' → Chg [] w w' := fun hc => ((hS9.now.t0 hcd9 hS9.1.2.2).tr hch).tr (hci.tr hc)
      rcases hvi with ⟨rfl, hop⟩ | ⟨rv, l2, rfl, hsv, hop⟩
      · skip
        rw [hop]
        refine wpL_value rfl x_move (wpL_value rfl (x_extract rfl rfl) (wpL_value rfl (x_extract rfl rfl) (wpL_value rfl x_assign (wpL_value rfl x_assign ?_))))
        refine wpL_nil (thenE_norm ?_)
        refine wpE_seq ?_
        refine wpE_region ?_
        refine wpL_value rfl x_move (wpL_value rfl x_move ?_)
        refine wpL_call rfl C29 (hRy) ?_
        rintro vj wj ⟨hvj, hcj⟩
        rcases hvj with ⟨_, q⟩ | ⟨rj, lj, rfl, hsj, q⟩
        · cases q
        cases q
        refine wpL_value rfl x_move (wpL_value rfl (x_extract rfl rfl) (wpL_value rfl (x_extract rfl rfl) (wpL_value rfl x_assign (wpL_value rfl x_assign ?_))))
        refine wpL_nil (thenE_norm ?_)
        refine wpE_seq ?_
        refine wpE_region ?_
        refine wpL_value rfl x_move (wpL_value rfl (x_eql rfl rfl) (wpL_value rfl x_move ?_))
        refine wpL_value rfl (x_to (x_eqb rfl rfl Tryz.underlying4) (congrArg Value.bool (decide_eq_true (by decide)))) ?_
        refine wpL_value rfl x_move (wpL_yes rfl (wpL_value rfl x_move (wpL_yes rfl ?_)))
        refine wpL_value rfl (x_to (x_eql rfl rfl) (congrArg Value.bool (decide_eq_false (by decide)))) ?_
        refine wpL_yes rfl (wpL_value rfl x_move (wpL_yes rfl (wpL_value rfl x_move (wpL_yes rfl ?_))))
        refine wpL_value rfl (x_to (x_eql rfl rfl) (congrArg Value.bool (decide_eq_true (rfl)))) ?_
        refine wpL_yes rfl (wpL_value rfl (x_pick_f rfl) (wpL_value rfl (x_pick_t rfl) (wpL_value rfl x_move (wpL_yes rfl (wpL_value rfl x_move (wpL_yes rfl ?_))))))
        refine wpL_value rfl (x_b2s Tryz.underlying41 Tryz.underlying5 Tryz.underlying9 (Sl.nil (α := UInt8) wj 0) rfl) ?_
        refine wpL_yes rfl (wpL_value rfl x_move (wpL_yes rfl ?_))
        refine wpL_value rfl (x_to (x_eqS rfl rfl) (congrArg Value.bool (decide_eq_true (rfl)))) ?_
        refine wpL_value rfl (x_pick_t rfl) (wpL_value rfl x_move (wpL_yes rfl (wpL_value rfl x_move (wpL_yes rfl ?_))))
        refine wpL_value rfl (x_to (x_eql rfl rfl) (congrArg Value.bool (decide_eq_true (rfl)))) ?_
        refine wpL_value rfl (x_pick_t rfl) (wpL_value rfl x_move (wpL_yes rfl (wpL_value rfl x_move (wpL_yes rfl ?_))))
        refine wpL_value rfl (x_b2s Tryz.underlying41 Tryz.underlying5 Tryz.underlying9 hsj rfl) ?_
        refine wpL_yes rfl (wpL_value rfl (x_eqS rfl rfl) (wpL_value rfl (x_pick_t rfl) (wpL_value rfl x_assign ?_)))
        refine wpL_nil (thenE_norm ?_)
        refine wpE_ret (fin_ret ?_)
        exact ⟨congrArg Value.bool (decide_eq_true rfl), hend hcj⟩
      · skip
        rw [hop]
        refine wpL_value rfl x_move (wpL_value rfl (x_extract rfl rfl) (wpL_value rfl (x_extract rfl rfl) (wpL_value rfl x_assign (wpL_value rfl x_assign ?_))))
        refine wpL_nil (thenE_norm ?_)
        refine wpE_seq ?_
        refine wpE_region ?_
        refine wpL_value rfl x_move (wpL_value rfl x_move ?_)
        refine wpL_call rfl C29 (hRy) ?_
        rintro vj wj ⟨hvj, hcj⟩
        rcases hvj with ⟨_, q⟩ | ⟨rj, lj, rfl, hsj, q⟩
        · cases q
        cases q
        refine wpL_value rfl x_move (wpL_value rfl (x_extract rfl rfl) (wpL_value rfl (x_extract rfl rfl) (wpL_value rfl x_assign (wpL_value rfl x_assign ?_))))
        refine wpL_nil (thenE_norm ?_)
        refine wpE_seq ?_
        refine wpE_region ?_
        refine wpL_value rfl x_move (wpL_value rfl (x_eql rfl rfl) (wpL_value rfl x_move ?_))
        refine wpL_value rfl (x_to (x_eqb rfl rfl Tryz.underlying4) (congrArg Value.bool (decide_eq_true (rfl)))) ?_
        refine wpL_value rfl x_move (wpL_yes rfl (wpL_value rfl x_move (wpL_yes rfl ?_)))
        refine wpL_value rfl (x_to (x_eql rfl rfl) (congrArg Value.bool (decide_eq_true (rfl)))) ?_
        refine wpL_yes rfl (wpL_value rfl x_move (wpL_no rfl rfl (wpL_no rfl rfl (wpL_yes rfl (wpL_value rfl (x_pick_t rfl) (wpL_value rfl (x_pick_t rfl) (wpL_value rfl x_move (wpL_yes rfl (wpL_value rfl x_move (wpL_yes rfl ?_))))))))))
        refine wpL_value rfl (x_b2s Tryz.underlying41 Tryz.underlying5 Tryz.underlying9 (hsv.mod0 hcj) rfl) ?_
        refine wpL_yes rfl (wpL_value rfl x_move (wpL_yes rfl ?_))
        refine wpL_value rfl (x_to (x_eqS rfl rfl) (congrArg Value.bool (decide_eq_true (rfl)))) ?_
        refine wpL_value rfl (x_pick_t rfl) (wpL_value rfl x_move (wpL_yes rfl (wpL_value rfl x_move (wpL_yes rfl ?_))))
        refine wpL_value rfl (x_to (x_eql rfl rfl) (congrArg Value.bool (decide_eq_true (rfl)))) ?_
        refine wpL_value rfl (x_pick_t rfl) (wpL_value rfl x_move (wpL_yes rfl (wpL_value rfl x_move (wpL_yes rfl ?_))))
        refine wpL_value rfl (x_b2s Tryz.underlying41 Tryz.underlying5 Tryz.underlying9 hsj rfl) ?_
        refine wpL_yes rfl (wpL_value rfl (x_eqS rfl rfl) (wpL_value rfl (x_pick_t rfl) (wpL_value rfl x_assign ?_)))
        refine wpL_nil (thenE_norm ?_)
        refine wpE_ret (fin_ret ?_)
        exact ⟨congrArg Value.bool (decide_eq_true rfl), hend hcj⟩
end Go.Proofs.YtenhmbhflgnhlaaGreat
