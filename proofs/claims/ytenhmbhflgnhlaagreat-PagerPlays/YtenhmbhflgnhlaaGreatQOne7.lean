/- every row of calls, crashes, the power going within a commit: what each tells -/
import Derived.Test.YtenhmbhflgnhlaaGreatQAlike7
import Derived.Test.YtenhmbhflgnhlaaGreatSac2
namespace Go.Proofs.YtenhmbhflgnhlaaGreat
open Go Go.Sac
set_option maxRecDepth 100000
set_option maxHeartbeats 4000000
structure SS (w0 w : World) (b : Nat) (kv : Value) (r : Nat) (R : PR) (n k : Nat) (key : List UInt8) (ds : DSt) (P : Pg) (V : UInt32 → List UInt8) (mb : Nat) (pv ov : Value) (M : Mdl) : Prop where
  ps : PS w0 w b kv r R n k key ds P V
  m : MAt w mb pv ov M
  rel : RelP n P V M
  own : ∀ x ∈ MF mb pv ov, w0.heap.size ≤ x
  apart : ∀ x ∈ MF mb pv ov, x ∉ PF R ++ DF b kv r
section
variable {w0 w : World} {b r n k mb : Nat} {kv pv ov : Value} {R : PR} {key : List UInt8} {ds : DSt} {P : Pg} {V : UInt32 → List UInt8} {M : Mdl}
theorem SS.pager {w' : World} {R' : PR} {k' : Nat} {ds' : DSt} {P' : Pg} {V' : UInt32 → List UInt8} (h : SS w0 w b kv r R n k key ds P V mb pv ov M) (hS : PS w0 w' b kv r R' n k' key ds' P' V') (hc : Chg (PF R ++ DF b kv r) w w') (hR : ∀ x ∈ PF R', x ∈ PF R ∨ w.heap.size ≤ x) :
    MAt w' mb pv ov M ∧ (∀ x ∈ MF mb pv ov, x ∉ PF R' ++ DF b kv r) := by
  refine ⟨h.m.chg hc h.apart, fun x hx hh => ?_⟩
  have hlt := h.m.lt x hx
  rcases List.mem_append.1 hh with hh | hh
  · rcases hR x hh with q | q
    · exact h.apart x hx (List.mem_append_left _ q)
    · omega
  · exact h.apart x hx (List.mem_append_right _ hh)
theorem SS.model {w1 w' : World} {R' : PR} {k' : Nat} {ds' : DSt} {P' : Pg} {V' : UInt32 → List UInt8} {pv' ov' : Value} {M' : Mdl} {S : List Nat} (h : SS w0 w b kv r R n k key ds P V mb pv ov M) (hS : PS w0 w1 b kv r R' n k' key ds' P' V') (hap : ∀ x ∈ MF mb pv ov, x ∉ PF R' ++ DF b kv r)
    (hM : MAt w' mb pv' ov' M') (hc : Chg S w1 w') (hs : ∀ x ∈ S, x ∈ MF mb pv ov) (hn : ∀ x ∈ MF mb pv' ov', x ∈ MF mb pv ov ∨ w1.heap.size ≤ x) (hR : RelP n P' V' M') : SS w0 w' b kv r R' n k' key ds' P' V' mb pv' ov' M' := by
  have hlt := hS.lt
  have hk : w0.heap.size ≤ w1.heap.size := hS.now.1
  refine ⟨hS.chg hc (fun x hx hh => hap x (hs x hh) hx) (fun x hx => h.own x (hs x hx)), hM, hR, fun x hx => ?_, fun x hx hh => ?_⟩
  · rcases hn x hx with q | q
    · exact h.own x q
    · omega
  · rcases hn x hx with q | q
    · exact hap x q hh
    · have := hlt x hh; omega
theorem SS.written (h : SS w0 w b kv r R n k key ds P V mb pv ov M) : ∀ i, P.now.written i = true → P.now.used i = true := h.ps.2.2.2.1.ok.written
theorem undo_run2 (h : PS w0 w b kv r R n k key ds P V) :
    Ret Tryz.prog 35 #[.pointer (some ⟨R.pb, 0, none⟩)] w fun v w' => ∃ u r', PS w0 w' b kv r { R with u := u, r := r' } n k key ds { P with now := P.kept.st } V ∧ Chg (PF R ++ DF b kv r) w w' ∧ ∀ x ∈ PF ({ R with u := u, r := r' } : PR), x ∈ PF R ∨ w.heap.size ≤ x := by
  have hap := h.apart
  have hlt := h.lt
  have hge := h.ge
  have hk1 := h.now.1
  refine (Undo_ok w R b key h.2.2.2.2 P h.2.1).mono ?_
  rintro v w' ⟨u, r', hu, hr, hP, hc⟩
  have hd := h.1.1.chg hc (fun x hx hh => by simp at hh; subst hh; exact hap R.pb (by simp [PF]) hx)
  have hc2 := mono_u R b kv r hc (by simp [PF])
  refine ⟨u, r', ⟨⟨hd, h.1.2.1.t0 hc2 hge, h.1.2.2⟩, hP, fun x hx => ?_, h.2.2.2.1.undo, h.2.2.2.2⟩, hc2, fun x hx => ?_⟩
  · simp only [PF, List.mem_cons, List.not_mem_nil, or_false] at hx
    rcases hx with rfl | rfl | rfl | rfl | rfl | rfl
    · exact h.2.2.1 _ (by simp [PF])
    · exact ⟨by omega, fun hh => by have := hlt _ (List.mem_append_right _ hh); omega⟩
    · exact ⟨by omega, fun hh => by have := hlt _ (List.mem_append_right _ hh); omega⟩
    · exact h.2.2.1 _ (by simp [PF])
    · exact h.2.2.1 _ (by simp [PF])
    · exact h.2.2.1 _ (by simp [PF])
  · simp only [PF, List.mem_cons, List.not_mem_nil, or_false] at hx ⊢
    rcases hx with rfl | rfl | rfl | rfl | rfl | rfl
    · exact .inl (.inl rfl)
    · exact .inr hu
    · exact .inr hr
    · exact .inl (.inr (.inr (.inr (.inl rfl))))
    · exact .inl (.inr (.inr (.inr (.inr (.inl rfl)))))
    · exact .inl (.inr (.inr (.inr (.inr (.inr rfl)))))
def OneR (w0 : World) (b : Nat) (kv : Value) (r : Nat) (R : PR) (n k : Nat) (key : List UInt8) (P : Pg) (mb : Nat) (w' : World) : Prop :=
  ∃ R' k' ds' P' V' pv' ov' M', R'.pb = R.pb ∧ SS w0 w' b kv r R' n k' key ds' P' V' mb pv' ov' M' ∧ k' ≤ k + 1 ∧ P'.kept.commit.toNat ≤ P.kept.commit.toNat + 1
theorem one_ok (h : SS w0 w b kv r R n k key ds P V mb pv ov M) (hn : 4 ≤ n ∧ n ≤ 12) (hk : k + 1 ≤ 1000) (x : Step7) (lb : List UInt8) (hx0 : SlE w0 x.b.1 lb) (hlb : lb.length ≤ 600) (hlt : lb ≠ [] → ∀ y ∈ blkOf x.b.1, y < w0.heap.size) (hok : okI w x.i) (htx : x.txt.length ≤ 300) :
    Ret Tryz.prog 39 #[.pointer (some ⟨R.pb, 0, none⟩), .pointer (some ⟨mb, 0, none⟩), .agg (Flat.enc x).toArray] w fun v w' => v = .bool true ∧ OneR w0 b kv r R n k key P mb w' := by
  have hx := hx0.mod0 h.ps.now
  have hfb := hx.form
  obtain ⟨pb, cb, hsf⟩ := hfb
  obtain ⟨lo, hi⟩ := hok
  have hlp := h.rel.lp
  refine enter [6] Tryz.func39 rfl rfl (Nat.le_of_ble_eq_true rfl) ?_
  refine wpE_seq ?_
  refine wpE_region ?_
  refine wpL_exw rfl (x_boxB (l := Flat.enc x) rfl rfl) ?_
  rintro _ w1 ⟨b5, rfl, hn5, hB5, hc5, hl5⟩
  refine wpL_value rfl x_assign ?_
  refine wpL_nil (thenE_norm ?_)
  refine wpE_seq ?_
  refine wpE_region ?_
  refine wpL_value rfl (x_fieldAddr Tryz.underlying75 rfl I3 rfl rfl) ?_
  have hB5 : Blk w1 b5 [.int .i64 x.what, .int .i64 x.i, .slice pb lb.length cb, .int .u32 x.root.toNat, str x.txt, x.ch.1] := by rw [← hsf]; exact hB5
  rw [hsf] at hx hlt hx0
  have h1 : SS w0 w1 b kv r R n k key ds P V mb pv ov M := ⟨h.ps.chg0 hc5, h.m.chg0 hc5, h.rel, h.own, h.apart⟩
  have hx1 := hx.mod0 hc5
  have hmlt := h.m.lt
  have hplt := h.ps.lt
  have hb5 : b5 ∉ PF R ++ DF b kv r := fun hh => by have := hplt _ hh; omega
  have hfm := h.m.p.form hlp
  obtain ⟨pp, pc, hfm⟩ := hfm
  have hob1 : ∃ ii : Nat, ii = if x.i < 0 ∨ (n : Int) < x.i then n else x.i.toNat := ⟨_, rfl⟩
  obtain ⟨ii, hii⟩ := hob1
  have hiin : ii ≤ n := by rw [hii]; split <;> omega
  have hm1 := h1.m
  rw [hfm] at hm1
  refine wpL_value rfl (x_load Tryz.underlying3 rfl rfl (hB5.c (off := 1) rfl)) ?_
  refine wpL_value rfl x_assign ?_
  refine wpL_nil (thenE_norm ?_)
  refine wpE_cutF [0, 1, 5, 7] (fun vs w' => vs = [.pointer (some ⟨R.pb, 0, none⟩), .pointer (some ⟨mb, 0, none⟩), .pointer (some ⟨b5, 0, none⟩), .int .i64 ii] ∧ w' = w1) ?_ ?_
  · skip
    refine wpE_seq ?_
    refine wpE_region ?_
    refine wpL_value rfl x_move ?_
    by_cases hneg : x.i < 0
    · skip
      refine wpL_value rfl (x_to (x_lss rfl rfl) (congrArg Value.bool (decide_eq_true (hneg)))) ?_
      refine wpL_value rfl x_move (wpL_no rfl rfl (wpL_no rfl rfl (wpL_no rfl rfl (wpL_no rfl rfl (wpL_no rfl rfl (wpL_no rfl rfl (wpL_no rfl rfl (wpL_value rfl (x_pick_t rfl) ?_))))))))
      refine wpL_nil (thenE_norm ?_)
      refine wpE_cond_t (rfl) ?_
      refine wpE_region ?_
      refine wpL_value rfl x_move (wpL_value rfl (x_nil rfl) (wpL_value rfl (x_fieldAddr Tryz.underlying119 rfl I117 rfl rfl) ?_))
      refine wpL_value rfl (x_load Tryz.underlying117 rfl rfl (hm1.blk.c (off := 0) rfl)) ?_
      refine wpL_value rfl (x_len_slice rfl Tryz.underlying117) (wpL_value rfl x_assign ?_)
      refine wpL_nil (thenE_norm ?_)
      refine ⟨?_, rfl⟩
      rw [hii, if_pos (.inl hneg)]
      rfl
    · skip
      refine wpL_value rfl (x_to (x_lss rfl rfl) (congrArg Value.bool (decide_eq_false (hneg)))) ?_
      refine wpL_value rfl x_move (wpL_yes rfl (wpL_value rfl x_move (wpL_yes rfl (wpL_value rfl x_move (wpL_yes rfl (wpL_value rfl (x_nil rfl) (wpL_yes rfl (wpL_value rfl (x_fieldAddr Tryz.underlying119 rfl I117 rfl rfl) (wpL_yes rfl ?_)))))))))
      refine wpL_value rfl (x_load Tryz.underlying117 rfl rfl (hm1.blk.c (off := 0) rfl)) ?_
      refine wpL_yes rfl (wpL_value rfl (x_len_slice rfl Tryz.underlying117) (wpL_yes rfl (wpL_value rfl (x_gtr rfl rfl) (wpL_value rfl (x_pick_f rfl) ?_))))
      refine wpL_nil (thenE_norm ?_)
      refine wpE_cond_d rfl (fun hbig => ?_) (fun hbig => ?_)
      · skip
        refine wpE_region ?_
        refine wpL_value rfl x_move (wpL_value rfl (x_nil rfl) (wpL_value rfl (x_fieldAddr Tryz.underlying119 rfl I117 rfl rfl) ?_))
        refine wpL_value rfl (x_load Tryz.underlying117 rfl rfl (hm1.blk.c (off := 0) rfl)) ?_
        refine wpL_value rfl (x_len_slice rfl Tryz.underlying117) (wpL_value rfl x_assign ?_)
        refine wpL_nil (thenE_norm ?_)
        refine ⟨?_, rfl⟩
        rw [hii, if_pos (.inr hbig)]
        rfl
      · skip
        refine wpE_skip (thenE_norm ?_)
        refine ⟨vs_cons rfl (vs_cons rfl (vs_cons rfl (vs_cons (int_eq ?_) vs_nil))), rfl⟩
        rw [hii, if_neg (by omega)]
        omega
  · rintro vs J w2 ⟨rfl, hw2⟩
    refine wpE_seq ?_
    refine wpE_seq ?_
    refine wpE_region ?_
    refine wpL_value rfl (x_fieldAddr Tryz.underlying75 rfl I3 rfl rfl) ?_
    subst hw2
    have hM2 := h1.m
    have hR := h1.rel
    have hinn : ∀ y ∈ blkOf pv, y ∈ MF mb pv ov := fun y hy => by simp [MF, hy]
    have hS2 := h1.ps
    have hfree0 : ∀ u, P.free u = true → P.now.written u = false := fun u hu => by
      cases hw : P.now.written u with
      | false => rfl
      | true => have := h1.written u hw; rw [(free_iff.1 hu).1] at this; cases this
    refine wpL_value rfl (x_load Tryz.underlying3 rfl rfl (hB5.c (off := 0) rfl)) ?_
    refine wpL_nil (thenE_norm ?_)
    refine wpE_block ?_
    refine wpE_seq ?_
    refine wpE_seq ?_
    refine wpE_region ?_
    refine wpL_value rfl (x_eql rfl rfl) (wpL_value rfl x_assign ?_)
    refine wpL_nil (thenE_norm ?_)
    by_cases q0 : x.what = 0
    · skip
      refine wpE_cond_dt rfl (q0) ?_
      refine wpE_skip (thenE_norm ?_)
      refine wpE_cond_dt rfl (q0) ?_
      refine wpE_seq ?_
      refine wpE_region ?_
      refine wpL_value rfl x_move ?_
      rcases first_or (fun j => P.free (UInt32.ofNat j)) n with ⟨j, hj, hj0, hj1⟩ | hnone
      · skip
        have hj1 : P.free (UInt32.ofNat j) = true := hj1
        have hjt : (UInt32.ofNat j).toNat = j := UInt32.toNat_ofNat_of_lt' (show j < 4294967296 by omega)
        refine wpL_call rfl C21 (alloc_at hS2 j hj hj0 hj1) ?_
        rintro _ w3 ⟨rfl, hS3, hc3⟩
        refine wpL_value rfl x_move (wpL_value rfl (x_extract rfl rfl) (wpL_value rfl (x_extract rfl rfl) (wpL_value rfl x_assign (wpL_value rfl x_assign ?_))))
        refine wpL_nil (thenE_norm ?_)
        refine wpE_seq ?_
        refine wpE_region ?_
        refine wpL_value rfl x_move ?_
        have hob2 := h1.pager hS3 hc3 (fun y hy => .inl hy)
        obtain ⟨hM3, hap3⟩ := hob2
        refine wpL_call rfl C34 (mAlloc_ok w3 mb pv ov M hM3 (by omega)) ?_
        rintro v4 w4 ⟨⟨M4, i4, e4, hA, hv4, hM4⟩, hc4⟩
        have hob3 := hA.hit hR hj hj0 hj1
        obtain ⟨rfl, rfl, rfl⟩ := hob3
        subst hv4
        refine wpL_value rfl x_move (wpL_value rfl (x_extract rfl rfl) (wpL_value rfl (x_extract rfl rfl) (wpL_value rfl x_assign (wpL_value rfl x_assign ?_))))
        refine wpL_nil (thenE_norm ?_)
        refine wpE_seq ?_
        refine wpE_region ?_
        refine wpL_value rfl x_move (wpL_value rfl (x_convI rfl Tryz.underlying34 Tryz.underlying3 (by omega)) (wpL_value rfl x_move ?_))
        refine wpL_value rfl (x_to (x_eql rfl rfl) (congrArg Value.bool (decide_eq_true (by omega)))) ?_
        refine wpL_value rfl x_move (wpL_yes rfl (wpL_value rfl x_move (wpL_yes rfl (wpL_value rfl x_move (wpL_yes rfl (wpL_value rfl (x_eql rfl rfl) (wpL_value rfl (x_pick_t rfl) (wpL_value rfl x_assign ?_))))))))
        refine wpL_nil (thenE_norm ?_)
        refine wpE_ret (blockE_ret (thenE_ret (fin_ret ?_)))
        exact ⟨rfl, R, k, ds, _, V, pv, ov, _, rfl, h1.model hS3 hap3 hM4 hc4 hinn (fun y hy => .inl hy) (hR.alloc (by omega) hj hj1 (hfree0 _ hj1)), by omega, by show P.kept.commit.toNat ≤ _; omega⟩
      · skip
        refine wpL_call rfl C21 (alloc_none hS2 hnone) ?_
        rintro _ w3 ⟨rfl, hS3, hc3⟩
        refine wpL_value rfl x_move (wpL_value rfl (x_extract rfl rfl) (wpL_value rfl (x_extract rfl rfl) (wpL_value rfl x_assign (wpL_value rfl x_assign ?_))))
        refine wpL_nil (thenE_norm ?_)
        refine wpE_seq ?_
        refine wpE_region ?_
        refine wpL_value rfl x_move ?_
        have hob4 := h1.pager hS3 hc3 (fun y hy => .inl hy)
        obtain ⟨hM3, hap3⟩ := hob4
        refine wpL_call rfl C34 (mAlloc_ok w3 mb pv ov M hM3 (by omega)) ?_
        rintro v4 w4 ⟨⟨M4, i4, e4, hA, hv4, hM4⟩, hc4⟩
        have hob5 := hA.miss hR hnone
        obtain ⟨rfl, rfl, rfl⟩ := hob5
        subst hv4
        refine wpL_value rfl x_move (wpL_value rfl (x_extract rfl rfl) (wpL_value rfl (x_extract rfl rfl) (wpL_value rfl x_assign (wpL_value rfl x_assign ?_))))
        refine wpL_nil (thenE_norm ?_)
        refine wpE_seq ?_
        refine wpE_region ?_
        refine wpL_value rfl x_move (wpL_value rfl (x_convI rfl Tryz.underlying34 Tryz.underlying3 (by omega)) (wpL_value rfl x_move ?_))
        refine wpL_value rfl (x_to (x_eql rfl rfl) (congrArg Value.bool (decide_eq_true (rfl)))) ?_
        refine wpL_value rfl x_move (wpL_yes rfl (wpL_value rfl x_move (wpL_yes rfl (wpL_value rfl x_move (wpL_yes rfl (wpL_value rfl (x_eql rfl rfl) (wpL_value rfl (x_pick_t rfl) (wpL_value rfl x_assign ?_))))))))
        refine wpL_nil (thenE_norm ?_)
        refine wpE_ret (blockE_ret (thenE_ret (fin_ret ?_)))
        exact ⟨rfl, R, k, ds, P, V, pv, ov, _, rfl, h1.model hS3 hap3 hM4 hc4 hinn (fun y hy => .inl hy) hR, by omega, by omega⟩
    · by_cases q1 : x.what = 1
      · skip
        refine wpE_cond_df rfl (q0) ?_
        refine wpE_region ?_
        refine wpL_value rfl (x_eql rfl rfl) (wpL_value rfl x_assign ?_)
        refine wpL_nil (thenE_norm ?_)
        refine wpE_cond_dt rfl (q1) ?_
        refine wpE_seq ?_
        refine wpE_region ?_
        refine wpL_value rfl x_move ?_
        rcases first_or (fun j => P.free (UInt32.ofNat j)) n with ⟨j, hj, hj0, hj1⟩ | hnone
        · skip
          have hj1 : P.free (UInt32.ofNat j) = true := hj1
          have hjt : (UInt32.ofNat j).toNat = j := UInt32.toNat_ofNat_of_lt' (show j < 4294967296 by omega)
          refine wpL_call rfl C21 (alloc_at hS2 j hj hj0 hj1) ?_
          rintro _ w3 ⟨rfl, hS3, hc3⟩
          refine wpL_value rfl x_move (wpL_value rfl (x_extract rfl rfl) (wpL_value rfl (x_extract rfl rfl) (wpL_value rfl x_assign (wpL_value rfl x_assign ?_))))
          refine wpL_nil (thenE_norm ?_)
          refine wpE_seq ?_
          refine wpE_region ?_
          refine wpL_value rfl x_move ?_
          have hob6 := h1.pager hS3 hc3 (fun y hy => .inl hy)
          obtain ⟨hM3, hap3⟩ := hob6
          refine wpL_call rfl C34 (mAlloc_ok w3 mb pv ov M hM3 (by omega)) ?_
          rintro v4 w4 ⟨⟨M4, i4, e4, hA, hv4, hM4⟩, hc4⟩
          have hob7 := hA.hit hR hj hj0 hj1
          obtain ⟨rfl, rfl, rfl⟩ := hob7
          subst hv4
          refine wpL_value rfl x_move (wpL_value rfl (x_extract rfl rfl) (wpL_value rfl (x_extract rfl rfl) (wpL_value rfl x_assign (wpL_value rfl x_assign ?_))))
          refine wpL_nil (thenE_norm ?_)
          refine wpE_seq ?_
          refine wpE_region ?_
          refine wpL_value rfl x_move (wpL_value rfl (x_convI rfl Tryz.underlying34 Tryz.underlying3 (by omega)) (wpL_value rfl x_move ?_))
          refine wpL_value rfl (x_to (x_eql rfl rfl) (congrArg Value.bool (decide_eq_true (by omega)))) ?_
          refine wpL_value rfl x_move (wpL_yes rfl (wpL_value rfl x_move (wpL_yes rfl (wpL_value rfl x_move (wpL_yes rfl (wpL_value rfl (x_eql rfl rfl) (wpL_value rfl (x_pick_t rfl) (wpL_value rfl x_assign ?_))))))))
          refine wpL_nil (thenE_norm ?_)
          refine wpE_ret (blockE_ret (thenE_ret (fin_ret ?_)))
          exact ⟨rfl, R, k, ds, _, V, pv, ov, _, rfl, h1.model hS3 hap3 hM4 hc4 hinn (fun y hy => .inl hy) (hR.alloc (by omega) hj hj1 (hfree0 _ hj1)), by omega, by show P.kept.commit.toNat ≤ _; omega⟩
        · skip
          refine wpL_call rfl C21 (alloc_none hS2 hnone) ?_
          rintro _ w3 ⟨rfl, hS3, hc3⟩
          refine wpL_value rfl x_move (wpL_value rfl (x_extract rfl rfl) (wpL_value rfl (x_extract rfl rfl) (wpL_value rfl x_assign (wpL_value rfl x_assign ?_))))
          refine wpL_nil (thenE_norm ?_)
          refine wpE_seq ?_
          refine wpE_region ?_
          refine wpL_value rfl x_move ?_
          have hob8 := h1.pager hS3 hc3 (fun y hy => .inl hy)
          obtain ⟨hM3, hap3⟩ := hob8
          refine wpL_call rfl C34 (mAlloc_ok w3 mb pv ov M hM3 (by omega)) ?_
          rintro v4 w4 ⟨⟨M4, i4, e4, hA, hv4, hM4⟩, hc4⟩
          have hob9 := hA.miss hR hnone
          obtain ⟨rfl, rfl, rfl⟩ := hob9
          subst hv4
          refine wpL_value rfl x_move (wpL_value rfl (x_extract rfl rfl) (wpL_value rfl (x_extract rfl rfl) (wpL_value rfl x_assign (wpL_value rfl x_assign ?_))))
          refine wpL_nil (thenE_norm ?_)
          refine wpE_seq ?_
          refine wpE_region ?_
          refine wpL_value rfl x_move (wpL_value rfl (x_convI rfl Tryz.underlying34 Tryz.underlying3 (by omega)) (wpL_value rfl x_move ?_))
          refine wpL_value rfl (x_to (x_eql rfl rfl) (congrArg Value.bool (decide_eq_true (rfl)))) ?_
          refine wpL_value rfl x_move (wpL_yes rfl (wpL_value rfl x_move (wpL_yes rfl (wpL_value rfl x_move (wpL_yes rfl (wpL_value rfl (x_eql rfl rfl) (wpL_value rfl (x_pick_t rfl) (wpL_value rfl x_assign ?_))))))))
          refine wpL_nil (thenE_norm ?_)
          refine wpE_ret (blockE_ret (thenE_ret (fin_ret ?_)))
          exact ⟨rfl, R, k, ds, P, V, pv, ov, _, rfl, h1.model hS3 hap3 hM4 hc4 hinn (fun y hy => .inl hy) hR, by omega, by omega⟩
      · skip
        refine wpE_cond_df rfl (q0) ?_
        refine wpE_region ?_
        refine wpL_value rfl (x_eql rfl rfl) (wpL_value rfl x_assign ?_)
        refine wpL_nil (thenE_norm ?_)
        refine wpE_cond_df rfl (q1) ?_
        refine wpE_seq ?_
        refine wpE_seq ?_
        refine wpE_region ?_
        refine wpL_value rfl (x_eql rfl rfl) (wpL_value rfl x_assign ?_)
        refine wpL_nil (thenE_norm ?_)
        have hiu : toU32 (ii : Int) = UInt32.ofNat ii := toU32_nat ii
        have hiut : (UInt32.ofNat ii).toNat = ii := UInt32.toNat_ofNat_of_lt' (show ii < 4294967296 by omega)
        have hused : ∀ u, P.now.used u = true → u.toNat < n := h1.ps.2.2.2.1.ok.used
        by_cases q2 : x.what = 2 ∨ x.what = 3
        · skip
          have hwm := hR.writeM hused (by omega) hiin lb
          by_cases q2a : x.what = 2
          · skip
            refine wpE_cond_dt rfl (q2a) ?_
            refine wpE_skip (thenE_norm ?_)
            refine wpE_cond_dt rfl (q2a) ?_
            refine wpE_seq ?_
            refine wpE_draw mixed (.pure 0 (.pure 1 (.pure 2 (.pure 3 (.read 4 (.pure 7 (.pure 8 (.pure 9 (.read 10 (.eff 5 [10] (.eff 6 [10] (.eff 11 [] (.pure 12 (.pure 13 .nil)))))))))))))) (by kernel_rfl) ?_
            refine wpP_pure rfl rfl rfl (fun _ => x_move) ?_
            refine wpP_pure rfl rfl rfl (fun _ => x_move) ?_
            refine wpP_pure rfl rfl rfl (fun _ => (x_conv32u rfl Tryz.underlying3 Tryz.underlying34)) ?_
            refine wpP_pure rfl rfl rfl (fun _ => (x_fieldAddr Tryz.underlying75 rfl I41 rfl rfl)) ?_
            refine wpP_rd rfl rfl rfl Tryz.underlying41 rfl rfl (hB5.c (off := 2) rfl) ?_
            refine wpP_pure rfl rfl rfl (fun _ => x_move) ?_
            refine wpP_pure rfl rfl rfl (fun _ => x_move) ?_
            refine wpP_pure rfl rfl rfl (fun _ => (x_fieldAddr Tryz.underlying75 rfl I41 rfl rfl)) ?_
            refine wpP_rd rfl rfl rfl Tryz.underlying41 rfl rfl (hB5.c (off := 2) rfl) ?_
            refine wpP_exw rfl rfl rfl (x_app Tryz.underlying41 Tryz.underlying41 I5 (.inr ⟨_, rfl⟩) rfl rfl rfl (by decide) (Own.nil _) ((hx0.mod0 (hS2.now.tr (drw _))).src) rfl rfl (by simp; omega)) ?_
            rintro v5 w5 h5
            have hc25 : Chg [] w2 w5 := (drw w2).tr h5.mod
            have hB55 : Blk w5 b5 [.int .i64 x.what, .int .i64 x.i, .slice pb lb.length cb, .int .u32 x.root.toNat, str x.txt, x.ch.1] := hB5.chg hc25 (by simp)
            refine ⟨⟨hB55.c (off := 2) rfl, trivial⟩, ?_⟩
            have h55 : SS w0 w5 b kv r R n k key ds P V mb pv ov M := ⟨hS2.chg0 hc25, hM2.chg0 hc25, hR, h1.own, h1.apart⟩
            have hlt5 := hS2.lt
            have hv5a : lb ≠ [] → ∀ y ∈ blkOf v5, y ∉ PF R ++ DF b kv r := fun _ y hy hh => by have := h5.inn.ge y hy; have := hlt5 y hh; have := (drw w2).1; omega
            have hv5s : SlE w5 v5 lb := .inl (show Sl w5 v5 lb from h5.own.sl)
            have hxp : lb ≠ [] → ∀ y ∈ blkOf (.slice pb lb.length cb), y ∉ blkOf pv := fun hne y hy hh => by have := hlt hne y hy; have := h1.own y (hinn y hh); omega
            by_cases hfr : P.fresh (UInt32.ofNat ii) = true
            · rw [if_pos hfr] at hwm
              have hin : ii < n := by have := hused _ (fresh_iff.1 hfr).1; omega
              by_cases h480 : lb.length ≤ 480
              · skip
                rw [if_pos h480] at hwm
                refine wpP_call rfl rfl rfl C22 ((write_run h55.ps (by omega) (toU32 (ii : Int)) (by rw [hiu]; exact hfr) v5 lb h480 hv5s hv5a :)) ?_
                rintro _ w6 ⟨rfl, ⟨ds6, hS6⟩, hc6⟩
                rw [hiu] at hS6
                refine ⟨⟨(hB55.chg hc6 hb5).c (off := 2) rfl, trivial⟩, ?_⟩
                have hob10 := h55.pager hS6 hc6 (fun y hy => .inl hy)
                obtain ⟨hM6, hap6⟩ := hob10
                refine wpP_call rfl rfl rfl C89 (mWrite_ok w6 mb pv ov M hM6 (by omega) ii (by omega) (.slice pb lb.length cb) lb (hx0.mod0 hS6.now) (by omega) hxp) ?_
                rintro v7 w7 ⟨hv7, hM7, hc7⟩
                refine ⟨trivial, ?_⟩
                rw [hwm] at hv7 hM7
                subst hv7
                refine wpP_pure rfl rfl rfl (fun _ => (x_eql rfl rfl)) ?_
                refine wpP_pure rfl rfl rfl (fun _ => x_assign) ?_
                refine wpP_nil (thenE_norm ?_)
                refine wpE_ret (blockE_ret (thenE_ret (fin_ret ?_)))
                have hkw : P.kept.written (UInt32.ofNat ii) = false := by
                  cases hq : P.kept.written (UInt32.ofNat ii) with
                  | false => rfl
                  | true => have := h1.ps.2.2.2.1.ok.kwritten _ hq; rw [(fresh_iff.1 hfr).2] at this; cases this
                exact ⟨congrArg Value.bool (decide_eq_true rfl), R, k + 1, ds6, _, _, pv, ov, _, rfl, h55.model hS6 hap6 hM7 hc7 hinn (fun y hy => .inl hy) (hR.write (by omega) hin hfr hkw lb), by omega, by show P.kept.commit.toNat ≤ _; omega⟩
              · skip
                rw [if_neg h480] at hwm
                refine wpP_call rfl rfl rfl C22 ((write_bad h55.ps (toU32 (ii : Int)) (by rw [hiu]; omega) v5 lb 11 (.inr ⟨by rw [hiu]; exact hfr, by omega, rfl⟩) hv5s hv5a :)) ?_
                rintro _ w6 ⟨rfl, hS6, hc6⟩
                refine ⟨⟨(hB55.chg hc6 hb5).c (off := 2) rfl, trivial⟩, ?_⟩
                have hob11 := h55.pager hS6 hc6 (fun y hy => .inl hy)
                obtain ⟨hM6, hap6⟩ := hob11
                refine wpP_call rfl rfl rfl C89 (mWrite_ok w6 mb pv ov M hM6 (by omega) ii (by omega) (.slice pb lb.length cb) lb (hx0.mod0 hS6.now) (by omega) hxp) ?_
                rintro v7 w7 ⟨hv7, hM7, hc7⟩
                refine ⟨trivial, ?_⟩
                rw [hwm] at hv7 hM7
                subst hv7
                refine wpP_pure rfl rfl rfl (fun _ => (x_eql rfl rfl)) ?_
                refine wpP_pure rfl rfl rfl (fun _ => x_assign) ?_
                refine wpP_nil (thenE_norm ?_)
                refine wpE_ret (blockE_ret (thenE_ret (fin_ret ?_)))
                exact ⟨congrArg Value.bool (decide_eq_true rfl), R, k, ds, P, V, pv, ov, M, rfl, h55.model hS6 hap6 hM7 hc7 hinn (fun y hy => .inl hy) hR, by omega, by omega⟩
            · skip
              rw [if_neg hfr] at hwm
              refine wpP_call rfl rfl rfl C22 ((write_bad h55.ps (toU32 (ii : Int)) (by rw [hiu]; omega) v5 lb 71 (.inl ⟨by rw [hiu]; simpa using hfr, rfl⟩) hv5s hv5a :)) ?_
              rintro _ w6 ⟨rfl, hS6, hc6⟩
              refine ⟨⟨(hB55.chg hc6 hb5).c (off := 2) rfl, trivial⟩, ?_⟩
              have hob12 := h55.pager hS6 hc6 (fun y hy => .inl hy)
              obtain ⟨hM6, hap6⟩ := hob12
              refine wpP_call rfl rfl rfl C89 (mWrite_ok w6 mb pv ov M hM6 (by omega) ii (by omega) (.slice pb lb.length cb) lb (hx0.mod0 hS6.now) (by omega) hxp) ?_
              rintro v7 w7 ⟨hv7, hM7, hc7⟩
              refine ⟨trivial, ?_⟩
              rw [hwm] at hv7 hM7
              subst hv7
              refine wpP_pure rfl rfl rfl (fun _ => (x_eql rfl rfl)) ?_
              refine wpP_pure rfl rfl rfl (fun _ => x_assign) ?_
              refine wpP_nil (thenE_norm ?_)
              refine wpE_ret (blockE_ret (thenE_ret (fin_ret ?_)))
              exact ⟨congrArg Value.bool (decide_eq_true rfl), R, k, ds, P, V, pv, ov, M, rfl, h55.model hS6 hap6 hM7 hc7 hinn (fun y hy => .inl hy) hR, by omega, by omega⟩
          · skip
            refine wpE_cond_df rfl (q2a) ?_
            refine wpE_region ?_
            refine wpL_value rfl (x_eql rfl rfl) (wpL_value rfl x_assign ?_)
            refine wpL_nil (thenE_norm ?_)
            refine wpE_cond_dt rfl (by omega) ?_
            refine wpE_seq ?_
            refine wpE_draw mixed (.pure 0 (.pure 1 (.pure 2 (.pure 3 (.read 4 (.pure 7 (.pure 8 (.pure 9 (.read 10 (.eff 5 [10] (.eff 6 [10] (.eff 11 [] (.pure 12 (.pure 13 .nil)))))))))))))) (by kernel_rfl) ?_
            refine wpP_pure rfl rfl rfl (fun _ => x_move) ?_
            refine wpP_pure rfl rfl rfl (fun _ => x_move) ?_
            refine wpP_pure rfl rfl rfl (fun _ => (x_conv32u rfl Tryz.underlying3 Tryz.underlying34)) ?_
            refine wpP_pure rfl rfl rfl (fun _ => (x_fieldAddr Tryz.underlying75 rfl I41 rfl rfl)) ?_
            refine wpP_rd rfl rfl rfl Tryz.underlying41 rfl rfl (hB5.c (off := 2) rfl) ?_
            refine wpP_pure rfl rfl rfl (fun _ => x_move) ?_
            refine wpP_pure rfl rfl rfl (fun _ => x_move) ?_
            refine wpP_pure rfl rfl rfl (fun _ => (x_fieldAddr Tryz.underlying75 rfl I41 rfl rfl)) ?_
            refine wpP_rd rfl rfl rfl Tryz.underlying41 rfl rfl (hB5.c (off := 2) rfl) ?_
            refine wpP_exw rfl rfl rfl (x_app Tryz.underlying41 Tryz.underlying41 I5 (.inr ⟨_, rfl⟩) rfl rfl rfl (by decide) (Own.nil _) ((hx0.mod0 (hS2.now.tr (drw _))).src) rfl rfl (by simp; omega)) ?_
            rintro v5 w5 h5
            have hc25 : Chg [] w2 w5 := (drw w2).tr h5.mod
            have hB55 : Blk w5 b5 [.int .i64 x.what, .int .i64 x.i, .slice pb lb.length cb, .int .u32 x.root.toNat, str x.txt, x.ch.1] := hB5.chg hc25 (by simp)
            refine ⟨⟨hB55.c (off := 2) rfl, trivial⟩, ?_⟩
            have h55 : SS w0 w5 b kv r R n k key ds P V mb pv ov M := ⟨hS2.chg0 hc25, hM2.chg0 hc25, hR, h1.own, h1.apart⟩
            have hlt5 := hS2.lt
            have hv5a : lb ≠ [] → ∀ y ∈ blkOf v5, y ∉ PF R ++ DF b kv r := fun _ y hy hh => by have := h5.inn.ge y hy; have := hlt5 y hh; have := (drw w2).1; omega
            have hv5s : SlE w5 v5 lb := .inl (show Sl w5 v5 lb from h5.own.sl)
            have hxp : lb ≠ [] → ∀ y ∈ blkOf (.slice pb lb.length cb), y ∉ blkOf pv := fun hne y hy hh => by have := hlt hne y hy; have := h1.own y (hinn y hh); omega
            by_cases hfr : P.fresh (UInt32.ofNat ii) = true
            · rw [if_pos hfr] at hwm
              have hin : ii < n := by have := hused _ (fresh_iff.1 hfr).1; omega
              by_cases h480 : lb.length ≤ 480
              · skip
                rw [if_pos h480] at hwm
                refine wpP_call rfl rfl rfl C22 ((write_run h55.ps (by omega) (toU32 (ii : Int)) (by rw [hiu]; exact hfr) v5 lb h480 hv5s hv5a :)) ?_
                rintro _ w6 ⟨rfl, ⟨ds6, hS6⟩, hc6⟩
                rw [hiu] at hS6
                refine ⟨⟨(hB55.chg hc6 hb5).c (off := 2) rfl, trivial⟩, ?_⟩
                have hob13 := h55.pager hS6 hc6 (fun y hy => .inl hy)
                obtain ⟨hM6, hap6⟩ := hob13
                refine wpP_call rfl rfl rfl C89 (mWrite_ok w6 mb pv ov M hM6 (by omega) ii (by omega) (.slice pb lb.length cb) lb (hx0.mod0 hS6.now) (by omega) hxp) ?_
                rintro v7 w7 ⟨hv7, hM7, hc7⟩
                refine ⟨trivial, ?_⟩
                rw [hwm] at hv7 hM7
                subst hv7
                refine wpP_pure rfl rfl rfl (fun _ => (x_eql rfl rfl)) ?_
                refine wpP_pure rfl rfl rfl (fun _ => x_assign) ?_
                refine wpP_nil (thenE_norm ?_)
                refine wpE_ret (blockE_ret (thenE_ret (fin_ret ?_)))
                have hkw : P.kept.written (UInt32.ofNat ii) = false := by
                  cases hq : P.kept.written (UInt32.ofNat ii) with
                  | false => rfl
                  | true => have := h1.ps.2.2.2.1.ok.kwritten _ hq; rw [(fresh_iff.1 hfr).2] at this; cases this
                exact ⟨congrArg Value.bool (decide_eq_true rfl), R, k + 1, ds6, _, _, pv, ov, _, rfl, h55.model hS6 hap6 hM7 hc7 hinn (fun y hy => .inl hy) (hR.write (by omega) hin hfr hkw lb), by omega, by show P.kept.commit.toNat ≤ _; omega⟩
              · skip
                rw [if_neg h480] at hwm
                refine wpP_call rfl rfl rfl C22 ((write_bad h55.ps (toU32 (ii : Int)) (by rw [hiu]; omega) v5 lb 11 (.inr ⟨by rw [hiu]; exact hfr, by omega, rfl⟩) hv5s hv5a :)) ?_
                rintro _ w6 ⟨rfl, hS6, hc6⟩
                refine ⟨⟨(hB55.chg hc6 hb5).c (off := 2) rfl, trivial⟩, ?_⟩
                have hob14 := h55.pager hS6 hc6 (fun y hy => .inl hy)
                obtain ⟨hM6, hap6⟩ := hob14
                refine wpP_call rfl rfl rfl C89 (mWrite_ok w6 mb pv ov M hM6 (by omega) ii (by omega) (.slice pb lb.length cb) lb (hx0.mod0 hS6.now) (by omega) hxp) ?_
                rintro v7 w7 ⟨hv7, hM7, hc7⟩
                refine ⟨trivial, ?_⟩
                rw [hwm] at hv7 hM7
                subst hv7
                refine wpP_pure rfl rfl rfl (fun _ => (x_eql rfl rfl)) ?_
                refine wpP_pure rfl rfl rfl (fun _ => x_assign) ?_
                refine wpP_nil (thenE_norm ?_)
                refine wpE_ret (blockE_ret (thenE_ret (fin_ret ?_)))
                exact ⟨congrArg Value.bool (decide_eq_true rfl), R, k, ds, P, V, pv, ov, M, rfl, h55.model hS6 hap6 hM7 hc7 hinn (fun y hy => .inl hy) hR, by omega, by omega⟩
            · skip
              rw [if_neg hfr] at hwm
              refine wpP_call rfl rfl rfl C22 ((write_bad h55.ps (toU32 (ii : Int)) (by rw [hiu]; omega) v5 lb 71 (.inl ⟨by rw [hiu]; simpa using hfr, rfl⟩) hv5s hv5a :)) ?_
              rintro _ w6 ⟨rfl, hS6, hc6⟩
              refine ⟨⟨(hB55.chg hc6 hb5).c (off := 2) rfl, trivial⟩, ?_⟩
              have hob15 := h55.pager hS6 hc6 (fun y hy => .inl hy)
              obtain ⟨hM6, hap6⟩ := hob15
              refine wpP_call rfl rfl rfl C89 (mWrite_ok w6 mb pv ov M hM6 (by omega) ii (by omega) (.slice pb lb.length cb) lb (hx0.mod0 hS6.now) (by omega) hxp) ?_
              rintro v7 w7 ⟨hv7, hM7, hc7⟩
              refine ⟨trivial, ?_⟩
              rw [hwm] at hv7 hM7
              subst hv7
              refine wpP_pure rfl rfl rfl (fun _ => (x_eql rfl rfl)) ?_
              refine wpP_pure rfl rfl rfl (fun _ => x_assign) ?_
              refine wpP_nil (thenE_norm ?_)
              refine wpE_ret (blockE_ret (thenE_ret (fin_ret ?_)))
              exact ⟨congrArg Value.bool (decide_eq_true rfl), R, k, ds, P, V, pv, ov, M, rfl, h55.model hS6 hap6 hM7 hc7 hinn (fun y hy => .inl hy) hR, by omega, by omega⟩
        · skip
          refine wpE_cond_df rfl (fun h => q2 (.inl h)) ?_
          refine wpE_region ?_
          refine wpL_value rfl (x_eql rfl rfl) (wpL_value rfl x_assign ?_)
          refine wpL_nil (thenE_norm ?_)
          refine wpE_cond_df rfl (fun h => q2 (.inr h)) ?_
          refine wpE_seq ?_
          refine wpE_region ?_
          refine wpL_value rfl (x_eql rfl rfl) (wpL_value rfl x_assign ?_)
          refine wpL_nil (thenE_norm ?_)
          by_cases q4 : x.what = 4
          · skip
            refine wpE_cond_dt rfl (q4) ?_
            refine wpE_seq ?_
            refine wpE_region ?_
            refine wpL_value rfl x_move (wpL_value rfl x_move (wpL_value rfl (x_conv32u rfl Tryz.underlying3 Tryz.underlying34) ?_))
            have hrm := hR.readM h1.written hused (by omega) hiin
            by_cases hw : P.now.written (UInt32.ofNat ii) = true
            · skip
              rw [if_pos hw] at hrm
              refine wpL_call rfl C29 ((read_run hS2 (toU32 (ii : Int)) (by rw [hiu]; exact hw) :)) ?_
              rintro _ w3 ⟨⟨rv, rfl, hsr⟩, hS3, hc3⟩
              refine wpL_value rfl x_move (wpL_value rfl (x_extract rfl rfl) (wpL_value rfl (x_extract rfl rfl) (wpL_value rfl x_assign (wpL_value rfl x_assign ?_))))
              refine wpL_nil (thenE_norm ?_)
              refine wpE_seq ?_
              refine wpE_region ?_
              refine wpL_value rfl x_move (wpL_value rfl x_move ?_)
              rw [hiu] at hsr
              refine wpL_call rfl C90 (mRead_ok w3 mb pv ov M (hM2.chg0 hc3) (by omega) ii (by omega)) ?_
              rintro v4 w4 ⟨hv4, hh4⟩
              rw [hrm] at hv4
              subst hv4
              refine wpL_value rfl x_move (wpL_value rfl (x_extract rfl rfl) (wpL_value rfl (x_extract rfl rfl) (wpL_value rfl x_assign (wpL_value rfl x_assign ?_))))
              refine wpL_nil (thenE_norm ?_)
              refine wpE_seq ?_
              refine wpE_region ?_
              refine wpL_value rfl x_move (wpL_value rfl x_move ?_)
              refine wpL_value rfl (x_to (x_eql rfl rfl) (congrArg Value.bool (decide_eq_true (rfl)))) ?_
              refine wpL_value rfl x_move (wpL_yes rfl (wpL_value rfl x_move (wpL_yes rfl ?_)))
              refine wpL_value rfl (x_b2s Tryz.underlying41 Tryz.underlying5 Tryz.underlying9 (hsr.heap hh4) rfl) ?_
              refine wpL_yes rfl (wpL_value rfl x_move (wpL_yes rfl (wpL_value rfl (x_eqS rfl rfl) (wpL_value rfl (x_pick_t rfl) (wpL_value rfl x_assign ?_)))))
              refine wpL_nil (thenE_norm ?_)
              refine wpE_ret (blockE_ret (thenE_ret (fin_ret ?_)))
              exact ⟨congrArg Value.bool (decide_eq_true rfl), R, k, ds, P, V, pv, ov, M, rfl, ⟨hS3.chg0 (Chg.heap hh4), (hM2.chg0 hc3).chg0 (Chg.heap hh4), hR, h1.own, h1.apart⟩, by omega, by omega⟩
            · skip
              rw [if_neg hw] at hrm
              refine wpL_call rfl C29 ((read_none hS2 (toU32 (ii : Int)) (by rw [hiu]; simpa using hw) :)) ?_
              rintro _ w3 ⟨rfl, hS3, hc3⟩
              refine wpL_value rfl x_move (wpL_value rfl (x_extract rfl rfl) (wpL_value rfl (x_extract rfl rfl) (wpL_value rfl x_assign (wpL_value rfl x_assign ?_))))
              refine wpL_nil (thenE_norm ?_)
              refine wpE_seq ?_
              refine wpE_region ?_
              refine wpL_value rfl x_move (wpL_value rfl x_move ?_)
              refine wpL_call rfl C90 (mRead_ok w3 mb pv ov M (hM2.chg0 hc3) (by omega) ii (by omega)) ?_
              rintro v4 w4 ⟨hv4, hh4⟩
              rw [hrm] at hv4
              subst hv4
              refine wpL_value rfl x_move (wpL_value rfl (x_extract rfl rfl) (wpL_value rfl (x_extract rfl rfl) (wpL_value rfl x_assign (wpL_value rfl x_assign ?_))))
              refine wpL_nil (thenE_norm ?_)
              refine wpE_seq ?_
              refine wpE_region ?_
              refine wpL_value rfl x_move (wpL_value rfl x_move ?_)
              refine wpL_value rfl (x_to (x_eql rfl rfl) (congrArg Value.bool (decide_eq_true (rfl)))) ?_
              refine wpL_value rfl x_move (wpL_yes rfl (wpL_value rfl x_move (wpL_yes rfl ?_)))
              refine wpL_value rfl (x_b2s Tryz.underlying41 Tryz.underlying5 Tryz.underlying9 (Sl.nil (α := UInt8) w4 0) rfl) ?_
              refine wpL_yes rfl (wpL_value rfl x_move (wpL_yes rfl (wpL_value rfl (x_eqS rfl rfl) (wpL_value rfl (x_pick_t rfl) (wpL_value rfl x_assign ?_)))))
              refine wpL_nil (thenE_norm ?_)
              refine wpE_ret (blockE_ret (thenE_ret (fin_ret ?_)))
              exact ⟨congrArg Value.bool (decide_eq_true rfl), R, k, ds, P, V, pv, ov, M, rfl, ⟨hS3.chg0 (Chg.heap hh4), (hM2.chg0 hc3).chg0 (Chg.heap hh4), hR, h1.own, h1.apart⟩, by omega, by omega⟩
          · skip
            refine wpE_cond_df rfl (q4) ?_
            refine wpE_seq ?_
            refine wpE_region ?_
            refine wpL_value rfl (x_eql rfl rfl) (wpL_value rfl x_assign ?_)
            refine wpL_nil (thenE_norm ?_)
            by_cases q5 : x.what = 5
            · skip
              refine wpE_cond_dt rfl (q5) ?_
              refine wpE_seq ?_
              refine wpE_region ?_
              refine wpL_value rfl x_move (wpL_value rfl x_move (wpL_value rfl (x_conv32u rfl Tryz.underlying3 Tryz.underlying34) ?_))
              have hfm2 := hR.freeM hused (by omega) hiin
              by_cases hu : P.now.used (UInt32.ofNat ii) = true
              · skip
                rw [if_pos hu] at hfm2
                have hin : ii < n := by have := hused _ hu; omega
                refine wpL_call rfl C33 ((free_run hS2 (toU32 (ii : Int)) (by rw [hiu]; exact hu) :)) ?_
                rintro _ w3 ⟨rfl, hS3, hc3⟩
                refine wpL_value rfl x_move (wpL_value rfl x_move ?_)
                rw [hiu] at hS3
                have hob16 := h1.pager hS3 hc3 (fun y hy => .inl hy)
                obtain ⟨hM3, hap3⟩ := hob16
                refine wpL_call rfl C91 (mFree_ok w3 mb pv ov M hM3 (by omega) ii (by omega)) ?_
                rintro v4 w4 ⟨hv4, hM4, hc4⟩
                rw [hfm2] at hv4 hM4
                subst hv4
                refine wpL_value rfl (x_eql rfl rfl) (wpL_value rfl x_assign ?_)
                refine wpL_nil (thenE_norm ?_)
                refine wpE_ret (blockE_ret (thenE_ret (fin_ret ?_)))
                exact ⟨congrArg Value.bool (decide_eq_true rfl), R, k, ds, _, V, pv, ov, _, rfl, h1.model hS3 hap3 hM4 hc4 hinn (fun y hy => .inl hy) (hR.free (by omega) hin), by omega, by show P.kept.commit.toNat ≤ _; omega⟩
              · skip
                rw [if_neg hu] at hfm2
                refine wpL_call rfl C33 ((free_none hS2 (toU32 (ii : Int)) (by rw [hiu]; simpa using hu) :)) ?_
                rintro _ w3 ⟨rfl, hS3, hc3⟩
                refine wpL_value rfl x_move (wpL_value rfl x_move ?_)
                have hob17 := h1.pager hS3 hc3 (fun y hy => .inl hy)
                obtain ⟨hM3, hap3⟩ := hob17
                refine wpL_call rfl C91 (mFree_ok w3 mb pv ov M hM3 (by omega) ii (by omega)) ?_
                rintro v4 w4 ⟨hv4, hM4, hc4⟩
                rw [hfm2] at hv4 hM4
                subst hv4
                refine wpL_value rfl (x_eql rfl rfl) (wpL_value rfl x_assign ?_)
                refine wpL_nil (thenE_norm ?_)
                refine wpE_ret (blockE_ret (thenE_ret (fin_ret ?_)))
                exact ⟨congrArg Value.bool (decide_eq_true rfl), R, k, ds, P, V, pv, ov, M, rfl, h1.model hS3 hap3 hM4 hc4 hinn (fun y hy => .inl hy) hR, by omega, by omega⟩
            · skip
              refine wpE_cond_df rfl (q5) ?_
              refine wpE_seq ?_
              refine wpE_region ?_
              refine wpL_value rfl (x_eql rfl rfl) (wpL_value rfl x_assign ?_)
              refine wpL_nil (thenE_norm ?_)
              by_cases q6 : x.what = 6
              · skip
                refine wpE_cond_dt rfl (q6) ?_
                refine wpE_seq ?_
                refine wpE_draw mixed (.pure 0 (.pure 1 (.read 2 (.pure 3 (.read 4 (.pure 6 (.pure 7 (.read 8 (.pure 9 (.read 10 (.eff 5 [8, 10] (.eff 11 [] (.pure 12 (.pure 13 .nil)))))))))))))) (by kernel_rfl) ?_
                refine wpP_pure rfl rfl rfl (fun _ => x_move) ?_
                refine wpP_pure rfl rfl rfl (fun _ => (x_fieldAddr Tryz.underlying75 rfl I34 rfl rfl)) ?_
                refine wpP_rd rfl rfl rfl Tryz.underlying34 rfl rfl (hB5.c (off := 3) rfl) ?_
                refine wpP_pure rfl rfl rfl (fun _ => (x_fieldAddr Tryz.underlying75 rfl I9 rfl rfl)) ?_
                refine wpP_rd rfl rfl rfl Tryz.underlying9 rfl rfl (hB5.c (off := 4) rfl) ?_
                refine wpP_pure rfl rfl rfl (fun _ => x_move) ?_
                refine wpP_pure rfl rfl rfl (fun _ => (x_fieldAddr Tryz.underlying75 rfl I34 rfl rfl)) ?_
                refine wpP_rd rfl rfl rfl Tryz.underlying34 rfl rfl (hB5.c (off := 3) rfl) ?_
                refine wpP_pure rfl rfl rfl (fun _ => (x_fieldAddr Tryz.underlying75 rfl I9 rfl rfl)) ?_
                refine wpP_rd rfl rfl rfl Tryz.underlying9 rfl rfl (hB5.c (off := 4) rfl) ?_
                have hS3 := hS2.chg0 (drw w2)
                have h3 : SS w0 { w2 with drawn := w2.drawn + 1 } b kv r R n k key ds P V mb pv ov M := ⟨hS3, hM2.chg0 (drw w2), hR, h1.own, h1.apart⟩
                have hB3 := hB5.chg (drw w2) (by simp)
                have hmm : ∀ y ∈ mb :: blkOf pv, y ∈ MF mb pv ov := fun y hy => by
                  simp only [List.mem_cons] at hy
                  rcases hy with rfl | hy
                  · simp [MF]
                  · simp [MF, hy]
                have hnn : ∀ (ov' : Value) (z : Nat), (∀ y ∈ blkOf ov', y ∈ blkOf ov ∨ z ≤ y) → ∀ y ∈ MF mb pv ov', y ∈ MF mb pv ov ∨ z ≤ y := fun ov' z hz y hy => by
                  simp only [MF, List.mem_cons, List.mem_append] at hy
                  rcases hy with rfl | hy | hy
                  · exact .inl (by simp [MF])
                  · exact .inl (by simp [MF, hy])
                  · rcases hz y hy with q | q
                    · exact .inl (by simp [MF, q])
                    · exact .inr q
                by_cases ht : 200 < x.txt.length
                · skip
                  refine wpP_call rfl rfl rfl C23 ((commit_bad hS3 x.root x.txt 11 (.inl ⟨ht, rfl⟩) :)) ?_
                  rintro _ w4 ⟨rfl, ⟨u4, r4, ku4, kr4, hR4, hS4⟩, hc4⟩
                  have hB4 := hB3.chg hc4 hb5
                  refine ⟨⟨hB4.c (off := 3) rfl, hB4.c (off := 4) rfl, trivial⟩, ?_⟩
                  have hob18 := h3.pager hS4 hc4 hR4
                  obtain ⟨hM4, hap4⟩ := hob18
                  refine wpP_call rfl rfl rfl C43 (mCommit_ok w4 mb pv ov M hM4 (by omega) x.root x.txt) ?_
                  rintro v5 w5 ⟨⟨M5, e5, ov5, hCM, hv5, hM5, hov5⟩, hc5⟩
                  refine ⟨trivial, ?_⟩
                  have hob19 := hCM.long ht
                  obtain ⟨rfl, rfl⟩ := hob19
                  subst hv5
                  refine wpP_pure rfl rfl rfl (fun _ => (x_eql rfl rfl)) ?_
                  refine wpP_pure rfl rfl rfl (fun _ => x_assign) ?_
                  refine wpP_nil (thenE_norm ?_)
                  refine wpE_ret (blockE_ret (thenE_ret (fin_ret ?_)))
                  exact ⟨congrArg Value.bool (decide_eq_true rfl), { R with u := u4, r := r4, ku := ku4, kr := kr4 }, k, ds, P, V, pv, ov5, _, rfl, h3.model hS4 hap4 hM5 hc5 hmm (hnn _ _ hov5) hR, by omega, by omega⟩
                · by_cases hbad : ∃ i, P.fresh i = true ∧ P.now.written i = false
                  · skip
                    refine wpP_call rfl rfl rfl C23 ((commit_bad hS3 x.root x.txt 71 (.inr ⟨by omega, hbad, rfl⟩) :)) ?_
                    rintro _ w4 ⟨rfl, ⟨u4, r4, ku4, kr4, hR4, hS4⟩, hc4⟩
                    have hB4 := hB3.chg hc4 hb5
                    refine ⟨⟨hB4.c (off := 3) rfl, hB4.c (off := 4) rfl, trivial⟩, ?_⟩
                    have hob20 := h3.pager hS4 hc4 hR4
                    obtain ⟨hM4, hap4⟩ := hob20
                    refine wpP_call rfl rfl rfl C43 (mCommit_ok w4 mb pv ov M hM4 (by omega) x.root x.txt) ?_
                    rintro v5 w5 ⟨⟨M5, e5, ov5, hCM, hv5, hM5, hov5⟩, hc5⟩
                    refine ⟨trivial, ?_⟩
                    have hob21 := hCM.bad hR (by omega) hused hbad
                    obtain ⟨rfl, rfl⟩ := hob21
                    subst hv5
                    refine wpP_pure rfl rfl rfl (fun _ => (x_eql rfl rfl)) ?_
                    refine wpP_pure rfl rfl rfl (fun _ => x_assign) ?_
                    refine wpP_nil (thenE_norm ?_)
                    refine wpE_ret (blockE_ret (thenE_ret (fin_ret ?_)))
                    exact ⟨congrArg Value.bool (decide_eq_true rfl), { R with u := u4, r := r4, ku := ku4, kr := kr4 }, k, ds, P, V, pv, ov5, _, rfl, h3.model hS4 hap4 hM5 hc5 hmm (hnn _ _ hov5) hR, by omega, by omega⟩
                  · skip
                    have hgood : ∀ i, P.fresh i = true → P.now.written i = true := fun i hi => by
                      cases hq : P.now.written i with
                      | true => rfl
                      | false => exact absurd ⟨i, hi, hq⟩ hbad
                    refine wpP_call rfl rfl rfl C23 ((commit_run hS3 (by omega) x.root x.txt (by omega) hgood :)) ?_
                    rintro _ w4 ⟨rfl, ⟨u4, r4, ku4, kr4, ds4, hR4, hS4, _, _⟩, hc4⟩
                    have hB4 := hB3.chg hc4 hb5
                    refine ⟨⟨hB4.c (off := 3) rfl, hB4.c (off := 4) rfl, trivial⟩, ?_⟩
                    have hob22 := h3.pager hS4 hc4 hR4
                    obtain ⟨hM4, hap4⟩ := hob22
                    refine wpP_call rfl rfl rfl C43 (mCommit_ok w4 mb pv ov M hM4 (by omega) x.root x.txt) ?_
                    rintro v5 w5 ⟨⟨M5, e5, ov5, hCM, hv5, hM5, hov5⟩, hc5⟩
                    refine ⟨trivial, ?_⟩
                    have hob23 := hCM.good hR (by omega) hgood
                    obtain ⟨rfl, rfl⟩ := hob23
                    subst hv5
                    refine wpP_pure rfl rfl rfl (fun _ => (x_eql rfl rfl)) ?_
                    refine wpP_pure rfl rfl rfl (fun _ => x_assign) ?_
                    refine wpP_nil (thenE_norm ?_)
                    refine wpE_ret (blockE_ret (thenE_ret (fin_ret ?_)))
                    exact ⟨congrArg Value.bool (decide_eq_true rfl), { R with u := u4, r := r4, ku := ku4, kr := kr4 }, k + 1, ds4, _, V, pv, ov5, _, rfl, h3.model hS4 hap4 hM5 hc5 hmm (hnn _ _ hov5) (hR.commit x.root x.txt h1.written), by omega, com_le _⟩
              · skip
                refine wpE_cond_df rfl (q6) ?_
                refine wpE_skip (blockE_norm (thenE_norm ?_))
                refine wpE_seq ?_
                refine wpE_region ?_
                refine wpL_value rfl x_move ?_
                refine wpL_call rfl C35 (undo_run2 hS2) ?_
                rintro _ w3 ⟨u3, r3, hS3, hc3, hR3⟩
                refine wpL_nil (thenE_norm ?_)
                refine wpE_seq ?_
                refine wpE_region ?_
                refine wpL_value rfl x_move ?_
                have hob24 := h1.pager hS3 hc3 hR3
                obtain ⟨hM3, hap3⟩ := hob24
                refine wpL_call rfl C45 (mUndo_ok w3 mb pv ov M hM3 (by rw [hR.lo]; omega)) ?_
                rintro v4 w4 ⟨pv4, hM4, hi4, hc4⟩
                refine wpL_nil (thenE_norm ?_)
                refine wpE_seq ?_
                refine wpE_region ?_
                refine wpL_value rfl x_assign ?_
                refine wpL_nil (thenE_norm ?_)
                refine wpE_ret (fin_ret ?_)
                refine ⟨rfl, { R with u := u3, r := r3 }, k, ds, _, V, pv4, ov, _, rfl, h1.model hS3 hap3 hM4 hc4 (fun y hy => by simp at hy; subst hy; simp [MF]) (fun y hy => ?_) (hR.back rfl rfl rfl rfl rfl), by omega, by show P.kept.commit.toNat ≤ _; omega⟩
                simp only [MF, List.mem_cons, List.mem_append] at hy
                rcases hy with rfl | hy | hy
                · exact .inl (by simp [MF])
                · exact .inr (hi4 _ hy)
                · exact .inl (by simp [MF, hy])
end
end Go.Proofs.YtenhmbhflgnhlaaGreat

