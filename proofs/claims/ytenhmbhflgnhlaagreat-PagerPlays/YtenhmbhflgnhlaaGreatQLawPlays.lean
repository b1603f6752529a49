/- every row of calls, crashes, the power going within a commit: what each tells -/
import Derived.Test.YtenhmbhflgnhlaaGreatQLaw7d
namespace Go.Proofs.YtenhmbhflgnhlaaGreat
open Go Go.Sac
set_option maxRecDepth 100000
set_option maxHeartbeats 4000000
theorem x_rem64 {Q : Program} {E : Env} {w : World} {ty t u : TypeId} {x y : Operand} {a b : Int} (hx : ev E x = .int .i64 a) (hy : ev E y = .int .i64 b) (h : b ≠ 0) : exec Q E (.binOp .rem t x y u) ty w = .ok (.value (.int .i64 (a.tmod b))) w := x_rem hx hy h
theorem tmod40 (a : Int) : -40 < a.tmod 40 ∧ a.tmod 40 < 40 := by
  rcases Int.le_total 0 a with h | h
  · rw [Int.tmod_eq_emod_of_nonneg h]; omega
  · have e : a.tmod 40 = -((-a).tmod 40) := by rw [Int.neg_tmod, Int.neg_neg]
    rw [e, Int.tmod_eq_emod_of_nonneg (by omega)]; omega
theorem power_same {ds : DSt} (h0 : ds.offAt = 0) (hf : ds.Fine) (n : Int) : (ds.power n).kept = ds.kept ∧ (ds.power n).pend = ds.pend ∧ (ds.power n).steps = ds.steps ∧ (ds.power n).Fine ∧ (0 < (ds.power n).offAt → 0 < n) := by
  have hoff : ds.off = false := by unfold DSt.off; rw [h0]; rfl
  obtain ⟨f1, f2, f3, f4⟩ := hf
  unfold DSt.power
  rw [if_neg (by rw [hoff]; decide)]
  by_cases hn : n ≤ 0
  · rw [if_pos hn]
    exact ⟨rfl, rfl, rfl, ⟨f1, by show 0 ≤ _; omega, f3, f4⟩, fun h => by have h : 0 < 0 := h; omega⟩
  · rw [if_neg hn]
    exact ⟨rfl, rfl, rfl, ⟨f1, by show ds.steps + (min n 1099511627776).toNat ≤ _; omega, f3, f4⟩, fun _ => by omega⟩
def comP (P : Pg) (root : UInt32) (txt : List UInt8) : Pg := { P with now := (comS P root txt).st, kept := comS P root txt, at_ := (P.at_ + 1) % 2 }
structure Cut (w0 w' : World) (b r n k c : Nat) (kv : Value) (key : List UInt8) (V : UInt32 → List UInt8) (m7 mb nb : Nat) (f : Int) (dq : DSt) : Prop where
  run : RunD w0 w' b kv r dq
  fine : dq.Fine
  ends : (m7 = nb ∧ f = 0 ∧ ∃ pn on N Pn, MAt w' nb pn on N ∧ (∀ x ∈ MF nb pn on, w0.heap.size ≤ x ∧ x ∉ DF b kv r) ∧ RelP n Pn V N ∧ (∀ i, Pn.kept.written i = true → Pn.kept.used i = true) ∧ ∀ ch, ∃ a Mx, Mx ≤ c + 1 ∧ PCraM n (k + 1) key (dq.crash ch) a Pn.kept V Mx) ∨
    (m7 = mb ∧ ∃ pv ov M P pn on N Pn, MAt w' mb pv ov M ∧ MAt w' nb pn on N ∧ (∀ x ∈ MF mb pv ov, w0.heap.size ≤ x ∧ x ∉ DF b kv r) ∧ (∀ x ∈ MF nb pn on, w0.heap.size ≤ x ∧ x ∉ DF b kv r) ∧ (∀ x ∈ MF mb pv ov, x ∉ MF nb pn on) ∧ RelP n P V M ∧ RelP n Pn V N ∧
      (∀ i, P.kept.written i = true → P.kept.used i = true) ∧ (∀ i, Pn.kept.written i = true → Pn.kept.used i = true) ∧
      ∀ ch, (∃ a Mx, Mx ≤ c + 1 ∧ PCraM n (k + 1) key (dq.crash ch) a P.kept V Mx) ∨ (f = 61 ∧ ∃ a Mx, Mx ≤ c + 1 ∧ PCraM n (k + 1) key (dq.crash ch) a Pn.kept V Mx))
theorem PagerPlays_ok (w : World) (x0 : UInt8) (lv : Value) (l : List Step7) (hl : Sl w lv l) (hok : ∀ x ∈ l, okStep7 w x) :
    Ret Tryz.prog 9 #[.int .u8 x0.toNat, lv] w fun v w' => v = .bool true ∧ Chg [] w w' := by
  have hm8 : (x0 % 8).toNat < 8 := by rw [UInt8.toNat_mod]; exact Nat.mod_lt _ (by decide)
  obtain ⟨pl, cl, rfl⟩ := hl.form rfl
  refine enter [4] Tryz.func9 rfl rfl (Nat.le_of_ble_eq_true rfl) ?_
  refine wpE_seq ?_
  refine wpE_region ?_
  refine wpL_value rfl x_assign ?_
  refine wpL_nil (thenE_norm ?_)
  refine wpE_seq ?_
  refine wpE_seq ?_
  refine wpE_region ?_
  refine wpL_call rfl C19 (known7_ok w) ?_
  rintro _ w1 ⟨rfl, hc1⟩
  refine wpL_value rfl (x_not rfl) ?_
  refine wpL_nil (thenE_norm ?_)
  refine wpE_cond_f (rfl) ?_
  refine wpE_skip (thenE_norm ?_)
  refine wpE_seq ?_
  refine wpE_seq ?_
  refine wpE_region ?_
  refine wpL_value rfl x_move (wpL_value rfl (x_len_slice rfl Tryz.underlying71) (wpL_value rfl (x_gtr rfl rfl) ?_))
  refine wpL_nil (thenE_norm ?_)
  refine wpE_cond_d rfl (fun h40 => ?_) (fun h40 => ?_)
  · skip
    refine wpE_seq ?_
    refine wpE_region ?_
    refine wpL_value rfl x_assign ?_
    refine wpL_nil (thenE_norm ?_)
    refine wpE_ret (thenE_ret (fin_ret ?_))
    exact ⟨rfl, hc1⟩
  · skip
    refine wpE_skip (thenE_norm ?_)
    refine wpE_seq ?_
    refine wpE_region ?_
    refine wpL_value rfl x_move (wpL_value rfl (x_rem8u (b := 8) rfl rfl (by decide)) (wpL_value rfl (x_convI rfl Tryz.underlying5 Tryz.underlying3 (by omega)) (wpL_value rfl (x_add64 rfl rfl (by omega)) ?_)))
    generalize (x0 % 8).toNat = m at *
    refine wpL_call rfl C20 (begun_run (n := m + 4) (by omega) V0 hc1) ?_
    rintro _ w2 ⟨b, kv, r, R, a, ds, mb, pv, ov, rfl, hS2, hM2, hMF, hc2⟩
    refine wpL_value rfl x_move (wpL_value rfl (x_extract rfl rfl) (wpL_value rfl (x_extract rfl rfl) (wpL_value rfl (x_extract rfl rfl) (wpL_value rfl (x_extract rfl rfl) (wpL_value rfl x_assign (wpL_value rfl x_assign (wpL_value rfl x_assign (wpL_value rfl x_assign ?_))))))))
    refine wpL_nil (thenE_norm ?_)
    refine wpE_seq ?_
    refine wpE_seq ?_
    refine wpE_region ?_
    refine wpL_value rfl x_move (wpL_value rfl (x_not rfl) ?_)
    refine wpL_nil (thenE_norm ?_)
    refine wpE_cond_f (rfl) ?_
    refine wpE_skip (thenE_norm ?_)
    refine wpE_seq ?_
    refine wpE_seq ?_
    refine wpE_region ?_
    refine wpL_value rfl x_assign ?_
    refine wpL_nil (thenE_norm ?_)
    refine wpE_block ?_
    have h2 : SS w w2 b kv r R (m + 4) 1 k39 ds (pgZ a) V0 mb pv ov (Mdl.zero (m + 4)) := ⟨hS2, hM2, RelP.zero _ _ _, fun x hx => Nat.le_trans hc1.1 (hMF x hx).1, fun x hx => (hMF x hx).2⟩
    refine wpE_loopF [1, 5, 6, 7, 9] (fun q vs w' => ∃ (i k : Nat) (R : PR) (ds : DSt) (P : Pg) (V : UInt32 → List UInt8) (mb : Nat) (pv ov : Value) (M : Mdl), vs = [.slice pl l.length cl, .pointer (some ⟨b, 0, none⟩), .pointer (some ⟨R.pb, 0, none⟩), .pointer (some ⟨mb, 0, none⟩), .int .i64 i] ∧ i + q = l.length ∧ SS w w' b kv r R (m + 4) k k39 ds P V mb pv ov M ∧ k ≤ 3 * i + 1 ∧ P.kept.commit.toNat ≤ 3 * i + 2) (l.length) ?_ ?_
    · exact ⟨0, 1, R, ds, pgZ a, V0, mb, pv, ov, _, rfl, by omega, h2, by omega, Nat.le_refl 2⟩
    · rintro q vs J w3 ⟨i, k, R, ds, P, V, mb, pv, ov, M, rfl, hi, h3, hk3, hcm3⟩
      refine wpE_seq ?_
      refine wpE_seq ?_
      refine wpE_region ?_
      refine wpL_value rfl x_move (wpL_value rfl x_move (wpL_value rfl (x_len_slice rfl Tryz.underlying71) (wpL_value rfl (x_lss rfl rfl) ?_)))
      refine wpL_nil (thenE_norm ?_)
      refine wpE_cond_d rfl (fun hil => ?_) (fun hil => ?_)
      · skip
        refine wpE_skip (thenE_norm ?_)
        refine wpE_seq ?_
        refine wpE_block ?_
        refine wpE_seq ?_
        refine wpE_region ?_
        refine wpL_value rfl x_move (wpL_value rfl x_move ?_)
        have hob1 : ∃ z, q = z + 1 := ⟨q - 1, by omega⟩
        obtain ⟨q, rfl⟩ := hob1
        have hli : l[i]? = some (l.getD i step70) := getD_some (by omega)
        have hob2 : ∃ x, x = l.getD i step70 := ⟨_, rfl⟩
        obtain ⟨x, hx⟩ := hob2
        rw [← hx] at hli
        have hob3 := hok x (List.mem_of_getElem? hli)
        obtain ⟨hok1, hok2, ⟨sb, hsb⟩, hok3, ⟨sc, hsc⟩⟩ := hob3
        have hl3 := hl.mod0 h3.ps.now
        refine wpL_ex rfl (x_idx (i) Tryz.underlying71 I75 rfl (hl3) rfl rfl (by first | rfl | omega) (by omega)) ?_
        rintro _ ⟨bi, oi, rfl, hei, hbi⟩
        refine wpL_value rfl (x_loadA Tryz.underlying75 rfl I75 rfl (hl3.at hei hli) rfl) ?_
        refine wpL_exw rfl (x_allocB (l := Flat.enc step70) I75 rfl rfl) ?_
        rintro _ w4 ⟨b8, rfl, hn8, hB8, hc8, hl8⟩
        refine wpL_exs rfl (x_storeB (l := Flat.enc x) I75 rfl rfl hB8 rfl rfl (by rw [Flat.len, Flat.len]; decide) (fun q hq => Flat.cell x q hq) (spl_all rfl)) ?_
        rintro w5 ⟨hB5, hc5, hs5⟩
        refine wpL_nil (thenE_norm ?_)
        refine wpE_seq ?_
        refine wpE_seq ?_
        refine wpE_region ?_
        refine wpL_value rfl (x_fieldAddr Tryz.underlying75 rfl I41 rfl rfl) ?_
        have hc35 : Chg [] w3 w5 := hc8.t1 hc5 hn8
        have h5 : SS w w5 b kv r R (m + 4) k k39 ds P V mb pv ov M := ⟨h3.ps.chg0 hc35, h3.m.chg0 hc35, h3.rel, h3.own, h3.apart⟩
        have hob4 := hsb.form
        obtain ⟨ps, cs, hsf⟩ := hob4
        have hob5 := hsc.form
        obtain ⟨pc, cc, hcf⟩ := hob5
        have hB5c : Blk w5 b8 [.int .i64 x.what, .int .i64 x.i, .slice ps sb.length cs, .int .u32 x.root.toNat, str x.txt, .slice pc sc.length cc] := by rw [← hsf, ← hcf]; exact hB5
        have hsblt : sb ≠ [] → ∀ y ∈ blkOf x.b.1, y < w.heap.size := fun hne y hy => hsb.lt hne y hy
        have hsclt : sc ≠ [] → ∀ y ∈ blkOf (.slice pc sc.length cc), y < w.heap.size := fun hne y hy => by rw [← hcf] at hy; exact hsc.lt hne y hy
        have hw8 : w.heap.size ≤ b8 := by have := h3.ps.now.1; omega
        refine wpL_value rfl (x_load Tryz.underlying41 rfl rfl (hB5c.c (off := 2) rfl)) ?_
        refine wpL_value rfl (x_len_slice rfl Tryz.underlying41) ?_
        by_cases g6 : 600 < sb.length
        · skip
          refine wpL_value rfl (x_to (x_gtr rfl rfl) (congrArg Value.bool (decide_eq_true (by omega)))) ?_
          refine wpL_value rfl x_move (wpL_no rfl rfl (wpL_no rfl rfl (wpL_no rfl rfl (wpL_no rfl rfl (wpL_value rfl (x_pick_t rfl) (wpL_value rfl x_move (wpL_no rfl rfl (wpL_no rfl rfl (wpL_no rfl rfl (wpL_no rfl rfl (wpL_value rfl (x_pick_t rfl) ?_)))))))))))
          refine wpL_nil (thenE_norm ?_)
          refine wpE_cond_t (rfl) ?_
          refine wpE_seq ?_
          refine wpE_region ?_
          refine wpL_value rfl x_assign ?_
          refine wpL_nil (thenE_norm ?_)
          refine wpE_ret (thenE_ret (blockE_ret (thenE_ret (thenE_ret (blockE_ret (thenE_ret (fin_ret ?_)))))))
          exact ⟨rfl, h5.ps.now⟩
        · skip
          refine wpL_value rfl (x_to (x_gtr rfl rfl) (congrArg Value.bool (decide_eq_false (by omega)))) ?_
          refine wpL_value rfl x_move (wpL_yes rfl (wpL_value rfl (x_fieldAddr Tryz.underlying75 rfl I9 rfl rfl) (wpL_yes rfl ?_)))
          refine wpL_value rfl (x_load Tryz.underlying9 rfl rfl (hB5c.c (off := 4) rfl)) ?_
          refine wpL_yes rfl (wpL_value rfl (x_lenS rfl Tryz.underlying9) (wpL_yes rfl ?_))
          by_cases g3 : 300 < x.txt.length
          · skip
            refine wpL_value rfl (x_to (x_gtr rfl rfl) (congrArg Value.bool (decide_eq_true (by omega)))) ?_
            refine wpL_value rfl (x_pick_f rfl) (wpL_value rfl x_move (wpL_no rfl rfl (wpL_no rfl rfl (wpL_no rfl rfl (wpL_no rfl rfl (wpL_value rfl (x_pick_t rfl) ?_))))))
            refine wpL_nil (thenE_norm ?_)
            refine wpE_cond_t (rfl) ?_
            refine wpE_seq ?_
            refine wpE_region ?_
            refine wpL_value rfl x_assign ?_
            refine wpL_nil (thenE_norm ?_)
            refine wpE_ret (thenE_ret (blockE_ret (thenE_ret (thenE_ret (blockE_ret (thenE_ret (fin_ret ?_)))))))
            exact ⟨rfl, h5.ps.now⟩
          · skip
            refine wpL_value rfl (x_to (x_gtr rfl rfl) (congrArg Value.bool (decide_eq_false (by omega)))) ?_
            refine wpL_value rfl (x_pick_f rfl) (wpL_value rfl x_move (wpL_yes rfl (wpL_value rfl (x_fieldAddr Tryz.underlying75 rfl I41 rfl rfl) (wpL_yes rfl ?_))))
            refine wpL_value rfl (x_load Tryz.underlying41 rfl rfl (hB5c.c (off := 5) rfl)) ?_
            refine wpL_yes rfl (wpL_value rfl (x_len_slice rfl Tryz.underlying41) (wpL_yes rfl (wpL_value rfl (x_gtr rfl rfl) (wpL_value rfl (x_pick_f rfl) ?_))))
            refine wpL_nil (thenE_norm ?_)
            refine wpE_cond_d rfl (fun g4 => ?_) (fun g4 => ?_)
            · skip
              refine wpE_seq ?_
              refine wpE_region ?_
              refine wpL_value rfl x_assign ?_
              refine wpL_nil (thenE_norm ?_)
              refine wpE_ret (thenE_ret (blockE_ret (thenE_ret (thenE_ret (blockE_ret (thenE_ret (fin_ret ?_)))))))
              exact ⟨rfl, h5.ps.now⟩
            · skip
              refine wpE_skip (thenE_norm ?_)
              refine wpE_seq ?_
              refine wpE_seq ?_
              refine wpE_region ?_
              refine wpL_value rfl (x_fieldAddr Tryz.underlying75 rfl I3 rfl rfl) ?_
              refine wpL_value rfl (x_load Tryz.underlying3 rfl rfl (hB5c.c (off := 0) rfl)) ?_
              refine wpL_value rfl (x_lss rfl rfl) ?_
              refine wpL_nil (thenE_norm ?_)
              refine wpE_cond_d rfl (fun g8 => ?_) (fun g8 => ?_)
              · skip
                refine wpE_seq ?_
                refine wpE_seq ?_
                refine wpE_region ?_
                refine wpL_value rfl x_move (wpL_value rfl x_move ?_)
                refine wpL_value rfl (x_loadBA (Flat.enc x) Tryz.underlying75 rfl I75 rfl hB5 rfl rfl) ?_
                refine wpL_call rfl C39 (one_ok h5 (by omega) (by omega) x sb hsb (by omega) hsblt hok2 (by omega)) ?_
                rintro v6 w6 ⟨hv6, R6, k6, ds6, P6, V6, pv6, ov6, M6, hpb6, h6, hk6, hcm6⟩
                subst hv6
                refine wpL_value rfl (x_not rfl) (wpL_value rfl x_move (wpL_yes rfl (wpL_value rfl x_move (wpL_yes rfl (wpL_value rfl x_move (wpL_yes rfl ?_))))))
                have hal := alike_ok h6.ps (by omega) mb pv6 ov6 M6 h6.m h6.rel.lp
                rw [hpb6] at hal
                refine wpL_call rfl C40 (hal) ?_
                rintro v7 w7 ⟨⟨β, hv7, hβ⟩, hS7, hM7, hc7⟩
                have hβ1 : β = true := hβ.2 (h6.rel.same (by omega))
                subst hβ1 hv7
                refine wpL_yes rfl (wpL_value rfl (x_not rfl) (wpL_value rfl (x_pick_f rfl) ?_))
                refine wpL_nil (thenE_norm ?_)
                refine wpE_cond_f (rfl) ?_
                refine wpE_skip (thenE_norm ?_)
                refine wpE_exit (thenE_exit (blockE_exit (thenE_norm ?_)))
                refine wpE_region ?_
                refine wpL_value rfl x_move (wpL_value rfl (x_add64 rfl rfl (by omega)) (wpL_value rfl x_assign ?_))
                refine wpL_nil (thenE_norm ?_)
                refine Exists.intro (q) (And.intro (by omega) ?_)
                exact ⟨i + 1, k6, R6, ds6, P6, V6, mb, pv6, ov6, M6, vs_cons rfl (vs_cons rfl (vs_cons (by rw [hpb6]; rfl) (vs_cons rfl (vs_cons (int_eq (by omega)) vs_nil)))), by omega, ⟨hS7, hM7, h6.rel, h6.own, h6.apart⟩, by omega, by omega⟩
              · skip
                refine wpE_skip (thenE_norm ?_)
                refine wpE_seq ?_
                refine wpE_region ?_
                refine wpL_value rfl x_move ?_
                refine wpL_call rfl C41 (mCopy_ok w5 mb pv ov M h5.m (by rw [h5.rel.lo]; omega) (by rw [h5.rel.lp]; omega)) ?_
                rintro _ w6 ⟨nb, pv6, ov6, rfl, hN6, hNF6, hc6⟩
                refine wpL_value rfl x_assign ?_
                refine wpL_nil (thenE_norm ?_)
                refine wpE_seq ?_
                refine wpE_region ?_
                refine wpL_value rfl x_assign ?_
                refine wpL_nil (thenE_norm ?_)
                have h6 : SS w w6 b kv r R (m + 4) k k39 ds P V mb pv ov M := ⟨h5.ps.chg0 hc6, h5.m.chg0 hc6, h5.rel, h5.own, h5.apart⟩
                have hB6 := hB5c.chg hc6 (by simp)
                have hk5 := h5.ps.now.1
                have hmb5 := h5.m.lt
                have hNW : ∀ y ∈ MF nb pv6 ov6, w.heap.size ≤ y ∧ y ∉ DF b kv r := fun y hy => by
                  have h1 := hNF6 y hy
                  refine ⟨by omega, fun hh => ?_⟩
                  have := h5.ps.lt y (List.mem_append_right _ hh)
                  omega
                have hMW : ∀ y ∈ MF mb pv ov, w.heap.size ≤ y ∧ y ∉ DF b kv r := fun y hy => ⟨h5.own y hy, fun hh => h5.apart y hy (List.mem_append_right _ hh)⟩
                have hMN : ∀ y ∈ MF mb pv ov, y ∉ MF nb pv6 ov6 := fun y hy hh => by have := hNF6 y hh; have := hmb5 y hy; omega
                have hkw := h6.ps.2.2.2.1.ok.kwritten
                have hI6 := h6.ps.2.2.2.1
                refine wpE_cutF [1, 5, 7, 9, 10, 11, 12] (fun vs w' => ∃ (m7 : Nat) (f : Int) (dq : DSt), vs = [.slice pl l.length cl, .pointer (some ⟨b, 0, none⟩), .pointer (some ⟨m7, 0, none⟩), .int .i64 i, .pointer (some ⟨b8, 0, none⟩), .pointer (some ⟨nb, 0, none⟩), .int .i64 f] ∧ Blk w' b8 [.int .i64 x.what, .int .i64 x.i, .slice ps sb.length cs, .int .u32 x.root.toNat, str x.txt, .slice pc sc.length cc] ∧ Cut w w' b r (m + 4) k P.kept.commit.toNat kv k39 V m7 mb nb f dq) ?_ ?_
                · skip
                  refine wpE_seq ?_
                  refine wpE_region ?_
                  refine wpL_value rfl (x_fieldAddr Tryz.underlying75 rfl I3 rfl rfl) ?_
                  refine wpL_value rfl (x_load Tryz.underlying3 rfl rfl (hB6.c (off := 0) rfl)) ?_
                  refine wpL_value rfl (x_eql rfl rfl) ?_
                  refine wpL_nil (thenE_norm ?_)
                  refine wpE_cond_d rfl (fun h8 => ?_) (fun h8 => ?_)
                  · skip
                    refine wpE_seq ?_
                    have hob6 := tmod40 x.i
                    obtain ⟨ht1, ht2⟩ := hob6
                    refine wpE_draw mixed (.pure 0 (.pure 1 (.pure 2 (.pure 3 (.read 4 (.pure 5 (.pure 6 (.eff 7 [] .nil)))))))) (by kernel_rfl) ?_
                    refine wpP_pure rfl rfl rfl (fun _ => x_move) ?_
                    refine wpP_pure rfl rfl rfl (fun _ => (x_nil rfl)) ?_
                    refine wpP_pure rfl rfl rfl (fun _ => (x_fieldAddr Tryz.underlying89 rfl I85 rfl rfl)) ?_
                    refine wpP_pure rfl rfl rfl (fun _ => (x_fieldAddr Tryz.underlying75 rfl I3 rfl rfl)) ?_
                    refine wpP_rd rfl rfl rfl Tryz.underlying3 rfl rfl (hB6.c (off := 1) rfl) ?_
                    refine wpP_pure rfl rfl rfl (fun _ => (x_rem64 rfl rfl (by omega))) ?_
                    refine wpP_pure rfl rfl rfl (fun _ => (x_add64 rfl rfl (by omega))) ?_
                    have hd6 := h6.ps.1.chg0 (drw w6)
                    have hob7 := power_same hI6.ok.off hI6.ok.fine (x.i.tmod 40 + 1)
                    obtain ⟨p1, p2, p3, p4, p5⟩ := hob7
                    refine wpP_call rfl rfl rfl C42 ((Power_ok _ b r kv ds (x.i.tmod 40 + 1) hd6.1 hI6.ok.fine (by omega) :)) ?_
                    rintro _ w8 ⟨hd8, hc8x, hs8⟩
                    refine ⟨trivial, ?_⟩
                    refine wpP_nil (thenE_norm ?_)
                    refine wpE_seq ?_
                    refine wpE_region ?_
                    refine wpL_value rfl x_move (wpL_value rfl (x_fieldAddr Tryz.underlying75 rfl I34 rfl rfl) ?_)
                    have hob8 : ∃ dp, dp = ds.power (x.i.tmod 40 + 1) := ⟨_, rfl⟩
                    obtain ⟨dp, hdp⟩ := hob8
                    rw [← hdp] at hd8 p1 p2 p3 p4 p5
                    have hc68 : Chg [b] w6 w8 := ((drw w6).mono (fun y hy => by simp at hy)).tr hc8x
                    have hbD : b ∈ DF b kv r := by simp [DF]
                    have hgeb := h6.ps.1.2.2 b hbD
                    have hbb8 : b8 ≠ b := fun e => by have := h5.ps.lt b (List.mem_append_right _ hbD); have := h3.ps.lt b (List.mem_append_right _ hbD); omega
                    have hB8' := hB6.nb hc68 hbb8
                    have hrun8 : RunD w w8 b kv r dp := ⟨hd8, h6.ps.1.2.1.t1 hc68 hgeb, h6.ps.1.2.2⟩
                    have hP8 : PagerAt w8 R b k39 P := h6.ps.2.1.chg hc68 (fun y hy hh => by simp at hh; subst hh; exact h6.ps.apart y hy hbD)
                    have hN8 : MAt w8 nb pv6 ov6 M := hN6.chg hc68 (fun y hy hh => by simp at hh; subst hh; exact (hNW _ hy).2 hbD)
                    have hM8 : MAt w8 mb pv ov M := h6.m.chg hc68 (fun y hy hh => by simp at hh; subst hh; exact (hMW _ hy).2 hbD)
                    refine wpL_value rfl (x_load Tryz.underlying34 rfl rfl (hB8'.c (off := 3) rfl)) ?_
                    refine wpL_value rfl (x_fieldAddr Tryz.underlying75 rfl I9 rfl rfl) ?_
                    refine wpL_value rfl (x_load Tryz.underlying9 rfl rfl (hB8'.c (off := 4) rfl)) ?_
                    refine wpL_call rfl C43 (mCommit_ok w8 nb pv6 ov6 M hN8 (by rw [h6.rel.lp]; omega) x.root x.txt) ?_
                    rintro v9 w9 ⟨⟨N9, e9, on9, hCM, hv9, hN9, hon9⟩, hc9⟩
                    subst hv9
                    have hnbF : ∀ y ∈ nb :: blkOf pv6, y ∈ MF nb pv6 ov6 := fun y hy => by
                      simp only [List.mem_cons] at hy
                      rcases hy with rfl | hy
                      · simp [MF]
                      · simp [MF, hy]
                    have hge9 : ∀ y ∈ nb :: blkOf pv6, w5.heap.size ≤ y := fun y hy => hNF6 y (hnbF y hy)
                    have hlt5 := h5.ps.lt
                    have hB9 := hB8'.chg hc9 (fun hh => by have := hge9 _ hh; have := hB5c.lt; omega)
                    have hrun9 : RunD w w9 b kv r dp := ⟨hrun8.1.chg hc9 (fun y hy hh => by have := hge9 y hh; have := hlt5 y (List.mem_append_right _ hy); omega), hrun8.2.1.t0 hc9 (fun y hy => by have := hge9 y hy; omega), hrun8.2.2⟩
                    have hP9 : PagerAt w9 R b k39 P := hP8.chg hc9 (fun y hy hh => by have := hge9 y hh; have := hlt5 y (List.mem_append_left _ hy); omega)
                    have hM9 : MAt w9 mb pv ov M := hM8.chg hc9 (fun y hy hh => by have := hge9 y hh; have := hmb5 y hy; omega)
                    have hlN9 := hN9.lt
                    have hNF9 : ∀ y ∈ MF nb pv6 on9, w5.heap.size ≤ y := fun y hy => by
                      simp only [MF, List.mem_cons, List.mem_append] at hy
                      have k68 : w5.heap.size ≤ w8.heap.size := Nat.le_trans hc6.1 hc68.1
                      rcases hy with rfl | hy | hy
                      · exact hNF6 _ (by simp [MF])
                      · exact hNF6 _ (by simp [MF, hy])
                      · rcases hon9 y hy with q | q
                        · exact hNF6 _ (by simp [MF, q])
                        · omega
                    have hNW9 : ∀ y ∈ MF nb pv6 on9, w.heap.size ≤ y ∧ y ∉ DF b kv r := fun y hy => by
                      have := hNF9 y hy
                      exact ⟨by omega, fun hh => by have := hlt5 y (List.mem_append_right _ hh); omega⟩
                    have hMN9 : ∀ y ∈ MF mb pv ov, y ∉ MF nb pv6 on9 := fun y hy hh => by have := hNF9 y hh; have := hmb5 y hy; omega
                    refine wpL_value rfl x_assign ?_
                    refine wpL_nil (thenE_norm ?_)
                    refine wpE_seq ?_
                    refine wpE_region ?_
                    refine wpL_value rfl x_move (wpL_value rfl (x_fieldAddr Tryz.underlying75 rfl I34 rfl rfl) ?_)
                    refine wpL_value rfl (x_load Tryz.underlying34 rfl rfl (hB9.c (off := 3) rfl)) ?_
                    refine wpL_value rfl (x_fieldAddr Tryz.underlying75 rfl I9 rfl rfl) ?_
                    refine wpL_value rfl (x_load Tryz.underlying9 rfl rfl (hB9.c (off := 4) rfl)) ?_
                    refine wpL_call rfl C23 (cut_run hrun9 hP9 (fun y hy => h6.ps.2.2.1 y hy) hI6 p1 p2 p3 p4 rfl (by omega) (by omega) x.root x.txt) ?_
                    rintro v10 w10 ⟨f, dq, hv10, hrun10, hfine10, hc10, hends⟩
                    subst hv10
                    have hPD : ∀ y ∈ PF R ++ DF b kv r, y < w5.heap.size := hlt5
                    have hB10 := hB9.chg hc10 (fun hh => by have := h3.ps.lt _ hh; omega)
                    have hM10 : MAt w10 mb pv ov M := hM9.chg hc10 h5.apart
                    have hN10 : MAt w10 nb pv6 on9 N9 := hN9.chg hc10 (fun y hy hh => by have := hNF9 y hy; have := hPD y hh; omega)
                    refine wpL_value rfl x_assign ?_
                    refine wpL_nil (thenE_norm ?_)
                    refine wpE_seq ?_
                    refine wpE_seq ?_
                    refine wpE_region ?_
                    refine wpL_value rfl x_move (wpL_value rfl x_move ?_)
                    have hrel6 := h6.rel
                    have hwu := h6.written
                    rcases hends with ⟨ht, hfe, hK⟩ | ⟨ht, hb, hfe, hK⟩ | ⟨ht, hg, hfe, hK⟩ | ⟨ht, hg, hfe, hoff, hK⟩
                    · skip
                      have hob9 := hCM.long ht
                      obtain ⟨hNe, hee⟩ := hob9
                      subst hfe hNe hee
                      refine wpL_value rfl (x_to (x_neq rfl rfl) (congrArg Value.bool (decide_eq_false (fun h => h rfl)))) ?_
                      refine wpL_value rfl x_move (wpL_no rfl rfl (wpL_no rfl rfl (wpL_no rfl rfl (wpL_no rfl rfl (wpL_no rfl rfl (wpL_no rfl rfl (wpL_no rfl rfl (wpL_no rfl rfl (wpL_no rfl rfl (wpL_no rfl rfl (wpL_no rfl rfl (wpL_no rfl rfl (wpL_value rfl (x_pick_f rfl) ?_)))))))))))))
                      refine wpL_nil (thenE_norm ?_)
                      refine wpE_cond_f (rfl) ?_
                      refine wpE_skip (thenE_norm ?_)
                      refine wpE_seq ?_
                      refine wpE_region ?_
                      refine wpL_value rfl x_move (wpL_value rfl (x_eql rfl rfl) ?_)
                      refine wpL_nil (thenE_norm ?_)
                      refine wpE_cond_df rfl (by decide) ?_
                      refine wpE_skip (thenE_norm ?_)
                      exact ⟨mb, 11, dq, rfl, hB10, hrun10, hfine10, .inr ⟨rfl, pv, ov, _, P, pv6, on9, _, P, hM10, hN10, hMW, hNW9, hMN9, hrel6, hrel6, hkw, hkw, fun ch => .inl ⟨_, _, Nat.le_succ _, hK ch⟩⟩⟩
                    · skip
                      have hob10 := hCM.bad hrel6 ht hI6.ok.used hb
                      obtain ⟨hNe, hee⟩ := hob10
                      subst hfe hNe hee
                      refine wpL_value rfl (x_to (x_neq rfl rfl) (congrArg Value.bool (decide_eq_false (fun h => h rfl)))) ?_
                      refine wpL_value rfl x_move (wpL_no rfl rfl (wpL_no rfl rfl (wpL_no rfl rfl (wpL_no rfl rfl (wpL_no rfl rfl (wpL_no rfl rfl (wpL_no rfl rfl (wpL_no rfl rfl (wpL_no rfl rfl (wpL_no rfl rfl (wpL_no rfl rfl (wpL_no rfl rfl (wpL_value rfl (x_pick_f rfl) ?_)))))))))))))
                      refine wpL_nil (thenE_norm ?_)
                      refine wpE_cond_f (rfl) ?_
                      refine wpE_skip (thenE_norm ?_)
                      refine wpE_seq ?_
                      refine wpE_region ?_
                      refine wpL_value rfl x_move (wpL_value rfl (x_eql rfl rfl) ?_)
                      refine wpL_nil (thenE_norm ?_)
                      refine wpE_cond_df rfl (by decide) ?_
                      refine wpE_skip (thenE_norm ?_)
                      exact ⟨mb, 71, dq, rfl, hB10, hrun10, hfine10, .inr ⟨rfl, pv, ov, _, P, pv6, on9, _, P, hM10, hN10, hMW, hNW9, hMN9, hrel6, hrel6, hkw, hkw, fun ch => .inl ⟨_, _, Nat.le_succ _, hK ch⟩⟩⟩
                    · skip
                      have hob11 := hCM.good hrel6 ht hg
                      obtain ⟨hNe, hee⟩ := hob11
                      subst hfe hNe hee
                      refine wpL_value rfl (x_to (x_neq rfl rfl) (congrArg Value.bool (decide_eq_false (fun h => h rfl)))) ?_
                      refine wpL_value rfl x_move (wpL_no rfl rfl (wpL_no rfl rfl (wpL_no rfl rfl (wpL_no rfl rfl (wpL_no rfl rfl (wpL_no rfl rfl (wpL_no rfl rfl (wpL_no rfl rfl (wpL_no rfl rfl (wpL_no rfl rfl (wpL_no rfl rfl (wpL_no rfl rfl (wpL_value rfl (x_pick_f rfl) ?_)))))))))))))
                      refine wpL_nil (thenE_norm ?_)
                      refine wpE_cond_f (rfl) ?_
                      refine wpE_skip (thenE_norm ?_)
                      refine wpE_seq ?_
                      refine wpE_region ?_
                      refine wpL_value rfl x_move (wpL_value rfl (x_eql rfl rfl) ?_)
                      refine wpL_nil (thenE_norm ?_)
                      refine wpE_cond_dt rfl (rfl) ?_
                      refine wpE_region ?_
                      refine wpL_value rfl x_move (wpL_value rfl x_assign ?_)
                      refine wpL_nil (thenE_norm ?_)
                      exact ⟨nb, 0, dq, rfl, hB10, hrun10, hfine10, .inl ⟨rfl, rfl, pv6, on9, _, comP P x.root x.txt, hN10, hNW9, hrel6.commit x.root x.txt hwu, hwu, fun ch => ⟨_, _, Nat.le_refl _, hK ch⟩⟩⟩
                    · skip
                      have hob12 := hCM.good hrel6 ht hg
                      obtain ⟨hNe, hee⟩ := hob12
                      subst hfe hNe hee
                      have hpos := p5 hoff
                      refine wpL_value rfl (x_to (x_neq rfl rfl) (congrArg Value.bool (decide_eq_true (by decide)))) ?_
                      refine wpL_value rfl x_move (wpL_yes rfl (wpL_value rfl x_move (wpL_yes rfl ?_)))
                      refine wpL_value rfl (x_to (x_neq rfl rfl) (congrArg Value.bool (decide_eq_false (fun h => h rfl)))) ?_
                      refine wpL_yes rfl (wpL_value rfl x_move (wpL_yes rfl (wpL_value rfl x_move (wpL_yes rfl ?_))))
                      refine wpL_value rfl (x_to (x_neq rfl rfl) (congrArg Value.bool (decide_eq_false (fun h => h rfl)))) ?_
                      refine wpL_yes rfl (wpL_value rfl (x_pick_f rfl) (wpL_yes rfl (wpL_value rfl x_move (wpL_yes rfl (wpL_value rfl (x_fieldAddr Tryz.underlying75 rfl I3 rfl rfl) (wpL_yes rfl ?_))))))
                      refine wpL_value rfl (x_load Tryz.underlying3 rfl rfl (hB10.c (off := 1) rfl)) ?_
                      refine wpL_yes rfl (wpL_value rfl (x_rem64 rfl rfl (by omega)) (wpL_yes rfl (wpL_value rfl (x_lss rfl rfl) (wpL_yes rfl (wpL_value rfl (x_pick_f rfl) (wpL_value rfl (x_pick_t rfl) ?_))))))
                      refine wpL_nil (thenE_norm ?_)
                      refine wpE_cond_df rfl (by omega) ?_
                      refine wpE_skip (thenE_norm ?_)
                      refine wpE_seq ?_
                      refine wpE_region ?_
                      refine wpL_value rfl x_move (wpL_value rfl (x_eql rfl rfl) ?_)
                      refine wpL_nil (thenE_norm ?_)
                      refine wpE_cond_df rfl (by decide) ?_
                      refine wpE_skip (thenE_norm ?_)
                      exact ⟨mb, 61, dq, rfl, hB10, hrun10, hfine10, .inr ⟨rfl, pv, ov, M, P, pv6, on9, _, comP P x.root x.txt, hM10, hN10, hMW, hNW9, hMN9, hrel6, hrel6.commit x.root x.txt hwu, hkw, hwu, fun ch => by
                        rcases hK ch with ⟨Mx, hMx, z⟩ | z
                        · exact .inl ⟨_, Mx, hMx, z⟩
                        · exact .inr ⟨rfl, _, _, Nat.le_refl _, z⟩⟩⟩
                  · skip
                    refine wpE_skip (thenE_norm ?_)
                    exact ⟨mb, 0, ds, rfl, hB6, h6.ps.1, hI6.ok.fine, .inr ⟨rfl, pv, ov, M, P, pv6, ov6, M, P, h6.m, hN6, hMW, hNW, hMN, h6.rel, h6.rel, hkw, hkw, fun ch => .inl ⟨_, _, Nat.le_succ _, hI6.cut0 (by omega) rfl rfl (by omega) hI6.ok.fine ch⟩⟩⟩
                · rintro vs J w7 ⟨m7, f, dq, rfl, hB7, hCut⟩
                  refine wpE_seq ?_
                  refine wpE_region ?_
                  refine wpL_value rfl x_move (wpL_value rfl (x_fieldAddr Tryz.underlying75 rfl I41 rfl rfl) ?_)
                  obtain ⟨hrun7, hfine7, hends⟩ := hCut
                  have hscE := hsc.mod0 hrun7.2.1
                  rw [hcf] at hscE
                  have hk0 := hrun7.2.1.1
                  refine wpL_value rfl (x_load Tryz.underlying41 rfl rfl (hB7.c (off := 5) rfl)) ?_
                  refine wpL_call rfl C30 (crash_run hrun7 hfine7 (.slice pc sc.length cc) sc hscE hsclt (by omega)) ?_
                  rintro _ w8 ⟨hrun8, hc8⟩
                  refine wpL_nil (thenE_norm ?_)
                  refine wpE_seq ?_
                  refine wpE_region ?_
                  refine wpL_value rfl x_move ?_
                  refine wpL_value rfl (x_buildV (List.replicate 32 (0 : UInt8)) ([(3, 9)]) (l := k39) Tryz.underlying23 I23 rfl I5 (by kernel_rfl) rfl (by kernel_rfl) rfl (by kernel_rfl)) ?_
                  rcases hends with ⟨hm7, hf0, pn, on, N, Pn, hN7, hNW, hRel, hkw2, hC⟩ | ⟨hm7, pv7, ov7, M7, P7, pn, on, N, Pn, hM7, hN7, hMW, hNW, hMN, hRelM, hRelN, hkwM, hkwN, hC⟩
                  · skip
                    have hob13 := hC sc
                    obtain ⟨a9, Mx, hMx, hC⟩ := hob13
                    refine wpL_call rfl C44 (open_runM hrun8 hC (by omega) rfl) ?_
                    rintro _ w9 ⟨R9, fg, ds9, rfl, hS9, hcm9, hc9, hR9⟩
                    refine wpL_value rfl x_move (wpL_value rfl (x_extract rfl rfl) (wpL_value rfl (x_extract rfl rfl) (wpL_value rfl x_assign (wpL_value rfl x_assign ?_))))
                    refine wpL_nil (thenE_norm ?_)
                    refine wpE_seq ?_
                    refine wpE_seq ?_
                    refine wpE_region ?_
                    refine wpL_value rfl x_move (wpL_value rfl (x_neq rfl rfl) ?_)
                    refine wpL_nil (thenE_norm ?_)
                    refine wpE_cond_df rfl (fun h => h rfl) ?_
                    refine wpE_skip (thenE_norm ?_)
                    refine wpE_seq ?_
                    refine wpE_region ?_
                    refine wpL_value rfl x_move ?_
                    have hm7 := hm7.symm
                    subst hm7 hf0
                    have hN8 := hN7.chg hc8 (fun y hy => (hNW y hy).2)
                    have hN9 := hN8.chg hc9 (fun y hy => (hNW y hy).2)
                    have hln8 := hN8.lt
                    have hap9 : ∀ y ∈ MF nb pn on, y ∉ PF R9 ++ DF b kv r := fun y hy hh => by
                      rcases List.mem_append.1 hh with hh | hh
                      · have := hR9 y hh; have := hln8 y hy; omega
                      · exact (hNW y hy).2 hh
                    have hnbM : nb ∈ MF nb pn on := by simp [MF]
                    refine wpL_call rfl C45 (mUndo_ok w9 nb pn on N hN9 (by rw [hRel.lo]; omega)) ?_
                    rintro _ w10 ⟨pv10, hN10, hi10, hc10⟩
                    refine wpL_nil (thenE_norm ?_)
                    refine wpE_seq ?_
                    refine wpE_region ?_
                    refine wpL_value rfl x_move ?_
                    refine wpL_call rfl C45 (mUndo_ok w10 nb pv10 on N.undo hN10 (by show N.old.length ≤ 1000; rw [hRel.lo]; omega)) ?_
                    rintro _ w11 ⟨pv11, hN11, hi11, hc11⟩
                    refine wpL_nil (thenE_norm ?_)
                    refine wpE_seq ?_
                    refine wpE_region ?_
                    refine wpL_value rfl x_move (wpL_value rfl x_assign ?_)
                    refine wpL_nil (thenE_norm ?_)
                    refine wpE_seq ?_
                    refine wpE_region ?_
                    refine wpL_value rfl x_move (wpL_value rfl x_move ?_)
                    have hN11 : MAt w11 nb pv11 on N.undo := hN11
                    have hcu : Chg [nb] w9 w11 := hc10.tr hc11
                    have hS11 := hS9.chg hcu (fun y hy hh => by simp at hh; subst hh; exact hap9 _ hnbM hy) (fun y hy => by simp at hy; subst hy; exact (hNW _ hnbM).1)
                    have hob14 := hS11.absP
                    obtain ⟨P11, V11, hP11, hV11, hS11⟩ := hob14
                    rw [hV11] at hS11
                    have hR11 : RelP (m + 4) P11 V N.undo := hRel.back (by rw [hP11]) (by rw [hP11]; rfl) (by rw [hP11]; rfl) (by rw [hP11]; rfl) (by rw [hP11]; rfl)
                    have hlt9 := hS9.lt
                    refine wpL_call rfl C40 (alike_ok hS11 (by omega) nb pv11 on N.undo hN11 hR11.lp) ?_
                    rintro v12 w12 ⟨⟨β, hv12, hβ⟩, hS12, hM12, hc12⟩
                    have hβ1 : β = true := hβ.2 (hR11.same (by omega))
                    subst hβ1 hv12
                    refine wpL_value rfl (x_not rfl) ?_
                    refine wpL_nil (thenE_norm ?_)
                    refine wpE_cond_f (rfl) ?_
                    refine wpE_skip (blockE_norm (thenE_norm ?_))
                    refine wpE_region ?_
                    refine wpL_value rfl x_move (wpL_value rfl (x_add64 rfl rfl (by omega)) (wpL_value rfl x_assign ?_))
                    refine wpL_nil (thenE_norm ?_)
                    refine Exists.intro (q) (And.intro (by omega) ?_)
                    refine ⟨i + 1, k + 1 + 1, R9, ds9, P11, V, nb, pv11, on, N.undo, rfl, by omega, ⟨hS12, hM12, hR11, fun y hy => ?_, fun y hy hh => ?_⟩, by omega, by rw [hP11]; show (opS k39 _ _).commit.toNat ≤ _; omega⟩
                    · simp only [MF, List.mem_cons, List.mem_append] at hy
                      rcases hy with rfl | hy | hy
                      · exact (hNW _ hnbM).1
                      · have := hi11 y hy; have := hS11.now.1; have := hc12.1; have := hc10.1; have := hS9.now.1; omega
                      · exact (hNW _ (by simp [MF, hy])).1
                    · simp only [MF, List.mem_cons, List.mem_append] at hy
                      rcases hy with rfl | hy | hy
                      · exact hap9 _ hnbM hh
                      · have := hi11 y hy; have := hlt9 y hh; have := hc10.1; omega
                      · exact hap9 _ (by simp [MF, hy]) hh
                  · skip
                    have hm7 := hm7.symm
                    subst hm7
                    have hM8 := hM7.chg hc8 (fun y hy => (hMW y hy).2)
                    have hN8 := hN7.chg hc8 (fun y hy => (hNW y hy).2)
                    have hlm8 := hM8.lt
                    have hln8 := hN8.lt
                    have hmbM : mb ∈ MF mb pv7 ov7 := by simp [MF]
                    have hnbM : nb ∈ MF nb pn on := by simp [MF]
                    rcases hC sc with ⟨a9, Mx, hMx, hC⟩ | ⟨hf, a9, Mx, hMx, hC⟩
                    · skip
                      refine wpL_call rfl C44 (open_runM hrun8 hC (by omega) rfl) ?_
                      rintro _ w9 ⟨R9, fg, ds9, rfl, hS9, hcm9, hc9, hR9⟩
                      refine wpL_value rfl x_move (wpL_value rfl (x_extract rfl rfl) (wpL_value rfl (x_extract rfl rfl) (wpL_value rfl x_assign (wpL_value rfl x_assign ?_))))
                      refine wpL_nil (thenE_norm ?_)
                      refine wpE_seq ?_
                      refine wpE_seq ?_
                      refine wpE_region ?_
                      refine wpL_value rfl x_move (wpL_value rfl (x_neq rfl rfl) ?_)
                      refine wpL_nil (thenE_norm ?_)
                      refine wpE_cond_df rfl (fun h => h rfl) ?_
                      refine wpE_skip (thenE_norm ?_)
                      refine wpE_seq ?_
                      refine wpE_region ?_
                      refine wpL_value rfl x_move ?_
                      have hM9 := hM8.chg hc9 (fun y hy => (hMW y hy).2)
                      have hN9 := hN8.chg hc9 (fun y hy => (hNW y hy).2)
                      refine wpL_call rfl C45 (mUndo_ok w9 mb pv7 ov7 M7 hM9 (by rw [hRelM.lo]; omega)) ?_
                      rintro _ w10 ⟨pv10, hM10, hi10, hc10⟩
                      refine wpL_nil (thenE_norm ?_)
                      refine wpE_seq ?_
                      refine wpE_region ?_
                      refine wpL_value rfl x_move ?_
                      have hN10 := hN9.chg hc10 (fun y hy hh => by simp at hh; subst hh; exact hMN _ hmbM hy)
                      refine wpL_call rfl C45 (mUndo_ok w10 nb pn on N hN10 (by rw [hRelN.lo]; omega)) ?_
                      rintro _ w11 ⟨pv11, hN11, hi11, hc11⟩
                      refine wpL_nil (thenE_norm ?_)
                      refine wpE_seq ?_
                      refine wpE_region ?_
                      refine wpL_value rfl x_move (wpL_value rfl x_assign ?_)
                      refine wpL_nil (thenE_norm ?_)
                      refine wpE_seq ?_
                      refine wpE_region ?_
                      refine wpL_value rfl x_move (wpL_value rfl x_move ?_)
                      have hln9 : ∀ y ∈ MF mb pv7 ov7, y ∉ PF R9 ++ DF b kv r := fun y hy hh => by
                        rcases List.mem_append.1 hh with hh | hh
                        · have := hR9 y hh; have := hlm8 y hy; omega
                        · exact (hMW y hy).2 hh
                      have hnn9 : nb ∉ PF R9 ++ DF b kv r := fun hh => by
                        rcases List.mem_append.1 hh with hh | hh
                        · have := hR9 _ hh; have := hln8 _ hnbM; omega
                        · exact (hNW _ hnbM).2 hh
                      have hS10 := hS9.chg hc10 (fun y hy hh => by simp at hh; subst hh; exact hln9 _ hmbM hy) (fun y hy => by simp at hy; subst hy; exact (hMW _ hmbM).1)
                      have hS11 := hS10.chg hc11 (fun y hy hh => by simp at hh; subst hh; exact hnn9 hy) (fun y hy => by simp at hy; subst hy; exact (hNW _ hnbM).1)
                      have hob15 := hS11.absP
                      obtain ⟨P11, V11, hP11, hV11, hS11⟩ := hob15
                      rw [hV11] at hS11
                      have hR11 : RelP (m + 4) P11 V M7.undo := hRelM.back (by rw [hP11]) (by rw [hP11]; rfl) (by rw [hP11]; rfl) (by rw [hP11]; rfl) (by rw [hP11]; rfl)
                      have hlt9 := hS9.lt
                      have hln10 := hM10.lt
                      have hmn : ∀ y ∈ MF mb pv10 ov7, y ∉ [nb] := fun y hy hh => by
                        simp at hh; subst hh
                        simp only [MF, List.mem_cons, List.mem_append] at hy
                        rcases hy with hy | hy | hy
                        · exact hMN _ hmbM (by rw [← hy]; exact hnbM)
                        · have := hi10 _ hy; have := hN9.lt _ hnbM; omega
                        · exact hMN _ (by simp [MF, hy]) hnbM
                      have hM11 : MAt w11 mb pv10 ov7 M7.undo := hM10.chg hc11 hmn
                      refine wpL_call rfl C40 (alike_ok hS11 (by omega) mb pv10 ov7 M7.undo hM11 hR11.lp) ?_
                      rintro v12 w12 ⟨⟨β, hv12, hβ⟩, hS12, hM12, hc12⟩
                      have hβ1 : β = true := hβ.2 (hR11.same (by omega))
                      subst hβ1 hv12
                      refine wpL_value rfl (x_not rfl) ?_
                      refine wpL_nil (thenE_norm ?_)
                      refine wpE_cond_f (rfl) ?_
                      refine wpE_skip (blockE_norm (thenE_norm ?_))
                      refine wpE_region ?_
                      refine wpL_value rfl x_move (wpL_value rfl (x_add64 rfl rfl (by omega)) (wpL_value rfl x_assign ?_))
                      refine wpL_nil (thenE_norm ?_)
                      refine Exists.intro (q) (And.intro (by omega) ?_)
                      refine ⟨i + 1, k + 1 + 1, R9, ds9, P11, V, mb, pv10, ov7, M7.undo, rfl, by omega, ⟨hS12, hM12, hR11, fun y hy => ?_, fun y hy hh => ?_⟩, by omega, by rw [hP11]; show (opS k39 _ _).commit.toNat ≤ _; omega⟩
                      · simp only [MF, List.mem_cons, List.mem_append] at hy
                        rcases hy with rfl | hy | hy
                        · exact (hMW _ hmbM).1
                        · have := hi10 y hy; have := hS9.now.1; omega
                        · exact (hMW _ (by simp [MF, hy])).1
                      · simp only [MF, List.mem_cons, List.mem_append] at hy
                        rcases hy with rfl | hy | hy
                        · exact hln9 _ hmbM hh
                        · have := hi10 y hy; have := hlt9 y hh; omega
                        · exact hln9 _ (by simp [MF, hy]) hh
                    · skip
                      refine wpL_call rfl C44 (open_runM hrun8 hC (by omega) rfl) ?_
                      rintro _ w9 ⟨R9, fg, ds9, rfl, hS9, hcm9, hc9, hR9⟩
                      refine wpL_value rfl x_move (wpL_value rfl (x_extract rfl rfl) (wpL_value rfl (x_extract rfl rfl) (wpL_value rfl x_assign (wpL_value rfl x_assign ?_))))
                      refine wpL_nil (thenE_norm ?_)
                      refine wpE_seq ?_
                      refine wpE_seq ?_
                      refine wpE_region ?_
                      refine wpL_value rfl x_move (wpL_value rfl (x_neq rfl rfl) ?_)
                      refine wpL_nil (thenE_norm ?_)
                      refine wpE_cond_df rfl (fun h => h rfl) ?_
                      refine wpE_skip (thenE_norm ?_)
                      refine wpE_seq ?_
                      refine wpE_region ?_
                      refine wpL_value rfl x_move ?_
                      have hM9 := hM8.chg hc9 (fun y hy => (hMW y hy).2)
                      have hN9 := hN8.chg hc9 (fun y hy => (hNW y hy).2)
                      refine wpL_call rfl C45 (mUndo_ok w9 mb pv7 ov7 M7 hM9 (by rw [hRelM.lo]; omega)) ?_
                      rintro _ w10 ⟨pv10, hM10, hi10, hc10⟩
                      refine wpL_nil (thenE_norm ?_)
                      refine wpE_seq ?_
                      refine wpE_region ?_
                      refine wpL_value rfl x_move ?_
                      have hN10 := hN9.chg hc10 (fun y hy hh => by simp at hh; subst hh; exact hMN _ hmbM hy)
                      refine wpL_call rfl C45 (mUndo_ok w10 nb pn on N hN10 (by rw [hRelN.lo]; omega)) ?_
                      rintro _ w11 ⟨pv11, hN11, hi11, hc11⟩
                      refine wpL_nil (thenE_norm ?_)
                      refine wpE_seq ?_
                      refine wpE_region ?_
                      refine wpL_value rfl x_move (wpL_value rfl x_assign ?_)
                      refine wpL_nil (thenE_norm ?_)
                      refine wpE_seq ?_
                      refine wpE_region ?_
                      refine wpL_value rfl x_move (wpL_value rfl x_move ?_)
                      have hln9 : ∀ y ∈ MF mb pv7 ov7, y ∉ PF R9 ++ DF b kv r := fun y hy hh => by
                        rcases List.mem_append.1 hh with hh | hh
                        · have := hR9 y hh; have := hlm8 y hy; omega
                        · exact (hMW y hy).2 hh
                      have hnn9 : nb ∉ PF R9 ++ DF b kv r := fun hh => by
                        rcases List.mem_append.1 hh with hh | hh
                        · have := hR9 _ hh; have := hln8 _ hnbM; omega
                        · exact (hNW _ hnbM).2 hh
                      have hS10 := hS9.chg hc10 (fun y hy hh => by simp at hh; subst hh; exact hln9 _ hmbM hy) (fun y hy => by simp at hy; subst hy; exact (hMW _ hmbM).1)
                      have hS11 := hS10.chg hc11 (fun y hy hh => by simp at hh; subst hh; exact hnn9 hy) (fun y hy => by simp at hy; subst hy; exact (hNW _ hnbM).1)
                      have hob16 := hS11.absP
                      obtain ⟨P11, V11, hP11, hV11, hS11⟩ := hob16
                      rw [hV11] at hS11
                      have hR11n : RelP (m + 4) P11 V N.undo := hRelN.back (by rw [hP11]) (by rw [hP11]; rfl) (by rw [hP11]; rfl) (by rw [hP11]; rfl) (by rw [hP11]; rfl)
                      have hlt9 := hS9.lt
                      have hln10 := hM10.lt
                      have hmn : ∀ y ∈ MF mb pv10 ov7, y ∉ [nb] := fun y hy hh => by
                        simp at hh; subst hh
                        simp only [MF, List.mem_cons, List.mem_append] at hy
                        rcases hy with hy | hy | hy
                        · exact hMN _ hmbM (by rw [← hy]; exact hnbM)
                        · have := hi10 _ hy; have := hN9.lt _ hnbM; omega
                        · exact hMN _ (by simp [MF, hy]) hnbM
                      have hM11 : MAt w11 mb pv10 ov7 M7.undo := hM10.chg hc11 hmn
                      have hN11' : MAt w11 nb pv11 on N.undo := hN11
                      refine wpL_call rfl C40 (alike_ok hS11 (by omega) mb pv10 ov7 M7.undo hM11 (by show M7.old.length = _; exact hRelM.lo)) ?_
                      rintro v12 w12 ⟨⟨β, hv12, hβ⟩, hS12, hM12, hc12⟩
                      subst hv12
                      cases β
                      · skip
                        refine wpL_value rfl (x_not rfl) ?_
                        refine wpL_nil (thenE_norm ?_)
                        refine wpE_cond_t (rfl) ?_
                        refine wpE_seq ?_
                        refine wpE_seq ?_
                        refine wpE_region ?_
                        refine wpL_value rfl x_move ?_
                        subst hf
                        refine wpL_value rfl (x_to (x_neq rfl rfl) (congrArg Value.bool (decide_eq_false (fun h => h rfl)))) ?_
                        refine wpL_value rfl x_move (wpL_yes rfl (wpL_value rfl x_move (wpL_yes rfl (wpL_value rfl x_move (wpL_yes rfl ?_)))))
                        refine wpL_call rfl C40 (alike_ok hS12 (by omega) nb pv11 on N.undo (hN11'.chg0 hc12) hR11n.lp) ?_
                        rintro v13 w13 ⟨⟨β2, hv13, hβ2⟩, hS13, hM13, hc13⟩
                        have hβ3 : β2 = true := hβ2.2 (hR11n.same (by omega))
                        subst hβ3 hv13
                        refine wpL_yes rfl (wpL_value rfl (x_not rfl) (wpL_value rfl (x_pick_f rfl) ?_))
                        refine wpL_nil (thenE_norm ?_)
                        refine wpE_cond_f (rfl) ?_
                        refine wpE_skip (thenE_norm ?_)
                        refine wpE_region ?_
                        refine wpL_value rfl x_move (wpL_value rfl x_assign ?_)
                        refine wpL_nil (blockE_norm (thenE_norm ?_))
                        refine wpE_region ?_
                        refine wpL_value rfl x_move (wpL_value rfl (x_add64 rfl rfl (by omega)) (wpL_value rfl x_assign ?_))
                        refine wpL_nil (thenE_norm ?_)
                        refine Exists.intro (q) (And.intro (by omega) ?_)
                        refine ⟨i + 1, k + 1 + 1, R9, ds9, P11, V, nb, pv11, on, N.undo, rfl, by omega, ⟨hS13, hM13, hR11n, fun y hy => ?_, fun y hy hh => ?_⟩, by omega, by rw [hP11]; show (opS k39 _ _).commit.toNat ≤ _; omega⟩
                        · simp only [MF, List.mem_cons, List.mem_append] at hy
                          rcases hy with rfl | hy | hy
                          · exact (hNW _ hnbM).1
                          · have := hi11 y hy; have := hS9.now.1; have := hc10.1; omega
                          · exact (hNW _ (by simp [MF, hy])).1
                        · simp only [MF, List.mem_cons, List.mem_append] at hy
                          rcases hy with rfl | hy | hy
                          · exact hnn9 hh
                          · have := hi11 y hy; have := hlt9 y hh; have := hc10.1; omega
                          · rcases List.mem_append.1 hh with hh | hh
                            · have := hR9 y hh; have := hln8 y (by simp [MF, hy]); omega
                            · exact (hNW y (by simp [MF, hy])).2 hh
                      · skip
                        have hR11 : RelP (m + 4) P11 V M7.undo := SameP.rel hRelM (by omega) hkwM (by rw [hP11]; rfl) hS11.2.2.2.1.ok.written (hβ.1 rfl)
                        refine wpL_value rfl (x_not rfl) ?_
                        refine wpL_nil (thenE_norm ?_)
                        refine wpE_cond_f (rfl) ?_
                        refine wpE_skip (blockE_norm (thenE_norm ?_))
                        refine wpE_region ?_
                        refine wpL_value rfl x_move (wpL_value rfl (x_add64 rfl rfl (by omega)) (wpL_value rfl x_assign ?_))
                        refine wpL_nil (thenE_norm ?_)
                        refine Exists.intro (q) (And.intro (by omega) ?_)
                        refine ⟨i + 1, k + 1 + 1, R9, ds9, P11, V, mb, pv10, ov7, M7.undo, rfl, by omega, ⟨hS12, hM12, hR11, fun y hy => ?_, fun y hy hh => ?_⟩, by omega, by rw [hP11]; show (opS k39 _ _).commit.toNat ≤ _; omega⟩
                        · simp only [MF, List.mem_cons, List.mem_append] at hy
                          rcases hy with rfl | hy | hy
                          · exact (hMW _ hmbM).1
                          · have := hi10 y hy; have := hS9.now.1; omega
                          · exact (hMW _ (by simp [MF, hy])).1
                        · simp only [MF, List.mem_cons, List.mem_append] at hy
                          rcases hy with rfl | hy | hy
                          · exact hln9 _ hmbM hh
                          · have := hi10 y hy; have := hlt9 y hh; omega
                          · exact hln9 _ (by simp [MF, hy]) hh
      · skip
        refine wpE_exit (thenE_exit (thenE_exit (blockE_exit (thenE_norm ?_))))
        refine wpE_seq ?_
        refine wpE_region ?_
        refine wpL_value rfl x_assign ?_
        refine wpL_nil (thenE_norm ?_)
        refine wpE_ret (fin_ret ?_)
        exact ⟨rfl, h3.ps.now⟩
end Go.Proofs.YtenhmbhflgnhlaaGreat

