/- Elder roots, each kept, tell what they told, however much is put and taken away later. It holds for every input; there are no conditions. -/
import Derived.Test.YtpbfapbajmdlkaaGreatQ3
import Derived.Test.YtpbfapbajmdlkaaGreatSac2
section
namespace Go.Proofs.YtpbfapbajmdlkaaGreat
open Go Go.Sac
set_option maxRecDepth 100000
set_option maxHeartbeats 4000000
theorem AR {sp : Sp} {ks : List Bs} {ts : List Kd} {i : Nat} (h : Seps ks (msT ts)) (hi : i < ts.length) (he : (sp.kid ks i).emp = true) : eo sp ts[i].2.2 = [] := by
 have hm : (msT ts)[i]? = some ts[i].2.2 := by rw [msT, List.getElem?_map, List.getElem?_eq_getElem hi]; rfl
 obtain ⟨h1, h2⟩ := h.kid hm
 refine Af (fun p hp => ?_)
 cases hh : sp.has p.1 with
 | false => rfl
 | true =>
  have := Sp.kid_has (ks := ks) (i := i) hh (fun hi0 => h1 (i - 1) (by omega) p hp) (fun hl => h2 hl p hp)
  rw [Sp.emp_has he] at this; cases this
theorem xS (w : World) (s : Sp) (v : Bool) (h : s.emp = v) : Ret Tryz.prog 101 #[spV s] w fun r w' => r = .bool v ∧ Chg [] w w' := h ▸ B4 w s
theorem xI (w : World) (s : Sp) (key : Bs) (v : Bool) (h : s.has key = v) : Ret Tryz.prog 99 #[spV s, str key] w fun r w' => r = .bool v ∧ Chg [] w w' := h ▸ has_ok w s key
structure Wk (c : TC) (w : World) (b mb : Nat) (s : TP) (sp : Sp) (most : Nat) (f : PgF) (out : List Pr) (ov : Value) : Prop where
 pg : c.pg w s
 blk : Blk w b [c.pv, .map (some mb), str sp.lo, str sp.hi, .bool sp.fin, .int .i64 most, ov]
 set : SetAt w mb f
 own : Own w ov out
 b1 : b ≠ mb
 b2 : b ∉ aq ov
 b3 : mb ∉ aq ov
 fr : ∀ x ∈ b :: mb :: aq ov, c.w0.heap.size ≤ x ∧ x ∉ c.F
def WF (b mb : Nat) (ov : Value) : List Nat := b :: mb :: aq ov
section
variable {c : TC} {w w' : World} {b mb : Nat} {s : TP} {sp : Sp} {most : Nat} {f : PgF} {out : List Pr} {ov : Value}
theorem Wk.chg {S : List Nat} (h : Wk c w b mb s sp most f out ov) (hm : Chg S w w') (hn : ∀ x ∈ c.F ++ WF b mb ov, x ∉ S) (hs : ∀ x ∈ S, c.w0.heap.size ≤ x) : Wk c w' b mb s sp most f out ov :=
 ⟨h.pg.chg hm (fun x hx => hn x (List.mem_append_left _ hx)) hs, h.blk.chg hm (hn b (by simp [WF])), h.set.mod hm (hn mb (by simp [WF])), h.own.mod hm (fun x hx => hn x (by simp [WF, hx])), h.b1, h.b2, h.b3, h.fr⟩
theorem Wk.chg0 (h : Wk c w b mb s sp most f out ov) (hm : Chg [] w w') : Wk c w' b mb s sp most f out ov := h.chg hm (by simp) (by simp)
theorem Wk.lt (h : Wk c w b mb s sp most f out ov) : ∀ x ∈ WF b mb ov, x < w.heap.size := by
 intro x hx
 simp only [WF, List.mem_cons] at hx
 rcases hx with rfl | rfl | hx
 ·exact h.blk.lt
 ·exact h.set.lt
 ·exact h.own.sl.lt x hx
end
theorem Wk.app {c : TC} {w7 w8 w9 : World} {b mb : Nat} {s : TP} {sp : Sp} {most : Nat} {f : PgF} {out out' : List Pr} {ov v : Value} (h : Wk c w7 b mb s sp most f out ov) (hm : Chg (aq ov) w7 w8) (ho : Own w8 v out') (hin : In v (aq ov) w7.heap.size) (hB : Blk w9 b [c.pv, .map (some mb), str sp.lo, str sp.hi, .bool sp.fin, .int .i64 most, v]) (hc : Chg [b] w8 w9) : Wk c w9 b mb s sp most f out' v := by
 have hlt := h.lt
 have hbv : b ∉ aq v := fun hh => (hin b hh).elim h.b2 (fun g => by have := hlt b (by simp [WF]); omega)
 have hw := h.pg.1.2.1.1
 have hbw := h.fr b (by simp)
 refine ⟨(h.pg.chg hm (fun x hx hh => (h.fr x (by simp [hh])).2 hx) (fun x hx => (h.fr x (by simp [hx])).1)).chg hc (fun x hx hh => by simp at hh; subst hh; exact hbw.2 hx) (fun x hx => by simp at hx; subst hx; exact hbw.1), hB, (h.set.mod hm h.b3).mod hc (by simp; exact h.b1.symm), ho.mod hc (fun x hx hh => by simp at hh; subst hh; exact hbv hx), h.b1, hbv, fun hh => (hin mb hh).elim h.b3 (fun g => by have := hlt mb (by simp [WF]); omega), fun x hx => ?_⟩
 simp only [List.mem_cons] at hx
 rcases hx with rfl | rfl | hx
 ·exact hbw
 ·exact h.fr _ (by simp)
 ·rcases hin x hx with g | g
  ·exact h.fr x (by simp [g])
  ·exact ⟨by omega, fun hh => by have := h.pg.lt x hh; omega⟩
theorem u7 {sp : Sp} {out L : List Pr} {a : Pr} {most : Nat} (o3 : List Pr) (h : o3 = out ++ (eo sp L).take (most - out.length)) : (sp.has a.1 = true → o3.length < most → o3 ++ [a] = out ++ (eo sp (L ++ [a])).take (most - out.length)) ∧ ((sp.has a.1 = false ∨ most ≤ o3.length) → o3 = out ++ (eo sp (L ++ [a])).take (most - out.length)) := by
 have hm := rC out (eo sp L) (eo sp [a]) most
 rw [← h, ← mi] at hm
 refine ⟨fun h1 h2 => ?_, fun h1 => ?_⟩
 ·have : eo sp [a] = [a] := by simp [eo, h1]
  rw [this, List.take_of_length_le (by simp; omega)] at hm
  exact hm
 ·rcases h1 with h1 | h1
  ·have : eo sp [a] = [] := by simp [eo, h1]
   rw [this, List.take_nil, List.append_nil] at hm
   exact hm
  ·rw [rD _ _ _ h1] at hm
   exact hm
theorem CT.parts {V : UInt32 → Bs} : ∀ {d : Nat} {n : Cn} {pg : List UInt32} {m : List Pr}, CT V d n pg m → ∃ ts, cnI n = aS ts ∧ pg = pgT ts ∧ m = cnP n ++ prT ts ∧ (ts ≠ [] → (∃ ks ids, n = .br ks ids) ∧ Seps (cnK n) (msT ts) ∧ (cnI n).length = (cnK n).length + 1) ∧ ∀ t ∈ ts, ∃ q, d = q + 1 ∧ isT V q t.1 t.2.1 t.2.2 ∧ t.2.2 ≠ []
 | 0, .leaf ps, _, m, ⟨h1, h2, _⟩ => ⟨[], rfl, h2, by rw [← h1]; exact (List.append_nil _).symm, fun e => absurd rfl e, fun t ht => by simp at ht⟩
 | 0, .br _ _, _, _, h => h.elim
 | _ + 1, .leaf _, _, _, h => h.elim
 | d + 1, .br ks ids, _, _, ⟨ts, h1, h2, h3, h4, h5, h6⟩ => ⟨ts, h1, h3, h4, fun _ => ⟨⟨ks, ids, rfl⟩, h5, by show ids.length = ks.length + 1; rw [h1, bm]; have := h5.len; rw [msT, List.length_map] at this; exact this⟩, fun t ht => ⟨d, rfl, h6 t ht⟩⟩
theorem goes_ok (c : TC) (b mb : Nat) (s : TP) (sp : Sp) (most : Nat) (hmost : most ≤ 1073741824) : ∀ (d : Nat) (w : World) (id : UInt32) (pg : List UInt32) (m : List Pr) (deep : Nat) (f : PgF) (out : List Pr) (ov : Value), Wk c w b mb s sp most f out ov → isT s.V d id pg m → (∀ x ∈ pg, s.P.now.written x = true) → deep + d ≤ 40 → (∀ x ∈ pg, f x = false) → pg.Nodup → out.length + m.length ≤ 10000 →
  Ret Tryz.prog 58 #[.pointer (some ⟨b, 0, none⟩), .int .u32 id.toNat, .int .i64 deep] w fun r w' => r = .int .i64 0 ∧ ∃ f' ov', Wk c w' b mb s sp most f' (out ++ (eo sp m).take (most - out.length)) ov' ∧ (∀ x, f' x = true → f x = true ∨ x ∈ pg) ∧ In ov' (aq ov) w.heap.size ∧ Chg (WF b mb ov) w w' := by
 intro d
 induction d using Nat.strongRecOn with
 | _ d ih =>
  intro w id pg m deep f out ov h ht hw hd hfr hnd hol
  obtain ⟨n, pg0, rfl, hct, hV, hz, hf⟩ := jj ht
  have hg := CT.good hct hz hf
  obtain ⟨st, hst, hsl⟩ := h.set
  have hfid := hfr id (by simp)
  have hlook : (bW id st).getD (.bool false) = .bool false := by rw [SetAt.look hsl, hfid]
  have hB := h.blk
  have hlt := h.lt
  obtain ⟨ts, hids, hpg, hmm, hsep, hkid⟩ := CT.parts hct
  have hps : (cnP n).length ≤ 200 := by
   cases n with
   | leaf ps => have := hU ps; have q : bK ps ≤ 480 := hz; show ps.length ≤ 200; omega
   | br ks ids => exact Nat.zero_le _
  have hils : (cnI n).length ≤ 200 := by
   cases n with
   | leaf ps => exact Nat.zero_le _
   | br ks ids => have hgb : brOk ks ids := hg; exact Nat.le_trans hgb.few.2 (by decide)
  refine enter [6] Tryz.func58 rfl rfl (Nat.le_of_ble_eq_true rfl) ?_
  refine zSR (za rfl (a8 (a7 (ae (zSR (zm rfl (a6 rfl (cg (dg rfl rfl) (congrArg Value.bool (decide_eq_false (by omega)))) ?_)))))))
  refine zm rfl (ag rfl (zm rfl (ag rfl (zn rfl rfl (ag rfl (a6 rfl (aa ja rfl I114 rfl rfl) (ag rfl ?_)))))))
  refine a6 rfl (az nN rfl rfl (hB.c rfl)) ?_
  refine ag rfl (zm rfl (ag rfl (a6 rfl (cg (fL (k := id) nN (cT bR) I4 rfl rfl rfl hst) hlook) ?_)))
  refine a6 rfl (aO rfl) (a8 (a7 (aN (rfl) ?_)))
  refine zKR (zm rfl (zn rfl rfl (a6 rfl (aa ja rfl I114 rfl rfl) ?_)))
  refine a6 rfl (az nN rfl rfl (hB.c rfl)) ?_
  refine zm rfl (aI rfl (gH (k := id) nN (cT bR) rfl rfl rfl hst) ?_)
  rintro w1 ⟨hm1, hc1, hs1⟩
  refine zNR (zm rfl (zn rfl rfl (a6 rfl (aa ja rfl I24 rfl rfl) ?_)))
  have hmF : mb ∉ c.F := (h.fr mb (by simp)).2
  have hmw : c.w0.heap.size ≤ mb := (h.fr mb (by simp)).1
  have h1 : Wk c w1 b mb s sp most (dn f id) out ov := ⟨h.pg.chg hc1 (fun x hx hh => by simp at hh; subst hh; exact hmF hx) (fun x hx => by simp at hx; subst hx; exact hmw), h.blk.chg hc1 (by simp; exact h.b1), ⟨_, hm1, mf hsl id⟩, h.own.mod hc1 (fun x hx hh => by simp at hh; subst hh; exact h.b3 hx), h.b1, h.b2, h.b3, h.fr⟩
  have hB1 := h1.blk
  refine a6 rfl (az yh rfl rfl (hB1.c rfl)) ?_
  refine zm rfl (ah rfl C59 (oD c w1 s id n h1.pg (hw id (by simp)) hV hg) ?_)
  rintro _ w2 ⟨⟨v, rfl, hn2, hnew2⟩, hc2⟩
  refine zm rfl (zx rfl rfl rfl (zx rfl rfl rfl (za rfl (za rfl (a8 (a7 (ae (zSR (zm rfl (a6 rfl (bL rfl rfl) ?_))))))))))
  refine a8 (a7 (aG rfl (fun h => h rfl) ?_))
  refine aA (a7 (ae (zSR (zm rfl (zn rfl rfl (a6 rfl (aa bh rfl I33 rfl rfl) ?_))))))
  have h2 := h1.chg0 hc2
  obtain ⟨vb, vp, vk, vi⟩ := v
  have hBv := hn2.blk
  have hpS : Sl w2 vp (cnP n) := hn2.p
  have hob1 : ∃ p c, vp = .slice p (cnP n).length c := hpS.form rfl
  obtain ⟨pp, cp, rfl⟩ := hob1
  have hiS : Sl w2 vi (cnI n) := hn2.i
  have hob2 : ∃ p c, vi = .slice p (cnI n).length c := hiS.form rfl
  obtain ⟨pi, ci, rfl⟩ := hob2
  have hBv : Blk w2 vb [.bool (cnL n), .slice pp (cnP n).length cp, vk, .slice pi (cnI n).length ci] := hBv
  refine a6 rfl (az bV rfl rfl (hBv.c rfl)) ?_
  refine a6 rfl (au rfl bV) (zm rfl ?_)
  refine a8 (a7 (aw ?_))
  have hk1 := hc1.1
  have hk2 := hc2.1
  have hlt2 := h2.lt
  have hnF : ∀ x ∈ NV.F ⟨vb, .slice pp (cnP n).length cp, vk, .slice pi (cnI n).length ci⟩, x ∉ c.F ++ WF b mb ov := fun x hx hh => by
   have q1 := hnew2 x hx
   rcases List.mem_append.1 hh with g | g
   ·have := h.pg.lt x g; omega
   ·have := hlt x g; omega
  have hc02 : Chg (WF b mb ov) w w2 := (hc1.mono (by simp [WF])).tr0 hc2
  refine bC [0, 2, 7, 44, 45, 46] (fun k vs w' => ∃ (i : Nat) (ov' : Value), vs = [.pointer (some ⟨b, 0, none⟩), .int .i64 deep, .pointer (some ⟨vb, 0, none⟩), .slice pp (cnP n).length cp, .int .i64 (cnP n).length, .int .i64 i] ∧ i + k = (cnP n).length ∧ Wk c w' b mb s sp most (dn f id) (out ++ (eo sp ((cnP n).take i)).take (most - out.length)) ov' ∧ In ov' (aq ov) w2.heap.size ∧ w2.heap.size ≤ w'.heap.size ∧ Chg (WF b mb ov) w w' ∧ NAt w' ⟨vb, .slice pp (cnP n).length cp, vk, .slice pi (cnI n).length ci⟩ n) ((cnP n).length) ?_ ?_
  ·refine ⟨0, ov, rfl, by omega, ?_, fun x hx => .inl hx, Nat.le_refl _, hc02, hn2⟩
   rw [List.take_zero, show eo sp [] = [] from rfl, List.take_nil, List.append_nil]
   exact h2
  ·rintro k vs J w3 ⟨i, ov3, rfl, hik, h3, hin3, hk23, hc3, hn3⟩
   refine zSR (a6 rfl (bw rfl rfl) ?_)
   refine a8 (a7 (ae (aC rfl (fun hil => ?_) (fun hil => ?_))))
   ·refine aA (a7 (ae (aw (ae (aj ?_)))))
    have hob3 : ∃ q, k = q + 1 := ⟨k - 1, by omega⟩
    obtain ⟨k, rfl⟩ := hob3
    have hob4 : ∃ a, (cnP n)[i]? = some a := ⟨_, List.getElem?_eq_getElem (by omega)⟩
    obtain ⟨a, ha⟩ := hob4
    have hp3 : Sl w3 (.slice pp (cnP n).length cp) (cnP n) := hn3.p
    refine bg rfl (bZ (i) bV I49 rfl (hp3) rfl rfl (by first | rfl | omega) (by omega)) ?_
    rintro _ ⟨bi, oi, rfl, hei, hbi⟩
    refine a6 rfl (bP fB rfl I49 rfl (hp3.at hei ha) rfl) ?_
    refine aU rfl (dh (l := [str [], str []]) I49 rfl rfl) ?_
    rintro _ w4 ⟨tb, rfl, hnt, hT4, hc4, hl4⟩
    refine aI rfl (cx (l := [str a.1, str a.2]) I49 rfl rfl hT4 rfl rfl (Nat.le_refl 2) (by simp [eb]) (cw rfl)) ?_
    rintro w5 ⟨hT5, hc5, hs5⟩
    refine a8 (a7 (ae ?_))
    have hc35 := hc4.t1 hc5 hnt
    have h5 := h3.chg0 hc35
    have hn5 := hn3.chg0 hc35
    have hAt : At w5 b 2 [str sp.lo, str sp.hi, .bool sp.fin] := h5.blk.at (l := [str sp.lo, str sp.hi, .bool sp.fin]) (off := 2) rfl
    refine aL bG (.pure 0 (.pure 1 (.pure 2 (.read 3 (.pure 4 (.read 5 (.eff 6 [] (.pure 7 (.pure 8 (.pure 9 (.pure 10 (.read 11 (.pure 12 (.pure 13 (.pure 14 (.pure 15 (.read 16 (.pure 17 (.pure 18 .nil))))))))))))))))))) (by kernel_rfl) ?_
    refine ym rfl rfl rfl ?_
    refine yn rfl rfl rfl rfl ?_
    refine al rfl rfl rfl (fun _ => (aa ja rfl n1 rfl rfl)) ?_
    refine dq rfl rfl rfl (fun w' => At w' b 2 [str sp.lo, str sp.hi, .bool sp.fin]) (hAt) (fun w1 h1 => bP eX rfl n1 rfl h1 rfl) ?_
    refine al rfl rfl rfl (fun _ => (aa fB rfl I9 rfl rfl)) ?_
    refine aX rfl rfl rfl uU9 rfl rfl (hT5.c rfl) ?_
    have hd : sp.has a.1 = true ∨ sp.has a.1 = false := by cases sp.has a.1 <;> simp
    rcases hd with hd | hd
    ·refine aF rfl rfl rfl C99 (xI _ sp a.1 true hd) ?_
     rintro _ w6 ⟨rfl, hc6⟩
     refine ⟨trivial, ?_⟩
     have hc56 : Chg [] w5 w6 := (drw w5).tr hc6
     have h6 := h5.chg0 hc56
     have hn6 := hn5.chg0 hc56
     have hT6 := hT5.chg0 hc56
     have hTa : At w6 tb 0 [str a.1, str a.2] := hT6.at (by rfl)
     have hup : (cnP n).take (i + 1) = (cnP n).take i ++ [a] := by
      have hob5 := List.getElem?_eq_some_iff.1 ha
      obtain ⟨q1, q2⟩ := hob5
      rw [← List.take_append_getElem q1, q2]
     have hob6 : ∃ o3, o3 = out ++ (eo sp ((cnP n).take i)).take (most - out.length) := ⟨_, rfl⟩
     obtain ⟨o3, ho3⟩ := hob6
     rw [← ho3] at h6
     have hone := u7 (a := a) o3 ho3
     rw [← hup] at hone
     have hob7 := h6.own.sl.form rfl
     obtain ⟨po, co, hov⟩ := hob7
     subst hov
     have hB6 := h6.blk
     have hin6 : In (.slice po o3.length co) (aq ov) w2.heap.size := hin3
     have hk26 : w2.heap.size ≤ w6.heap.size := Nat.le_trans hk23 (Nat.le_trans hc35.1 hc56.1)
     have hc06 : Chg (WF b mb ov) w w6 := (hc3.tr0 hc35).tr0 hc56
     refine ym rfl rfl rfl ?_
     refine ym rfl rfl rfl ?_
     refine yn rfl rfl rfl rfl ?_
     refine al rfl rfl rfl (fun _ => (aa ja rfl I33 rfl rfl)) ?_
     refine aX rfl rfl rfl bV rfl rfl (hB6.c rfl) ?_
     refine al rfl rfl rfl (fun _ => (au rfl bV)) ?_
     refine ym rfl rfl rfl ?_
     refine yn rfl rfl rfl rfl ?_
     refine al rfl rfl rfl (fun _ => (aa ja rfl I3 rfl rfl)) ?_
     refine aX rfl rfl rfl uU3 rfl rfl (hB6.c rfl) ?_
     refine al rfl rfl rfl (fun _ => (bw rfl rfl)) ?_
     refine al rfl rfl rfl (fun _ => (aM rfl)) ?_
     refine aR (a7 (aC rfl (fun hroom => ?_) (fun hroom => ?_)))
     ·have ho3l : o3.length ≤ 10000 := by
       have q1 := congrArg List.length ho3
       rw [List.length_append, List.length_take] at q1
       have q2 : (eo sp ((cnP n).take i)).length ≤ ((cnP n).take i).length := List.length_filter_le _ _
       rw [List.length_take] at q2
       have q3 : m.length = (cnP n).length + (prT ts).length := by rw [hmm, List.length_append]
       omega
      refine aL bG (.pure 0 (.pure 1 (.pure 2 (.pure 3 (.read 4 (.read 5 (.eff 6 [4] (.eff 7 [] (.pure 8 (.pure 9 (.eff 10 [] .nil))))))))))) (by kernel_rfl) ?_
      refine ym rfl rfl rfl ?_
      refine ym rfl rfl rfl ?_
      refine yn rfl rfl rfl rfl ?_
      refine al rfl rfl rfl (fun _ => (aa ja rfl I33 rfl rfl)) ?_
      refine aX rfl rfl rfl bV rfl rfl (hB6.c rfl) ?_
      refine dq rfl rfl rfl (fun w' => At w' tb 0 [str a.1, str a.2]) (hTa) (fun w1 h1 => bP fB rfl I49 rfl h1 rfl) ?_
      refine bs rfl rfl rfl (rm a bV I49 rfl rfl rfl rfl rfl (by decide)) ?_
      rintro _ w7 ⟨b7, rfl, hB7, hn7, hc7, hl7⟩
      have hc7 : Chg [] w6 w7 := (drw w6).tr hc7
      refine ⟨⟨(hB6.chg0 hc7).c rfl, trivial⟩, ?_⟩
      have h7 := h6.chg0 hc7
      refine bs rfl rfl rfl (xm bV bV I49 (.inr ⟨_, rfl⟩) rfl rfl rfl (by decide) (h7.own) ((Blk.sl1 hB7).src) rfl rfl (by simp; omega)) ?_
      rintro v8 w8 h8
      refine ⟨trivial, ?_⟩
      refine yn rfl rfl rfl rfl ?_
      refine al rfl rfl rfl (fun _ => (aa ja rfl I33 rfl rfl)) ?_
      have hB8 := h7.blk.chg h8.mod h7.b2
      have hown8 := h8.own
      have hin8 := h8.inn
      have hmod8 := h8.mod
      have hob8 := hown8.sl.form rfl
      obtain ⟨p8, c8, rfl⟩ := hob8
      refine cF rfl rfl rfl (bz I33 rfl rfl (hB8) rfl rfl ((by decide : 6 < 7)) rfl (rfl)) ?_
      rintro w9 ⟨hB9, hc9, hs9⟩
      refine ⟨trivial, ?_⟩
      refine aR (aB (a7 (aj (a6 rfl (aD rfl rfl (by omega)) (zm rfl ?_)))))
      refine a8 (a7 (Exists.intro (k) (And.intro (by omega) ?_)))
      have h9 := h7.app hmod8 hown8 hin8 hB9 hc9
      have k7 := hc7.1
      have k8 := hmod8.1
      have k9 := hc9.1
      have hin9 : In (.slice p8 (o3 ++ [a]).length c8) (aq ov) w2.heap.size := fun x hx => by
       rcases hin8 x hx with g | g
       ·exact hin6 x g
       ·exact .inr (by omega)
      have hc09 : Chg (WF b mb ov) w w9 := ((hc06.tr0 hc7).trans hmod8 (fun _ hx _ => hx) (fun x hx hl => (hin6 x hx).elim (fun g => by simp [WF, g]) (fun g => by omega))).tr (hc9.mono (by simp [WF]))
      have hn9 := ((hn6.chg0 hc7).chg hmod8 (fun x hx hh => by
       rcases hin6 x hh with g | g
       ·exact hnF x hx (List.mem_append_right _ (by simp [WF, g]))
       ·have := hn2.lt x hx; omega)).chg hc9 (fun x hx hh => by simp at hh; subst hh; exact hnF _ hx (List.mem_append_right _ (by simp [WF])))
      have hO := hone.1 hd (by omega)
      rw [hO] at h9 hin9
      exact ⟨i + 1, _, ay rfl (ay rfl (ay rfl (ay rfl (ay rfl (ay (bH (by omega)) bJ))))), by omega, h9, hin9, by omega, hc09, hn9⟩
     ·refine aA (aB (a7 (aj (a6 rfl (aD rfl rfl (by omega)) (zm rfl ?_)))))
      refine a8 (a7 (Exists.intro (k) (And.intro (by omega) ?_)))
      exact ⟨i + 1, _, ay rfl (ay rfl (ay rfl (ay rfl (ay rfl (ay (bH (by omega)) bJ))))), by omega, (hone.2 (.inr (by omega))) ▸ h6, hin6, hk26, hc06, hn6⟩
    ·refine aF rfl rfl rfl C99 (xI _ sp a.1 false hd) ?_
     rintro _ w6 ⟨rfl, hc6⟩
     refine ⟨trivial, ?_⟩
     have hc56 : Chg [] w5 w6 := (drw w5).tr hc6
     have h6 := h5.chg0 hc56
     have hn6 := hn5.chg0 hc56
     have hT6 := hT5.chg0 hc56
     have hTa : At w6 tb 0 [str a.1, str a.2] := hT6.at (by rfl)
     have hup : (cnP n).take (i + 1) = (cnP n).take i ++ [a] := by
      have hob9 := List.getElem?_eq_some_iff.1 ha
      obtain ⟨q1, q2⟩ := hob9
      rw [← List.take_append_getElem q1, q2]
     have hob10 : ∃ o3, o3 = out ++ (eo sp ((cnP n).take i)).take (most - out.length) := ⟨_, rfl⟩
     obtain ⟨o3, ho3⟩ := hob10
     rw [← ho3] at h6
     have hone := u7 (a := a) o3 ho3
     rw [← hup] at hone
     have hob11 := h6.own.sl.form rfl
     obtain ⟨po, co, hov⟩ := hob11
     subst hov
     have hB6 := h6.blk
     have hin6 : In (.slice po o3.length co) (aq ov) w2.heap.size := hin3
     have hk26 : w2.heap.size ≤ w6.heap.size := Nat.le_trans hk23 (Nat.le_trans hc35.1 hc56.1)
     have hc06 : Chg (WF b mb ov) w w6 := (hc3.tr0 hc35).tr0 hc56
     refine ym rfl rfl rfl ?_
     refine bf rfl rfl rfl ?_
     refine bf rfl rfl rfl ?_
     refine bf rfl rfl rfl ?_
     refine dF rfl rfl rfl ?_
     refine bf rfl rfl rfl ?_
     refine bf rfl rfl rfl ?_
     refine bf rfl rfl rfl ?_
     refine bf rfl rfl rfl ?_
     refine dF rfl rfl rfl ?_
     refine bf rfl rfl rfl ?_
     refine al rfl rfl rfl (fun _ => (aO rfl)) ?_
     refine aR (a7 (aN (rfl) ?_))
     refine aA (aB (a7 (aj (a6 rfl (aD rfl rfl (by omega)) (zm rfl ?_)))))
     refine a8 (a7 (Exists.intro (k) (And.intro (by omega) ?_)))
     exact ⟨i + 1, _, ay rfl (ay rfl (ay rfl (ay rfl (ay rfl (ay (bH (by omega)) bJ))))), by omega, (hone.2 (.inl hd)) ▸ h6, hin6, hk26, hc06, hn6⟩
   ·refine aQ (ar (ar (aE (a7 (ae (zSR (zm rfl (zn rfl rfl (a6 rfl (aa bh rfl I41 rfl rfl) ?_)))))))))
    rw [List.take_of_length_le (l := cnP n) (i := i) (by omega)] at h3
    have hBv3 : Blk w3 vb [.bool (cnL n), .slice pp (cnP n).length cp, vk, .slice pi (cnI n).length ci] := hn3.blk
    have hil2 : (cnI n).length = ts.length := by rw [hids, bm]
    have hlm : (prT ts).length ≤ m.length := by rw [hmm, List.length_append]; omega
    refine a6 rfl (az bB rfl rfl (hBv3.c rfl)) ?_
    refine a6 rfl (au rfl bB) (zm rfl ?_)
    refine a8 (a7 (aw (bC [0, 2, 7, 83, 84, 85] (fun k vs w' => ∃ (i : Nat) (ov' : Value) (f' : PgF), vs = [.pointer (some ⟨b, 0, none⟩), .int .i64 deep, .pointer (some ⟨vb, 0, none⟩), .slice pi (cnI n).length ci, .int .i64 (cnI n).length, .int .i64 i] ∧ i + k = (cnI n).length ∧ Wk c w' b mb s sp most f' (out ++ (eo sp (cnP n ++ prT (ts.take i))).take (most - out.length)) ov' ∧ (∀ x, f' x = true → f x = true ∨ x = id ∨ x ∈ pgT (ts.take i)) ∧ In ov' (aq ov) w2.heap.size ∧ w2.heap.size ≤ w'.heap.size ∧ Chg (WF b mb ov) w w' ∧ NAt w' ⟨vb, .slice pp (cnP n).length cp, vk, .slice pi (cnI n).length ci⟩ n) ((cnI n).length) ?_ ?_)))
    ·refine ⟨0, ov3, dn f id, rfl, by omega, ?_, fun x hx => ?_, hin3, hk23, hc3, hn3⟩
     ·rw [List.take_zero, show prT [] = [] from rfl, List.append_nil]; exact h3
     ·unfold dn at hx
      simp only [Bool.or_eq_true, decide_eq_true_eq] at hx
      rcases hx with g | g
      ·exact .inr (.inl g)
      ·exact .inl g
    ·rintro k vs J w4 ⟨i, ov4, f4, rfl, hik, h4, hf4, hin4, hk24, hc4, hn4⟩
     refine zSR (a6 rfl (bw rfl rfl) ?_)
     refine a8 (a7 (ae (aC rfl (fun hil => ?_) (fun hil => ?_))))
     ·refine aA (a7 (ae (aw (zSR (zm rfl ?_)))))
      have hob12 : ∃ q, k = q + 1 := ⟨k - 1, by omega⟩
      obtain ⟨k, rfl⟩ := hob12
      have hit : i < ts.length := by omega
      have hne : ts ≠ [] := fun e => by rw [e] at hit; simp at hit
      have hob13 := hsep hne
      obtain ⟨⟨ks, ids, hn⟩, hsp, hkl⟩ := hob13
      have hob14 := hkid ts[i] (List.getElem_mem hit)
      obtain ⟨q, hdq, hkt, hkm⟩ := hob14
      have hn4' : NAt w4 ⟨vb, .slice pp (cnP n).length cp, vk, .slice pi (cnI n).length ci⟩ (.br (cnK n) (cnI n)) := by
       have : n = .br (cnK n) (cnI n) := by rw [hn]; rfl
       rw [← this]; exact hn4
      have hiS4 : Sl w4 (.slice pi (cnI n).length ci) (cnI n) := hn4.i
      have hget : (cnI n)[i]? = some ts[i].1 := by rw [hids, aS, List.getElem?_map, List.getElem?_eq_getElem hit]; rfl
      have hAt : At w4 b 2 [str sp.lo, str sp.hi, .bool sp.fin] := h4.blk.at (l := [str sp.lo, str sp.hi, .bool sp.fin]) (off := 2) rfl
      refine bg rfl (bZ (i) bB I25 rfl (hiS4) rfl rfl (by first | rfl | omega) (by omega)) ?_
      rintro _ ⟨bi, oi, rfl, hei, hbi⟩
      refine a6 rfl (az bR rfl rfl (((hiS4.at hei hget).c0 rfl))) ?_
      refine za rfl (za rfl (a8 (a7 (ae (ae (aL bG (.pure 0 (.pure 1 (.pure 2 (.read 3 (.pure 4 (.pure 5 (.eff 6 [] (.eff 7 [] (.pure 8 (.pure 9 (.pure 10 (.pure 11 (.read 12 (.pure 13 (.pure 14 (.pure 15 (.pure 16 (.read 17 (.pure 18 (.pure 19 .nil)))))))))))))))))))) (by kernel_rfl) ?_))))))
      refine ym rfl rfl rfl ?_
      refine yn rfl rfl rfl rfl ?_
      refine al rfl rfl rfl (fun _ => (aa ja rfl n1 rfl rfl)) ?_
      refine dq rfl rfl rfl (fun w' => At w' b 2 [str sp.lo, str sp.hi, .bool sp.fin]) (hAt) (fun w1 h1 => bP eX rfl n1 rfl h1 rfl) ?_
      refine ym rfl rfl rfl ?_
      refine ym rfl rfl rfl ?_
      refine aF rfl rfl rfl C100 (AS _ sp ⟨vb, .slice pp (cnP n).length cp, vk, .slice pi (cnI n).length ci⟩ (cnK n) (cnI n) i (hn4'.chg0 (drw w4)) hkl (by omega) (by omega)) ?_
      rintro _ w5 ⟨rfl, hc5⟩
      refine ⟨trivial, ?_⟩
      have hob15 : ∃ K, K = sp.kid (cnK n) i := ⟨_, rfl⟩
      obtain ⟨K, hK⟩ := hob15
      have hd : K.emp = true ∨ K.emp = false := by cases K.emp <;> simp
      have hc45 : Chg [] w4 w5 := (drw w4).tr hc5
      have hob16 : ∃ o4, o4 = out ++ (eo sp (cnP n ++ prT (ts.take i))).take (most - out.length) := ⟨_, rfl⟩
      obtain ⟨o4, ho4⟩ := hob16
      rw [← ho4] at h4
      have hob17 := h4.own.sl.form rfl
      obtain ⟨po, co, hov⟩ := hob17
      subst hov
      have htk : prT (ts.take (i + 1)) = prT (ts.take i) ++ ts[i].2.2 := by rw [← List.take_append_getElem hit, eC, eY]; simp [prT]
      have hmore := rC out (eo sp (cnP n ++ prT (ts.take i))) (eo sp ts[i].2.2) most
      rw [← ho4, ← mi, List.append_assoc, ← htk] at hmore
      have hfup : ∀ {f' : PgF}, (∀ x, f' x = true → f4 x = true ∨ x ∈ ts[i].2.1) → ∀ x, f' x = true → f x = true ∨ x = id ∨ x ∈ pgT (ts.take (i + 1)) := fun {f'} hf' x hx => by
       have htp : pgT (ts.take (i + 1)) = pgT (ts.take i) ++ ts[i].2.1 := by rw [← List.take_append_getElem hit, dw, ey]; simp [pgT]
       rw [htp]
       rcases hf' x hx with g | g
       ·rcases hf4 x g with g | g | g
        ·exact .inl g
        ·exact .inr (.inl g)
        ·exact .inr (.inr (List.mem_append_left _ g))
       ·exact .inr (.inr (List.mem_append_right _ g))
      rcases hd with hd | hd
      ·refine aF rfl rfl rfl C101 (xS _ (sp.kid (cnK n) i) true (hK ▸ hd)) ?_
       rintro _ w6 ⟨rfl, hc6⟩
       refine ⟨trivial, ?_⟩
       refine ym rfl rfl rfl ?_
       refine bf rfl rfl rfl ?_
       refine bf rfl rfl rfl ?_
       refine bf rfl rfl rfl ?_
       refine dF rfl rfl rfl ?_
       refine bf rfl rfl rfl ?_
       refine bf rfl rfl rfl ?_
       refine bf rfl rfl rfl ?_
       refine bf rfl rfl rfl ?_
       refine dF rfl rfl rfl ?_
       refine bf rfl rfl rfl ?_
       refine al rfl rfl rfl (fun _ => (aM rfl)) ?_
       refine aR (a7 (aY (rfl) ?_))
       refine aQ (ar (aE (a7 (aj (a6 rfl (aD rfl rfl (by omega)) (zm rfl ?_))))))
       refine a8 (a7 (Exists.intro (k) (And.intro (by omega) ?_)))
       have hsk := AR hsp hit (hK ▸ hd)
       rw [hsk, List.take_nil, List.append_nil] at hmore
       rw [hmore] at h4 hin4
       have hc46 := hc45.tr hc6
       exact ⟨i + 1, _, f4, ay rfl (ay rfl (ay rfl (ay rfl (ay rfl (ay (bH (by omega)) bJ))))), by omega, h4.chg0 hc46, hfup (fun x hx => .inl hx), hin4, Nat.le_trans hk24 hc46.1, hc4.tr0 hc46, hn4.chg0 hc46⟩
      ·refine aF rfl rfl rfl C101 (xS _ (sp.kid (cnK n) i) false (hK ▸ hd)) ?_
       rintro _ w6 ⟨rfl, hc6⟩
       refine ⟨trivial, ?_⟩
       refine ym rfl rfl rfl ?_
       refine ym rfl rfl rfl ?_
       refine yn rfl rfl rfl rfl ?_
       refine al rfl rfl rfl (fun _ => (aa ja rfl I33 rfl rfl)) ?_
       have hc46 := hc45.tr hc6
       have h6 := h4.chg0 hc46
       have hn6 := hn4.chg0 hc46
       have hB6 := h6.blk
       refine aX rfl rfl rfl bV rfl rfl (hB6.c rfl) ?_
       refine al rfl rfl rfl (fun _ => (au rfl bV)) ?_
       refine ym rfl rfl rfl ?_
       refine yn rfl rfl rfl rfl ?_
       refine al rfl rfl rfl (fun _ => (aa ja rfl I3 rfl rfl)) ?_
       refine aX rfl rfl rfl uU3 rfl rfl (hB6.c rfl) ?_
       refine al rfl rfl rfl (fun _ => (j8 rfl rfl)) ?_
       refine al rfl rfl rfl (fun _ => (aO rfl)) ?_
       refine aR (a7 (aC rfl (fun hfull => ?_) (fun hfull => ?_)))
       ·refine aQ (ar (aE (a7 (aj (a6 rfl (aD rfl rfl (by omega)) (zm rfl ?_))))))
        refine a8 (a7 (Exists.intro (k) (And.intro (by omega) ?_)))
        rw [rD _ _ _ (by omega)] at hmore
        rw [hmore] at h6 hin4
        exact ⟨i + 1, _, f4, ay rfl (ay rfl (ay rfl (ay rfl (ay rfl (ay (bH (by omega)) bJ))))), by omega, h6, hfup (fun x hx => .inl hx), hin4, Nat.le_trans hk24 hc46.1, hc4.tr0 hc46, hn6⟩
       ·refine zKR (zm rfl (zm rfl (zm rfl (a6 rfl (aD rfl rfl (by omega)) ?_))))
        have hsplit : pgT ts = pgT (ts.take i) ++ (ts[i].2.1 ++ pgT (ts.drop (i + 1))) := by
         rw [← ey, ← dw, ← List.drop_eq_getElem_cons hit, List.take_append_drop]
        have hsub : ∀ x ∈ ts[i].2.1, x ∈ pg0 := fun x hx => by rw [hpg, hsplit]; simp [hx]
        have hnd0 : pg0.Nodup := (List.nodup_cons.1 hnd).2
        rw [hpg, hsplit, List.nodup_append] at hnd0
        have hndi := (List.nodup_append.1 hnd0.2.1).1
        have hfri : ∀ x ∈ ts[i].2.1, f4 x = false := fun x hx => by
         cases hfx : f4 x with
         | false => rfl
         | true =>
          rcases hf4 x hfx with g | g | g
          ·rw [hfr x (List.mem_cons_of_mem _ (hsub x hx))] at g; cases g
          ·rw [g] at hx; exact absurd (hsub id hx) (List.nodup_cons.1 hnd).1
          ·exact absurd rfl (hnd0.2.2 x g x (List.mem_append_left _ hx))
        have hoi : o4.length + ts[i].2.2.length ≤ 10000 := by
         have q1 := congrArg List.length ho4
         rw [List.length_append, List.length_take] at q1
         have q2 : (eo sp (cnP n ++ prT (ts.take i))).length ≤ (cnP n ++ prT (ts.take i)).length := List.length_filter_le _ _
         have q3 : prT ts = prT (ts.take i) ++ (ts[i].2.2 ++ prT (ts.drop (i + 1))) := by rw [← eY, ← eC, ← List.drop_eq_getElem_cons hit, List.take_append_drop]
         have q4 := congrArg List.length q3
         have q5 := congrArg List.length hmm
         simp only [List.length_append] at q2 q4 q5
         omega
        refine ah rfl C58 (ih q (by omega) _ ts[i].1 ts[i].2.1 ts[i].2.2 (deep + 1) f4 o4 _ h6 hkt (fun x hx => hw x (List.mem_cons_of_mem _ (hsub x hx))) (by omega) hfri hndi hoi) ?_
        rintro _ w7 ⟨rfl, f7, ov7, h7, hf7, hin7, hc7⟩
        refine za rfl (zNR (zm rfl (a6 rfl (bL rfl rfl) ?_)))
        refine a8 (a7 (aG rfl (fun h => h rfl) ?_))
        refine aA (aB (a7 (aj (a6 rfl (aD rfl rfl (by omega)) (zm rfl ?_)))))
        refine a8 (a7 (Exists.intro (k) (And.intro (by omega) ?_)))
        rw [hmore] at h7
        have k46 := hc46.1
        have k7 := hc7.1
        exact ⟨i + 1, _, f7, ay rfl (ay rfl (ay rfl (ay rfl (ay rfl (ay (bH (by omega)) bJ))))), by omega, h7, hfup hf7, fun x hx => by
         rcases hin7 x hx with g | g
         ·exact hin4 x g
         ·exact .inr (by omega), by omega, (hc4.tr0 hc46).trans hc7 (fun _ hx _ => hx) (fun x hx hl => by
          simp only [WF, List.mem_cons] at hx ⊢
          rcases hx with g | g | g
          ·exact .inl g
          ·exact .inr (.inl g)
          ·exact (hin4 x g).elim (fun g => .inr (.inr g)) (fun g => by omega)), hn6.chg hc7 (fun x hx hh => by
          simp only [WF, List.mem_cons] at hh
          rcases hh with g | g | g
          ·exact hnF x hx (List.mem_append_right _ (by simp [WF, g]))
          ·exact hnF x hx (List.mem_append_right _ (by simp [WF, g]))
          ·rcases hin4 x g with g | g
           ·exact hnF x hx (List.mem_append_right _ (by simp [WF, g]))
           ·have := hn2.lt x hx; omega)⟩
     ·refine aQ (ar (ar (aE (a7 (zSR (za rfl (a8 (a7 (zrf ?_)))))))))
      have hT : ts.take i = ts := List.take_of_length_le (by omega)
      rw [hT, ← hmm] at h4
      rw [hT] at hf4
      refine ⟨rfl, f4, ov4, h4, fun x hx => ?_, fun x hx => (hin4 x hx).imp (fun g => g) (fun g => by omega), hc4⟩
      rcases hf4 x hx with g | g | g
      ·exact .inl g
      ·exact .inr (by simp [g])
      ·exact .inr (by rw [hpg]; simp [g])
end Go.Proofs.YtpbfapbajmdlkaaGreat

end
section
namespace Go.Proofs.YtpbfapbajmdlkaaGreat
open Go Go.Sac
set_option maxRecDepth 100000
set_option maxHeartbeats 4000000
theorem vl (c : TC) (w : World) (s : TP) (root : UInt32) (d : Nat) (pg : List UInt32) (m : List Pr) (lo hi : Bs) (most : Nat) (hm0 : 0 < most) (hm1 : most ≤ 1073741824) (h : c.pg w s) (ht : isT s.V d root pg m) (hw : ∀ x ∈ pg, s.P.now.written x = true) (hd : d ≤ 40) (hnd : pg.Nodup) (hml : m.length ≤ 10000) :
  Ret Tryz.prog 21 #[c.pv, .int .u32 root.toNat, str lo, str hi, .int .i64 most] w fun r w' => (∃ ov, r = .tuple #[ov, .int .i64 0] ∧ Own w' ov ((eo ⟨lo, hi, decide (hi ≠ [])⟩ m).take most) ∧ In ov [] w.heap.size) ∧ Chg [] w w' := by
 refine enter [10, 11] Tryz.func21 rfl rfl (Nat.le_of_ble_eq_true rfl) ?_
 refine zSR (za rfl (za rfl (a8 (a7 (ae (zSR (zm rfl (a6 rfl (lR rfl rfl) ?_))))))))
 refine a8 (a7 (aG rfl (by omega) ?_))
 refine zKR (zm rfl (aU rfl (lQ UInt32) ?_))
 rintro _ w1 ⟨mb, rfl, hnm, hM1, hc1, hl1⟩
 refine zm rfl (zm rfl (zm rfl (a6 rfl (tI rfl rfl) ?_)))
 refine a6 rfl (bM eX n1 rfl (zs := [str [], str [], .bool false]) rfl rfl (bY rfl rfl rfl (Nat.le_of_ble_eq_true rfl) (bY rfl rfl rfl (Nat.le_of_ble_eq_true rfl) (bY rfl rfl rfl (Nat.le_of_ble_eq_true rfl) (ef (cs' := [str lo, str hi, .bool (decide (hi ≠ []))]) rfl))))) ?_
 refine zm rfl (a6 rfl (bM ja I118 rfl (zs := [.pointer none, .map none, str [], str [], .bool false, .int .i64 0, .slice none 0 0]) rfl rfl (bY rfl rfl rfl (Nat.le_of_ble_eq_true rfl) (bY rfl rfl rfl (Nat.le_of_ble_eq_true rfl) (bY rfl rfl rfl (Nat.le_of_ble_eq_true rfl) (bY rfl rfl rfl (Nat.le_of_ble_eq_true rfl) (ef (cs' := [c.pv, .map (some mb), str lo, str hi, .bool (decide (hi ≠ [])), .int .i64 most, .slice none 0 0]) rfl)))))) ?_)
 refine aU rfl (cj (l := [c.pv, .map (some mb), str lo, str hi, .bool (decide (hi ≠ [])), .int .i64 most, .slice none 0 0]) rfl rfl) ?_
 rintro _ w2 ⟨b, rfl, hnb, hB2, hc2, hl2⟩
 refine za rfl (a8 (a7 (ae (zSR (zm rfl (zm rfl ?_))))))
 have hc02 := hc1.tr hc2
 have k1 := hc1.1
 have hw0 := h.1.2.1.1
 have hk2 : Wk c w2 b mb s ⟨lo, hi, decide (hi ≠ [])⟩ most j4 [] (.slice none 0 0) := ⟨h.chg0 hc02, hB2, (SetAt.nil hM1).chg0 hc2, Own.nil _, by omega, by simp [aq], by simp [aq], fun x hx => by
  have hx : x ∈ [b, mb] := hx
  simp only [List.mem_cons, List.mem_nil_iff, or_false] at hx
  rcases hx with rfl | rfl
  ·exact ⟨by omega, fun hh => by have := h.lt _ hh; omega⟩
  ·exact ⟨by omega, fun hh => by have := h.lt _ hh; omega⟩⟩
 refine ah rfl C58 (goes_ok c b mb s ⟨lo, hi, decide (hi ≠ [])⟩ most hm1 d w2 root pg m 0 j4 [] (.slice none 0 0) hk2 ht hw (by omega) (fun x _ => rfl) hnd (by simpa using hml)) ?_
 rintro _ w3 ⟨rfl, f3, ov3, hk3, hf3, hin3, hc3⟩
 refine za rfl (zNR (zm rfl (a6 rfl (bL rfl rfl) ?_)))
 refine a8 (a7 (aG rfl (fun h => h rfl) ?_))
 refine zKR (zm rfl (zn rfl rfl (a6 rfl (aa ja rfl I33 rfl rfl) ?_)))
 have hB3 := hk3.blk
 refine a6 rfl (az bV rfl rfl (hB3.c rfl)) ?_
 refine za rfl (za rfl (a8 (a7 (zrf ?_))))
 have hown := hk3.own
 rw [List.nil_append, List.length_nil, Nat.sub_zero] at hown
 refine ⟨⟨ov3, rfl, hown, fun x hx => ?_⟩, hc02.t0 hc3 (fun x hx => ?_)⟩
 ·rcases hin3 x hx with g | g
  ·simp [aq] at g
  ·exact .inr (by have := hc02.1; omega)
 ·have hx : x ∈ [b, mb] := hx
  simp only [List.mem_cons, List.mem_nil_iff, or_false] at hx
  rcases hx with rfl | rfl <;> omega
theorem Bl (w : World) (pv : Value) (root : UInt32) (lo hi : Bs) (most : Int) (hm : most ≤ 0) :
  Ret Tryz.prog 21 #[pv, .int .u32 root.toNat, str lo, str hi, .int .i64 most] w fun r w' => r = .tuple #[.slice none 0 0, .int .i64 0] ∧ w = w' := by
 refine enter [10, 11] Tryz.func21 rfl rfl (Nat.le_of_ble_eq_true rfl) ?_
 refine zSR (za rfl (za rfl (a8 (a7 (ae (zSR (zm rfl (a6 rfl (lR rfl rfl) ?_))))))))
 refine a8 (a7 (bq rfl (hm) ?_))
 refine zSR (za rfl (za rfl (a8 (a7 (zrt ?_)))))
 exact ⟨rfl, rfl⟩
theorem TLen_ok (c : TC) (w : World) (s : TP) (root : UInt32) (d : Nat) (pg : List UInt32) (m : List Pr) (h : c.pg w s) (ht : isT s.V d root pg m) (hw : ∀ x ∈ pg, s.P.now.written x = true) (hd : d ≤ 40) (hnd : pg.Nodup) (hml : m.length ≤ 10000) :
  Ret Tryz.prog 27 #[c.pv, .int .u32 root.toNat] w fun r w' => r = .tuple #[.int .i64 m.length, .int .i64 0] ∧ Chg [] w w' := by
 refine enter [4, 5] Tryz.func27 rfl rfl (Nat.le_of_ble_eq_true rfl) ?_
 refine zSR (za rfl (za rfl (zNR (zm rfl (zm rfl (ah rfl C21 (vl c w s root d pg m [] [] 1073741824 (by decide) (Nat.le_refl _) h ht hw hd hnd hml) ?_))))))
 rintro _ w1 ⟨⟨ov, rfl, ho, hi⟩, hc1⟩
 have hall : (eo ⟨[], [], decide (([] : Bs) ≠ [])⟩ m).take 1073741824 = m := by
  have : eo ⟨[], [], decide (([] : Bs) ≠ [])⟩ m = m := ec (fun p _ => by simp [Sp.has, mG])
  rw [this, List.take_of_length_le (by omega)]
 rw [hall] at ho
 have hob1 := ho.sl.form rfl
 obtain ⟨p1, c1, rfl⟩ := hob1
 refine zm rfl (zx rfl rfl rfl (zx rfl rfl rfl (za rfl (za rfl (zNR (zm rfl (a6 rfl (au rfl bV) (zm rfl (za rfl (za rfl ?_))))))))))
 refine a8 (a7 (zrf ?_))
 exact ⟨rfl, hc1⟩
end Go.Proofs.YtpbfapbajmdlkaaGreat

end
section
namespace Go.Proofs.YtpbfapbajmdlkaaGreat
open Go Go.Sac
set_option maxRecDepth 100000
set_option maxHeartbeats 4000000
theorem AV (w : World) (b : Nat) (s : Sp) (k : Bs) (hB : Blk w b [str s.lo, str s.hi, .bool s.fin]) (hk : s.has k = true) :
  Ret Tryz.prog 172 #[str k, .pointer (some ⟨b, 0, none⟩)] w fun r w' => r = .bool false ∧ Chg [] w w' := by
 have hAt : At w b 0 [str s.lo, str s.hi, .bool s.fin] := hB.at (by rfl)
 refine enter [3] Tryz.func172 rfl rfl (Nat.le_of_ble_eq_true rfl) ?_
 refine zSR (za rfl (zNR (a6 rfl (bP eX rfl n1 rfl hAt rfl) ?_)))
 refine zm rfl (ah rfl C99 (xI _ s k true hk) ?_)
 rintro _ w1 ⟨rfl, hc1⟩
 refine a6 rfl (cy rfl) (za rfl (a8 (a7 (zrf ?_))))
 exact ⟨rfl, hc1⟩
theorem zu (w : World) (b : Nat) (s : Sp) (v : Value) (ks : List Bs) (hB : Blk w b [str s.lo, str s.hi, .bool s.fin]) (hs : Sl w v ks) (hk : ∀ k ∈ ks, s.has k = true) (hl : ks.length ≤ 100000) :
  Ret Tryz.prog 214 #[v, .func (.func 172) #[] #[.pointer (some ⟨b, 0, none⟩)]] w fun r w' => r = .int .i64 (-1) ∧ Chg [] w w' := by
 have hob1 := hs.form rfl
 obtain ⟨p, cp, rfl⟩ := hob1
 refine enter [4] Tryz.func214 rfl rfl (Nat.le_of_ble_eq_true rfl) ?_
 refine zSR (za rfl (a8 (a7 (ae (zSR (zm rfl (a6 rfl (au rfl bS) (zm rfl ?_))))))))
 refine a8 (a7 (aw (bC [0, 1, 7, 8] (fun m vs w' => ∃ i : Nat, vs = [.slice p ks.length cp, .func (.func 172) #[] #[.pointer (some ⟨b, 0, none⟩)], .int .i64 ks.length, .int .i64 i] ∧ i + m = ks.length ∧ Chg [] w w') (ks.length) ?_ ?_)))
 ·exact ⟨0, rfl, by omega, Chg.refl _⟩
 ·rintro m vs J w1 ⟨i, rfl, him, hc1⟩
  refine zSR (a6 rfl (bw rfl rfl) ?_)
  refine a8 (a7 (ae (aC rfl (fun hlt => ?_) (fun hlt => ?_))))
  ·refine aA (a7 (ae (aw (zSR (zm rfl (za rfl (zNR (zm rfl (zm rfl (zm rfl ?_))))))))))
   have hob2 : ∃ z, m = z + 1 := ⟨m - 1, by omega⟩
   obtain ⟨m, rfl⟩ := hob2
   have hob3 : ∃ a, ks[i]? = some a := ⟨_, List.getElem?_eq_getElem (by omega)⟩
   obtain ⟨a, ha⟩ := hob3
   have hs1 := hs.mod0 hc1
   refine bg rfl (bZ (i) bS I9 rfl (hs1) rfl rfl (by first | rfl | omega) (by omega)) ?_
   rintro _ ⟨bi, oi, rfl, hei, hbi⟩
   refine a6 rfl (az uU9 rfl rfl (((hs1.at hei ha).c0 rfl))) ?_
   refine ah rfl (lU rfl Tryz.func172 rfl rfl) (AV w1 b s a (hB.chg0 hc1) (hk a (List.mem_of_getElem? ha))) ?_
   rintro _ w2 ⟨rfl, hc2⟩
   refine a8 (a7 (aN (rfl) ?_))
   refine aA (aB (a7 (aj (a6 rfl (aD rfl rfl (by omega)) (zm rfl ?_)))))
   refine a8 (a7 (Exists.intro (m) (And.intro (by omega) ?_)))
   exact ⟨i + 1, ay rfl (ay rfl (ay rfl (ay (bH (by omega)) bJ))), by omega, hc1.tr hc2⟩
  ·refine aQ (ar (ar (aE (a7 (zSR (za rfl (a8 (a7 (zrf ?_)))))))))
   exact ⟨rfl, hc1⟩
theorem tD (w : World) (b : Nat) (s : Sp) (v : Value) (ks : List Bs) (hB : Blk w b [str s.lo, str s.hi, .bool s.fin]) (hs : Sl w v ks) (hk : ∀ k ∈ ks, s.has k = true) (hl : ks.length ≤ 100000) :
  Ret Tryz.prog 171 #[v, .func (.func 172) #[] #[.pointer (some ⟨b, 0, none⟩)]] w fun r w' => r = .bool false ∧ Chg [] w w' := by
 refine enter [4] Tryz.func171 rfl rfl (Nat.le_of_ble_eq_true rfl) ?_
 refine zSR (za rfl (zNR (zm rfl (zm rfl (ah rfl C214 (zu w b s v ks hB hs hk hl) ?_)))))
 rintro _ w1 ⟨rfl, hc1⟩
 refine a6 rfl (j8 rfl rfl) (za rfl ?_)
 refine a8 (a7 (zrf ?_))
 exact ⟨rfl, hc1⟩
theorem keys_ok (w : World) (s : Sp) (v : NV) (n : Cn) (h : NAt w v n) (hp : ∀ p ∈ cnP n, s.has p.1 = true) (hk : ∀ k ∈ cnK n, s.has k = true) (hl : (cnP n).length ≤ 10000 ∧ (cnK n).length ≤ 10000) :
  Ret Tryz.prog 111 #[spV s, v.ptr] w fun r w' => r = .bool true ∧ Chg [] w w' := by
 obtain ⟨vb, vp, vk, vi⟩ := v
 have hB := h.blk
 have hpS : Sl w vp (cnP n) := h.p
 have hob4 : ∃ p c, vp = .slice p (cnP n).length c := hpS.form rfl
 obtain ⟨pp, cp, rfl⟩ := hob4
 have hB : Blk w vb [.bool (cnL n), .slice pp (cnP n).length cp, vk, vi] := hB
 refine enter [4] Tryz.func111 rfl rfl (Nat.le_of_ble_eq_true rfl) ?_
 refine zSR (aU rfl (cj (l := [str s.lo, str s.hi, .bool s.fin]) rfl rfl) ?_)
 rintro _ w1 ⟨b, rfl, hn, hS1, hc1, hl1⟩
 refine za rfl (a8 (a7 (ae (zSR (zm rfl (zn rfl rfl (a6 rfl (aa bh rfl I33 rfl rfl) ?_)))))))
 have hB1 := hB.chg0 hc1
 refine a6 rfl (az bV rfl rfl (hB1.c rfl)) ?_
 refine a6 rfl (au rfl bV) (zm rfl ?_)
 refine a8 (a7 (aw (bC [1, 2, 10, 11, 12] (fun m vs w' => ∃ i : Nat, vs = [.pointer (some ⟨vb, 0, none⟩), .pointer (some ⟨b, 0, none⟩), .slice pp (cnP n).length cp, .int .i64 (cnP n).length, .int .i64 i] ∧ i + m = (cnP n).length ∧ Chg [] w1 w') ((cnP n).length) ?_ ?_)))
 ·exact ⟨0, rfl, by omega, Chg.refl _⟩
 ·rintro m vs J w2 ⟨i, rfl, him, hc2⟩
  refine zSR (a6 rfl (bw rfl rfl) ?_)
  refine a8 (a7 (ae (aC rfl (fun hlt => ?_) (fun hlt => ?_))))
  ·refine aA (a7 (ae (aw (ae (aj ?_)))))
   have hob5 : ∃ z, m = z + 1 := ⟨m - 1, by omega⟩
   obtain ⟨m, rfl⟩ := hob5
   have hob6 : ∃ a, (cnP n)[i]? = some a := ⟨_, List.getElem?_eq_getElem (by omega)⟩
   obtain ⟨a, ha⟩ := hob6
   have hs2 := (hpS.mod0 hc1).mod0 hc2
   refine bg rfl (bZ (i) bV I49 rfl (hs2) rfl rfl (by first | rfl | omega) (by omega)) ?_
   rintro _ ⟨bi, oi, rfl, hei, hbi⟩
   refine a6 rfl (bP fB rfl I49 rfl (hs2.at hei ha) rfl) ?_
   refine aU rfl (dh (l := [str [], str []]) I49 rfl rfl) ?_
   rintro _ w3 ⟨tb, rfl, hnt, hT3, hc3, hl3⟩
   refine aI rfl (cx (l := [str a.1, str a.2]) I49 rfl rfl hT3 rfl rfl (Nat.le_refl 2) (by simp [eb]) (cw rfl)) ?_
   rintro w4 ⟨hT4, hc4, hs4⟩
   refine a8 (a7 (ae (aj ?_)))
   have hc14 := hc2.tr (hc3.t1 hc4 hnt)
   have hAt : At w4 b 0 [str s.lo, str s.hi, .bool s.fin] := (hS1.chg0 hc14).at (by rfl)
   refine a6 rfl (bP eX rfl n1 rfl hAt rfl) ?_
   refine a6 rfl (aa fB rfl I9 rfl rfl) ?_
   refine a6 rfl (az uU9 rfl rfl (hT4.c rfl)) ?_
   refine ah rfl C99 (xI _ s a.1 true (hp a (List.mem_of_getElem? ha))) ?_
   rintro _ w5 ⟨rfl, hc5⟩
   refine a6 rfl (cy rfl) (a8 (a7 (aN (rfl) ?_)))
   refine aA (aB (a7 (aj (a6 rfl (aD rfl rfl (by omega)) (zm rfl ?_)))))
   refine a8 (a7 (Exists.intro (m) (And.intro (by omega) ?_)))
   exact ⟨i + 1, ay rfl (ay rfl (ay rfl (ay rfl (ay (bH (by omega)) bJ)))), by omega, hc14.tr hc5⟩
  ·refine aQ (ar (ar (aE (a7 (zSR (zm rfl (zn rfl rfl (a6 rfl (aa bh rfl I70 rfl rfl) ?_))))))))
   have hB2 := hB1.chg0 hc2
   refine a6 rfl (az bS rfl rfl (hB2.c rfl)) ?_
   refine a6 rfl (x_mkF rfl) ?_
   refine ah rfl C171 (tD w2 b s vk (cnK n) (hS1.chg0 hc2) ((h.k.mod0 hc1).mod0 hc2) hk (by omega)) ?_
   rintro _ w3 ⟨rfl, hc3⟩
   refine a6 rfl (cy rfl) (za rfl (a8 (a7 (zrf ?_))))
   exact ⟨rfl, (hc1.tr hc2).tr hc3⟩
end Go.Proofs.YtpbfapbajmdlkaaGreat

end
section
namespace Go.Proofs.YtpbfapbajmdlkaaGreat
open Go Go.Sac
set_option maxRecDepth 100000
set_option maxHeartbeats 4000000
structure Ck (c : TC) (w : World) (b mb : Nat) (s : TP) (f : PgF) (dp : Int) : Prop where
 pg : c.pg w s
 blk : Blk w b [c.pv, .map (some mb), .int .i64 dp]
 set : SetAt w mb f
 b1 : b ≠ mb
 fr : ∀ x ∈ [b, mb], c.w0.heap.size ≤ x ∧ x ∉ c.F
theorem Ck.chg0 {c : TC} {w w' : World} {b mb : Nat} {s : TP} {f : PgF} {dp : Int} (h : Ck c w b mb s f dp) (hm : Chg [] w w') : Ck c w' b mb s f dp := ⟨h.pg.chg0 hm, h.blk.chg0 hm, h.set.chg0 hm, h.b1, h.fr⟩
theorem AU {sp : Sp} {ks : List Bs} {ts : List Kd} {i : Nat} (h : Seps ks (msT ts)) (hi : i < ts.length) (hp : ∀ p ∈ prT ts, sp.has p.1 = true) : ∀ p ∈ ts[i].2.2, (sp.kid ks i).has p.1 = true := fun p hpi => by
 have hm : (msT ts)[i]? = some ts[i].2.2 := by rw [msT, List.getElem?_map, List.getElem?_eq_getElem hi]; rfl
 obtain ⟨h1, h2⟩ := h.kid hm
 exact Sp.kid_has (hp p (List.mem_flatMap.2 ⟨ts[i], List.getElem_mem hi, hpi⟩)) (fun hi0 => h1 (i - 1) (by omega) p hpi) (fun hl => h2 hl p hpi)
theorem Au (w : World) (v : NV) (n : Cn) (x : Bool) (hx : iB n = x) (h : NAt w v n) : Ret Tryz.prog 112 #[v.ptr] w fun r w' => r = .bool x ∧ w = w' := hx ▸ xA w v n h
theorem Bb (c : TC) (b mb : Nat) (s : TP) : ∀ (d : Nat) (w : World) (id : UInt32) (pg : List UInt32) (m : List Pr) (deep : Nat) (f : PgF) (dp : Int) (sp : Sp), Ck c w b mb s f dp → isT s.V d id pg m → (∀ x ∈ pg, s.P.now.written x = true) → deep + d ≤ 40 → (∀ x ∈ pg, f x = false) → pg.Nodup → (∀ p ∈ m, sp.has p.1 = true) → (dp = -1 ∨ dp = ((deep + d : Nat) : Int)) → (0 < deep → m ≠ []) →
  Ret Tryz.prog 63 #[.pointer (some ⟨b, 0, none⟩), .int .u32 id.toNat, spV sp, .int .i64 deep] w fun r w' => r = .int .i64 0 ∧ ∃ f', Ck c w' b mb s f' ((deep + d : Nat) : Int) ∧ (∀ x, f' x = true → f x = true ∨ x ∈ pg) ∧ Chg [b, mb] w w' := by
 intro d
 induction d using Nat.strongRecOn with
 | _ d ih =>
  intro w id pg m deep f dp sp h ht hw hd hfr hnd hsp hdp hne0
  obtain ⟨n, pg0, rfl, hct, hV, hz, hf⟩ := jj ht
  have hg := CT.good hct hz hf
  obtain ⟨st, hst, hsl⟩ := h.set
  have hfid := hfr id (by simp)
  have hlook : (bW id st).getD (.bool false) = .bool false := by rw [SetAt.look hsl, hfid]
  obtain ⟨ts, hids, hpg, hmm, hsep, hkid⟩ := CT.parts hct
  refine enter [8] Tryz.func63 rfl rfl (Nat.le_of_ble_eq_true rfl) ?_
  refine zSR (aU rfl (cj (l := [str sp.lo, str sp.hi, .bool sp.fin]) rfl rfl) ?_)
  rintro _ w1 ⟨sb, rfl, hsn, hS1, hc1, hl1⟩
  refine za rfl (a8 (a7 (ae (zSR (zm rfl ?_)))))
  have h1 := h.chg0 hc1
  have hB1 := h1.blk
  have hst1 := hst.mod hc1 (by simp)
  refine a6 rfl (cg (dg rfl rfl) (congrArg Value.bool (decide_eq_false (by omega)))) ?_
  refine zm rfl (ag rfl (zm rfl (ag rfl (zn rfl rfl (ag rfl (a6 rfl (aa pj rfl I114 rfl rfl) (ag rfl ?_)))))))
  refine a6 rfl (az nN rfl rfl (hB1.c rfl)) ?_
  refine ag rfl (zm rfl (ag rfl (a6 rfl (cg (fL (k := id) nN (cT bR) I4 rfl rfl rfl hst1) hlook) ?_)))
  refine a6 rfl (aO rfl) (a8 (a7 (aN (rfl) ?_)))
  refine zKR (zm rfl (zn rfl rfl (a6 rfl (aa pj rfl I114 rfl rfl) ?_)))
  refine a6 rfl (az nN rfl rfl (hB1.c rfl)) ?_
  refine zm rfl (aI rfl (gH (k := id) nN (cT bR) rfl rfl rfl hst1) ?_)
  rintro w2 ⟨hm2, hc2, hs2⟩
  refine zNR (zm rfl (zn rfl rfl (a6 rfl (aa pj rfl I24 rfl rfl) ?_)))
  have hmF := h.fr mb (by simp)
  have k1 := hc1.1
  have k2 := hc2.1
  have hbw := h.fr b (by simp)
  have hS2 := hS1.chg hc2 (by have := h.set.lt; simp; omega)
  have h2 : Ck c w2 b mb s (dn f id) dp := ⟨h1.pg.chg hc2 (fun x hx hh => by simp at hh; subst hh; exact hmF.2 hx) (fun x hx => by simp at hx; subst hx; exact hmF.1), h1.blk.chg hc2 (by simp; exact h.b1), ⟨_, hm2, mf hsl id⟩, h.b1, h.fr⟩
  have hB2 := h2.blk
  refine a6 rfl (az yh rfl rfl (hB2.c rfl)) ?_
  refine zm rfl (ah rfl C59 (oD c w2 s id n h2.pg (hw id (by simp)) hV hg) ?_)
  rintro _ w3 ⟨⟨v, rfl, hn3, hnew3⟩, hc3⟩
  refine zm rfl (zx rfl rfl rfl (zx rfl rfl rfl (za rfl (za rfl (a8 (a7 (ae (aw (zSR (zm rfl (a6 rfl (bL rfl rfl) (za rfl ?_))))))))))))
  refine a8 (a7 (aG rfl (fun h => h rfl) ?_))
  have h3 := h2.chg0 hc3
  have hS3 := hS2.chg0 hc3
  have hAt : At w3 sb 0 [str sp.lo, str sp.hi, .bool sp.fin] := hS3.at (by rfl)
  have hpp : ∀ p ∈ cnP n, sp.has p.1 = true := fun p hp => hsp p (by rw [hmm]; exact List.mem_append_left _ hp)
  have hkk : ∀ k ∈ cnK n, sp.has k = true := by
   by_cases hne : ts = []
   ·cases n with
    | leaf ps => exact fun k hk => by simp [cnK] at hk
    | br ks ids => have hgb : brOk ks ids := hg; have q1 := hgb.2.1; have q2 : ids = aS ts := hids; rw [hne] at q2; rw [q2] at q1; simp [aS] at q1
   ·have hob1 := hsep hne
    obtain ⟨_, hsp2, _⟩ := hob1
    exact Seps.key_has hsp2 (fun x hx => by obtain ⟨t, ht, rfl⟩ := List.mem_map.1 hx; obtain ⟨_, _, _, q⟩ := hkid t ht; exact q) (fun p hp => hsp p (by rw [hmm]; rw [gN] at hp; exact List.mem_append_right _ hp))
  have hlens : (cnP n).length ≤ 10000 ∧ (cnK n).length ≤ 10000 := by
   cases n with
   | leaf ps => have := hU ps; have q : bK ps ≤ 480 := hz; exact ⟨by show ps.length ≤ 10000; omega, Nat.zero_le _⟩
   | br ks ids => have hgb : brOk ks ids := hg; exact ⟨Nat.zero_le _, Nat.le_trans hgb.few.1 (by decide)⟩
  have hpo : iB n = false ∨ (iB n = true ∧ n = .leaf [] ∧ deep = 0) := by
   cases n with
   | leaf ps =>
    cases ps with
    | nil => exact .inr ⟨rfl, rfl, by
      rcases Nat.eq_zero_or_pos deep with g | g
      ·exact g
      ·have hob2 := CT.isLeaf hct
       obtain ⟨_, q, _, _⟩ := hob2
       exact absurd q.symm (hne0 g)⟩
    | cons p ps => exact .inl (by simp [iB])
   | br ks ids => have hgb : brOk ks ids := hg; exact .inl (by have q1 := hgb.2.1; have q2 : 0 < ks.length := List.length_pos_iff.2 hgb.1; simp [iB]; omega)
  have hBv := hn3.blk
  refine gA [42] [42, 43, 44, 45, 46, 47, 48, 49, 50, 51, 52, 53, 54, 55, 56, 57, 58, 59, 60, 61] (fun vs w' => vs = [.bool false] ∧ Chg [] w3 w') (by kernel_rfl) ?_ ?_
  ·refine aj (a6 rfl (bP eX rfl n1 rfl hAt rfl) ?_)
   refine zm rfl (ah rfl C111 (keys_ok w3 sp v n hn3 hpp hkk hlens) ?_)
   rintro _ w4 ⟨rfl, hc4⟩
   refine a6 rfl (cy rfl) (zm rfl (ag rfl (zm rfl (ag rfl ?_))))
   rcases hpo with hpo | ⟨hpo, hn, hd0⟩
   ·refine ah rfl C112 (Au w4 v n false hpo (hn3.chg0 hc4)) ?_
    rintro _ w5 ⟨rfl, hw5⟩
    refine ag rfl (zm rfl (ax rfl rfl (ax rfl rfl (ax rfl rfl (ax rfl rfl (ax rfl rfl (ax rfl rfl (ax rfl rfl (ax rfl rfl (ax rfl rfl (ag rfl (a6 rfl (aO rfl) (a6 rfl (aO rfl) (za rfl (a8 (a7 ?_))))))))))))))))
    exact ⟨rfl, hw5 ▸ hc4⟩
   ·refine ah rfl C112 (Au w4 v n true hpo (hn3.chg0 hc4)) ?_
    rintro _ w5 ⟨rfl, hw5⟩
    refine ag rfl (zm rfl (ag rfl (zm rfl (ag rfl (a6 rfl (cg (dg rfl rfl) (congrArg Value.bool (decide_eq_false (by omega)))) ?_)))))
    refine ag rfl (zm rfl (ag rfl (zm rfl (ag rfl (zn rfl rfl (ag rfl (a6 rfl (aa bh rfl I4 rfl rfl) (ag rfl ?_))))))))
    have hc35 : Chg [] w3 w5 := hw5 ▸ hc4
    have hBv5 : Blk w5 v.b [.bool true, v.p, v.k, v.i] := by rw [hn] at hBv; exact hBv.chg0 hc35
    refine a6 rfl (az uU4 rfl rfl (hBv5.c rfl)) ?_
    refine ag rfl (a6 rfl (cy rfl) (ag rfl (a6 rfl (aO rfl) (ag rfl (a6 rfl (aM rfl) (a6 rfl (aO rfl) (za rfl (a8 (a7 ?_)))))))))
    exact ⟨rfl, hc35⟩
  ·rintro vs J w4 ⟨rfl, hc4⟩
   have h4 := h3.chg0 hc4
   have hn4 := hn3.chg0 hc4
   have hS4 := hS3.chg0 hc4
   refine aN (rfl) ?_
   have hB4 := h4.blk
   have hn : (∃ ps, n = .leaf ps) ∨ ∃ ks ids, n = .br ks ids := by cases n with | leaf ps => exact .inl ⟨ps, rfl⟩ | br ks ids => exact .inr ⟨ks, ids, rfl⟩
   refine gA [62] [62, 63, 64, 65, 66, 67, 68, 69, 70, 71, 72, 73, 74, 75, 76, 77, 78, 79, 80, 81] (fun vs w' => vs = [.bool false] ∧ w4 = w') (by kernel_rfl) ?_ ?_
   ·refine aj (zm rfl (zn rfl rfl (a6 rfl (aa bh rfl I4 rfl rfl) ?_)))
    rcases hn with ⟨ps, hn⟩ | ⟨ks, ids, hn⟩
    ·have hBl : Blk w4 v.b [.bool true, v.p, v.k, v.i] := by have := hn4.blk; rw [hn] at this; exact this
     have hd0 : d = 0 := (CT.isLeaf (hn ▸ hct)).1
     refine a6 rfl (az uU4 rfl rfl (hBl.c rfl)) ?_
     refine zm rfl (ag rfl (zm rfl (ag rfl (zn rfl rfl (ag rfl (a6 rfl (aa pj rfl I3 rfl rfl) (ag rfl ?_)))))))
     rcases hdp with hdp | hdp
     ·refine a6 rfl (az uU3 rfl rfl (hB4.c rfl)) ?_
      refine ag rfl (a6 rfl (cg (j8 rfl rfl) (congrArg Value.bool (decide_eq_false (by omega)))) ?_)
      refine a6 rfl (aM rfl) (zm rfl (ax rfl rfl (ax rfl rfl (ax rfl rfl (ax rfl rfl (ax rfl rfl (ax rfl rfl (a6 rfl (aO rfl) (za rfl (a8 (a7 ?_)))))))))))
      exact ⟨rfl, rfl⟩
     ·refine a6 rfl (az uU3 rfl rfl (hB4.c rfl)) ?_
      refine ag rfl (a6 rfl (cg (j8 rfl rfl) (congrArg Value.bool (decide_eq_true (by omega)))) ?_)
      refine a6 rfl (aM rfl) (zm rfl (ag rfl (zm rfl (ag rfl (zn rfl rfl (ag rfl (a6 rfl (aa pj rfl I3 rfl rfl) (ag rfl ?_))))))))
      refine a6 rfl (az uU3 rfl rfl (hB4.c rfl)) ?_
      refine ag rfl (zm rfl (ag rfl (a6 rfl (bL rfl rfl) (a6 rfl (aM rfl) (za rfl ?_)))))
      refine a8 (a7 ?_)
      exact ⟨congrArg (fun x => [Value.bool x]) (decide_eq_false (fun hh => hh (by omega))), rfl⟩
    ·have hBl : Blk w4 v.b [.bool false, v.p, v.k, v.i] := by have := hn4.blk; rw [hn] at this; exact this
     refine a6 rfl (az uU4 rfl rfl (hBl.c rfl)) ?_
     refine zm rfl (ax rfl rfl (ax rfl rfl (ax rfl rfl (ax rfl rfl (ax rfl rfl (a6 rfl (aO rfl) (zm rfl (ax rfl rfl (ax rfl rfl (ax rfl rfl (ax rfl rfl (ax rfl rfl (ax rfl rfl (a6 rfl (aO rfl) (za rfl (a8 (a7 ?_)))))))))))))))))
     exact ⟨rfl, rfl⟩
   ·rintro vs J w5 ⟨rfl, rfl⟩
    refine aN (rfl) ?_
    refine zSR (zm rfl (zn rfl rfl (a6 rfl (aa bh rfl I4 rfl rfl) ?_)))
    have hob3 : ∃ p c, v.i = .slice p (cnI n).length c := hn4.i.form rfl
    obtain ⟨pi, ci, hvi⟩ := hob3
    have hc04 : Chg [b, mb] w w4 := ((((hc1.mono (by simp)).tr (hc2.mono (by simp))).tr0 hc3).tr0 hc4)
    have hfup : ∀ x, dn f id x = true → f x = true ∨ x ∈ id :: pg0 := fun x hx => by
     unfold dn at hx
     simp only [Bool.or_eq_true, decide_eq_true_eq] at hx
     rcases hx with g | g
     ·exact .inr (by simp [g])
     ·exact .inl g
    rcases hn with ⟨ps, hn⟩ | ⟨ks, ids, hn⟩
    ·have hBl : Blk w4 v.b [.bool true, v.p, v.k, .slice pi (cnI n).length ci] := by have := hn4.blk; rw [← hvi]; rw [hn] at this; exact this
     have hd0 : d = 0 := (CT.isLeaf (hn ▸ hct)).1
     have hl0 : (cnI n).length = 0 := by rw [hn]; rfl
     have hvw := hnew3 v.b (by simp [NV.F])
     have hbl := h.blk.lt
     refine a6 rfl (az uU4 rfl rfl (hBl.c rfl)) ?_
     refine za rfl (a8 (a7 (aY (rfl) ?_)))
     refine aj (zm rfl (zm rfl (zn rfl rfl (a6 rfl (aa pj rfl I3 rfl rfl) ?_))))
     refine aI rfl (bz I3 rfl rfl (hB4) rfl rfl ((by decide : 2 < 3)) rfl (rfl)) ?_
     rintro w6 ⟨hB6, hc6, hs6⟩
     refine a8 (aB (a7 (ae (zSR (zm rfl (zn rfl rfl (a6 rfl (aa bh rfl I41 rfl rfl) ?_)))))))
     replace hB6 : Blk w6 b [c.pv, .map (some mb), .int .i64 deep] := hB6
     have hBl6 := hBl.chg hc6 (by simp; omega)
     refine a6 rfl (az bB rfl rfl (hBl6.c rfl)) ?_
     refine a6 rfl (au rfl bB) (zm rfl ?_)
     refine a8 (a7 (aw (bC [0, 3, 6, 9, 94, 95, 96] (fun k vs w' => vs = [.pointer (some ⟨b, 0, none⟩), .int .i64 deep, .pointer (some ⟨sb, 0, none⟩), v.ptr, .slice pi (cnI n).length ci, .int .i64 (cnI n).length, .int .i64 0] ∧ w6 = w') (0) ?_ ?_)))
     ·exact ⟨rfl, rfl⟩
     ·rintro k vs J w7 ⟨rfl, rfl⟩
      refine zSR (a6 rfl (bw rfl rfl) ?_)
      refine a8 (a7 (ae (aG rfl (by omega) ?_)))
      refine aQ (ar (ar (aE (a7 (zSR (za rfl (a8 (a7 (zrf ?_)))))))))
      refine ⟨rfl, dn f id, ⟨h4.pg.chg hc6 (fun x hx hh => by simp at hh; subst hh; exact hbw.2 hx) (fun x hx => by simp at hx; subst hx; exact hbw.1), ?_, h4.set.mod hc6 (by simp; exact h.b1.symm), h.b1, h.fr⟩, hfup, hc04.tr (hc6.mono (by simp))⟩
      rw [hd0]; exact hB6
    ·have hBl : Blk w4 v.b [.bool false, v.p, v.k, .slice pi (cnI n).length ci] := by have := hn4.blk; rw [← hvi]; rw [hn] at this; exact this
     have hgb : brOk ks ids := by have q := hg; rw [hn] at q; exact q
     have hil : (cnI n).length = ts.length := by rw [hids, bm]
     have hfew : (cnI n).length ≤ 200 ∧ 2 ≤ (cnI n).length := by
      rw [hn]
      exact ⟨Nat.le_trans hgb.few.2 (by decide), by show 2 ≤ ids.length; have q1 := hgb.2.1; have q2 : 0 < ks.length := List.length_pos_iff.2 hgb.1; omega⟩
     have hne : ts ≠ [] := fun e => by rw [e, List.length_nil] at hil; omega
     have hob4 := hsep hne
     obtain ⟨_, hsp2, hkl⟩ := hob4
     have hsbF : sb ≠ b ∧ sb ≠ mb := ⟨by have := h.blk.lt; omega, by have := h.set.lt; omega⟩
     have hvF : ∀ x ∈ v.F, x ∉ [b, mb] := fun x hx hh => by
      have q := hnew3 x hx
      simp only [List.mem_cons, List.mem_nil_iff, or_false] at hh
      have := h.blk.lt
      have := h.set.lt
      rcases hh with rfl | rfl <;> omega
     refine a6 rfl (az uU4 rfl rfl (hBl.c rfl)) ?_
     refine za rfl (a8 (a7 (aN (rfl) ?_)))
     refine aA (aB (a7 (ae (zSR (zm rfl (zn rfl rfl (a6 rfl (aa bh rfl I41 rfl rfl) ?_)))))))
     refine a6 rfl (az bB rfl rfl (hBl.c rfl)) ?_
     refine a6 rfl (au rfl bB) (zm rfl ?_)
     refine a8 (a7 (aw (bC [0, 3, 6, 9, 94, 95, 96] (fun k vs w' => ∃ (i : Nat) (f' : PgF) (dp' : Int), vs = [.pointer (some ⟨b, 0, none⟩), .int .i64 deep, .pointer (some ⟨sb, 0, none⟩), v.ptr, .slice pi (cnI n).length ci, .int .i64 (cnI n).length, .int .i64 i] ∧ i + k = (cnI n).length ∧ Ck c w' b mb s f' dp' ∧ (∀ x, f' x = true → f x = true ∨ x = id ∨ x ∈ pgT (ts.take i)) ∧ (dp' = -1 ∨ dp' = ((deep + d : Nat) : Int)) ∧ (0 < i → dp' = ((deep + d : Nat) : Int)) ∧ NAt w' v n ∧ Blk w' sb [str sp.lo, str sp.hi, .bool sp.fin] ∧ Chg [b, mb] w w') ((cnI n).length) ?_ ?_)))
     ·exact ⟨0, dn f id, dp, rfl, by omega, h4, fun x hx => by
       unfold dn at hx
       simp only [Bool.or_eq_true, decide_eq_true_eq] at hx
       rcases hx with g | g
       ·exact .inr (.inl g)
       ·exact .inl g, hdp, fun q => absurd q (by omega), hn4, hS4, hc04⟩
     ·rintro k vs J w5 ⟨i, f5, dp5, rfl, hik, h5, hf5, hdp5, hdi5, hn5, hS5, hc5⟩
      refine zSR (a6 rfl (bw rfl rfl) ?_)
      refine a8 (a7 (ae (aC rfl (fun hlt => ?_) (fun hlt => ?_))))
      ·refine aA (a7 (ae (aw (zSR (zm rfl ?_)))))
       have hob5 : ∃ q, k = q + 1 := ⟨k - 1, by omega⟩
       obtain ⟨k, rfl⟩ := hob5
       have hit : i < ts.length := by omega
       have hob6 := hkid ts[i] (List.getElem_mem hit)
       obtain ⟨q, hdq, hkt, hkm⟩ := hob6
       have hnn : n = .br (cnK n) (cnI n) := by rw [hn]; rfl
       have hn5' : NAt w5 v (.br (cnK n) (cnI n)) := by rw [← hnn]; exact hn5
       have hiS : Sl w5 (.slice pi (cnI n).length ci) (cnI n) := by rw [← hvi]; exact hn5.i
       have hget : (cnI n)[i]? = some ts[i].1 := by rw [hids, aS, List.getElem?_map, List.getElem?_eq_getElem hit]; rfl
       have hAt5 : At w5 sb 0 [str sp.lo, str sp.hi, .bool sp.fin] := hS5.at (by rfl)
       refine bg rfl (bZ (i) bB I25 rfl (hiS) rfl rfl (by first | rfl | omega) (by omega)) ?_
       rintro _ ⟨bi, oi, rfl, hei, hbi⟩
       refine a6 rfl (az bR rfl rfl (((hiS.at hei hget).c0 rfl))) ?_
       refine za rfl (za rfl (zNR (zm rfl (zm rfl (a6 rfl (bP eX rfl n1 rfl hAt5 rfl) ?_)))))
       refine zm rfl (zm rfl (ah rfl C100 (AS w5 sp v (cnK n) (cnI n) i hn5' hkl (by omega) (by omega)) ?_))
       rintro _ w6 ⟨rfl, hc6⟩
       refine zm rfl (a6 rfl (aD rfl rfl (by omega)) ?_)
       have hsplit : pgT ts = pgT (ts.take i) ++ (ts[i].2.1 ++ pgT (ts.drop (i + 1))) := by
        rw [← ey, ← dw, ← List.drop_eq_getElem_cons hit, List.take_append_drop]
       have htp : pgT (ts.take (i + 1)) = pgT (ts.take i) ++ ts[i].2.1 := by rw [← List.take_append_getElem hit, dw, ey]; simp [pgT]
       have hsub : ∀ x ∈ ts[i].2.1, x ∈ pg0 := fun x hx => by rw [hpg, hsplit]; simp [hx]
       have hnd0 : pg0.Nodup := (List.nodup_cons.1 hnd).2
       rw [hpg, hsplit, List.nodup_append] at hnd0
       have hndi := (List.nodup_append.1 hnd0.2.1).1
       have hfri : ∀ x ∈ ts[i].2.1, f5 x = false := fun x hx => by
        cases hfx : f5 x with
        | false => rfl
        | true =>
         rcases hf5 x hfx with g | g | g
         ·rw [hfr x (List.mem_cons_of_mem _ (hsub x hx))] at g; cases g
         ·rw [g] at hx; exact absurd (hsub id hx) (List.nodup_cons.1 hnd).1
         ·exact absurd rfl (hnd0.2.2 x g x (List.mem_append_left _ hx))
       have hspt : ∀ p ∈ prT ts, sp.has p.1 = true := fun p hp => hsp p (by rw [hmm]; exact List.mem_append_right _ hp)
       have h6 := h5.chg0 hc6
       refine ah rfl C63 (ih q (by omega) w6 ts[i].1 ts[i].2.1 ts[i].2.2 (deep + 1) f5 dp5 (sp.kid (cnK n) i) h6 hkt (fun x hx => hw x (List.mem_cons_of_mem _ (hsub x hx))) (by omega) hfri hndi (AU hsp2 hit hspt) (hdp5.imp (fun g => g) (fun g => by rw [g]; congr 1; omega)) (fun _ => hkm)) ?_
       rintro _ w7 ⟨rfl, f7, h7, hf7, hc7⟩
       refine za rfl (zNR (zm rfl (a6 rfl (bL rfl rfl) ?_)))
       refine a8 (a7 (aG rfl (fun h => h rfl) ?_))
       refine aA (aB (a7 (aj (a6 rfl (aD rfl rfl (by omega)) (zm rfl ?_)))))
       refine a8 (a7 (Exists.intro (k) (And.intro (by omega) ?_)))
       have hdd : ((deep + 1 + q : Nat) : Int) = ((deep + d : Nat) : Int) := by congr 1; omega
       rw [hdd] at h7
       have hn6 := hn5.chg0 hc6
       have hS6 := hS5.chg0 hc6
       refine ⟨i + 1, f7, _, ay rfl (ay rfl (ay rfl (ay rfl (ay rfl (ay rfl (ay (bH (by omega)) bJ)))))), by omega, h7, fun x hx => ?_, .inr rfl, fun _ => rfl, hn6.chg hc7 hvF, hS6.chg hc7 (by simp; exact hsbF), (hc5.tr0 hc6).tr hc7⟩
       rw [htp]
       rcases hf7 x hx with g | g
       ·rcases hf5 x g with g | g | g
        ·exact .inl g
        ·exact .inr (.inl g)
        ·exact .inr (.inr (List.mem_append_left _ g))
       ·exact .inr (.inr (List.mem_append_right _ g))
      ·refine aQ (ar (ar (aE (a7 (zSR (za rfl (a8 (a7 (zrf ?_)))))))))
       have hT : ts.take i = ts := List.take_of_length_le (by omega)
       rw [hT] at hf5
       rw [hdi5 (by omega)] at h5
       refine ⟨rfl, f5, h5, fun x hx => ?_, hc5⟩
       rcases hf5 x hx with g | g | g
       ·exact .inl g
       ·exact .inr (by simp [g])
       ·exact .inr (by rw [hpg]; simp [g])
theorem zr (c : TC) (w : World) (s : TP) (root : UInt32) (d : Nat) (pg : List UInt32) (m : List Pr) (h : c.pg w s) (ht : isT s.V d root pg m) (hw : ∀ x ∈ pg, s.P.now.written x = true) (hd : d ≤ 40) (hnd : pg.Nodup) :
  Ret Tryz.prog 25 #[c.pv, .int .u32 root.toNat] w fun r w' => r = .int .i64 0 ∧ Chg [] w w' := by
 refine enter [4] Tryz.func25 rfl rfl (Nat.le_of_ble_eq_true rfl) ?_
 refine zSR (za rfl (zNR (zm rfl (aU rfl (lQ UInt32) ?_))))
 rintro _ w1 ⟨mb, rfl, hnm, hM1, hc1, hl1⟩
 refine a6 rfl (bM pj I132 rfl (zs := [.pointer none, .map none, .int .i64 0]) rfl rfl (bY rfl rfl rfl (Nat.le_of_ble_eq_true rfl) (bY rfl rfl rfl (Nat.le_of_ble_eq_true rfl) (bY rfl rfl rfl (Nat.le_of_ble_eq_true rfl) (ef (cs' := [c.pv, .map (some mb), .int .i64 (-1)]) rfl))))) ?_
 refine aU rfl (cj (l := [c.pv, .map (some mb), .int .i64 (-1)]) rfl rfl) ?_
 rintro _ w2 ⟨b, rfl, hnb, hB2, hc2, hl2⟩
 refine za rfl (zNR (zm rfl (zm rfl ?_)))
 have hc02 := hc1.tr hc2
 have k1 := hc1.1
 have hw0 := h.1.2.1.1
 have hk2 : Ck c w2 b mb s j4 (-1) := ⟨h.chg0 hc02, hB2, (SetAt.nil hM1).chg0 hc2, by omega, fun x hx => by
  simp only [List.mem_cons, List.mem_nil_iff, or_false] at hx
  rcases hx with rfl | rfl
  ·exact ⟨by omega, fun hh => by have := h.lt _ hh; omega⟩
  ·exact ⟨by omega, fun hh => by have := h.lt _ hh; omega⟩⟩
 refine a6 rfl (bM eX n1 rfl (zs := [str [], str [], .bool false]) rfl rfl (ef (cs' := [str [], str [], .bool false]) rfl)) ?_
 refine ah rfl C63 (Bb c b mb s d w2 root pg m 0 j4 (-1) ⟨[], [], false⟩ hk2 ht hw (by omega) (fun x _ => rfl) hnd (fun p _ => by simp [Sp.has, mG]) (.inl rfl) (fun g => absurd g (by omega))) ?_
 rintro _ w3 ⟨rfl, f3, hk3, hf3, hc3⟩
 refine za rfl (a8 (a7 (zrf ?_)))
 refine ⟨rfl, hc02.t0 hc3 (fun x hx => ?_)⟩
 simp only [List.mem_cons, List.mem_nil_iff, or_false] at hx
 rcases hx with rfl | rfl <;> omega
end Go.Proofs.YtpbfapbajmdlkaaGreat

end
section
namespace Go.Proofs.YtpbfapbajmdlkaaGreat
open Go Go.Sac
set_option maxRecDepth 100000
set_option maxHeartbeats 4000000
theorem yv {P : Pg} {n : Nat} (h : ∀ x, P.free x = true) : dR P n = n := by
 unfold dR
 rw [List.filter_eq_self.2 (fun i _ => h _), List.length_range]
structure TR (c : TC) (w : World) (s : TP) (root : UInt32) (d : Nat) (pg : List UInt32) (m : List Pr) : Prop where
 at_ : c.pg w s
 tree : isT s.V d root pg m
 wr : ∀ x ∈ pg, s.P.now.written x = true
 nd : pg.Nodup
def V0 : UInt32 → Bs := fun _ => []
def key0 : List UInt8 := List.replicate 32 0
theorem sr (w : World) (n : Nat) (hn : 4 ≤ n ∧ n ≤ 400) :
  Ret Tryz.prog 18 #[.int .i64 n] w fun r w' => ∃ (c : TC) (s : TP) (id : UInt32), r = .tuple #[c.pv, .int .u32 id.toNat, .bool true] ∧ c.n = n ∧ c.w0 = w ∧ TR c w' s id 0 [id] [] ∧ n ≤ dR s.P c.n + 1 ∧ s.k ≤ 2 ∧ Chg [] w w' := by
 refine enter [2, 3, 4] Tryz.func18 rfl rfl (Nat.le_of_ble_eq_true rfl) ?_
 refine zSR (za rfl (a6 rfl (fz (v := .int .u32 ((0 : UInt32).toNat : Nat)) rfl) (za rfl ?_)))
 refine zNR (zm rfl (a6 rfl (fg rfl rfl (by omega)) (a6 rfl (aD rfl rfl (by omega)) ?_)))
 refine ah rfl C37 (AJ w w (32 + 8 * n) (by omega) (Chg.refl _)) ?_
 rintro _ w1 ⟨b, kv, r, rfl, hd1, hc1, hF1⟩
 refine a6 rfl (ir (List.replicate 32 (0 : UInt8)) ([]) (l := key0) gg I63 rfl I5 (by kernel_rfl) rfl (by kernel_rfl) rfl (by kernel_rfl)) ?_
 refine ah rfl C55 (wG (n := n) V0 hd1 hn rfl) ?_
 rintro _ w2 ⟨R, a, ds2, rfl, hS2, hc2, hR2⟩
 refine zm rfl (zx rfl rfl rfl (zx rfl rfl rfl (za rfl (za rfl (a8 (a7 (ae (zSR (zm rfl (a6 rfl (bL rfl rfl) ?_))))))))))
 refine a8 (a7 (aG rfl (fun h => h rfl) ?_))
 refine zKR (zm rfl ?_)
 have hc02 : Chg [] w w2 := hc1.t0 hc2 hF1
 have hroom : dR (pgZ a) n = n := yv (fun x => rfl)
 refine ah rfl C56 (zq ⟨w, b, kv, r, R, n, key0⟩ w2 ⟨1, ds2, pgZ a, V0⟩ hS2 (by show 1 + 1 ≤ 40000; decide)) ?_
 rintro v3 w3 ⟨hr3, hc3⟩
 have hge := PS.ge hS2
 rcases hr3 with ⟨_, _, hno⟩ | ⟨id, s3, rfl, hp3, hx3, hk3, hit3⟩
 ·have hno : dR (pgZ a) n = 0 := hno
  omega
 ·refine zm rfl (zx rfl rfl rfl (zx rfl rfl rfl (za rfl (za rfl (zNR (zm rfl (zm rfl (zm rfl (a6 rfl (da rfl rfl) (za rfl (za rfl (za rfl ?_))))))))))))
  refine a8 (a7 (zrf ?_))
  refine ⟨⟨w, b, kv, r, R, n, key0⟩, s3, id, rfl, rfl, rfl, ⟨hp3, hit3, fun x hx => (hx3.mem hx).2, by simp⟩, ?_, hk3, hc02.t0 hc3 hge⟩
  have := hx3.count hn.2
  have q : dR (pgZ a) n ≤ dR s3.P n + 1 := this
  show n ≤ dR s3.P n + 1
  omega
def rR (n : UInt16) : Bs := [107, lk ((n.toNat / 256 : Nat) : Int), lk (n.toNat : Int)]
theorem name_ok (w : World) (n : UInt16) : Ret Tryz.prog 19 #[.int .u16 n.toNat] w fun r w' => r = str (rR n) ∧ Chg [] w w' := by
 have hsh : Value.int .u16 ((n.toNat : Int).fdiv (2 ^ (min ((8 : Int).toNat) (IntKind.u16).bits))) = .int .u16 ((n.toNat / 256 : Nat) : Int) := by
  congr 1
  exact Int.fdiv_eq_ediv_of_nonneg _ (by decide)
 refine enter [2] Tryz.func19 rfl rfl (Nat.le_of_ble_eq_true rfl) ?_
 refine zSR (za rfl (zNR (zm rfl (a6 rfl (cg (xg rfl rfl (by decide)) hsh) ?_))))
 refine a6 rfl (eJ rfl uU30 uU5) (zm rfl (a6 rfl (eJ rfl uU30 uU5) ?_))
 refine aU rfl (kX [.int .u8 107, .int .u8 (lk ((n.toNat / 256 : Nat) : Int)).toNat, .int .u8 (lk (n.toNat : Int)).toNat] (rR n) aP I5 rfl rfl rfl rfl rfl rfl (by decide) (by decide)) ?_
 rintro _ w1 ⟨⟨b1, o1, c1, rfl⟩, ho1, hc1, hi1⟩
 refine a6 rfl (kY aP uU5 uU9 ho1.sl rfl) ?_
 refine za rfl (a8 (a7 (zrf ?_)))
 exact ⟨rfl, hc1⟩
theorem AK (n : UInt16) : ji (rR n) := by constructor <;> simp [rR]
end Go.Proofs.YtpbfapbajmdlkaaGreat

end
section
namespace Go.Proofs.YtpbfapbajmdlkaaGreat
open Go Go.Sac
set_option maxRecDepth 100000
set_option maxHeartbeats 4000000
section
variable {c : TC} {w w' : World} {s s' : TP} {root id : UInt32} {d d' : Nat} {pg pg' made gone : List UInt32} {m m' : List Pr}
theorem TR.ext (h : TR c w s root d pg m) (hp : c.pg w' s') (hx : Ext c.n s.P s'.P s.V s'.V made) : TR c w' s' root d pg m :=
 ⟨hp, pY h.tree (fun x hx' => hx.old x (h.wr x hx')), fun x hx' => hx.wr (h.wr x hx'), h.nd⟩
theorem TR.chg0 (h : TR c w s root d pg m) (hm : Chg [] w w') : TR c w' s root d pg m := ⟨h.at_.chg0 hm, h.tree, h.wr, h.nd⟩
theorem TR.chg {S : List Nat} (h : TR c w s root d pg m) (hm : Chg S w w') (hn : ∀ x ∈ c.F, x ∉ S) (hs : ∀ x ∈ S, c.w0.heap.size ≤ x) : TR c w' s root d pg m := ⟨h.at_.chg hm hn hs, h.tree, h.wr, h.nd⟩
theorem TR.step (h : TR c w s root d pg m) (hp : c.pg w' s') (hx : Ext c.n s.P s'.P s.V s'.V made) (ht : isT s'.V d' id pg' m') (hm : (pg' ++ gone).Perm (pg ++ made)) : TR c w' s' id d' pg' m' := by
 have hmem : ∀ x ∈ pg', x ∈ pg ∨ x ∈ made := fun x hx' => List.mem_append.1 (hm.mem_iff.1 (List.mem_append_left _ hx'))
 have hnd : (pg ++ made).Nodup := by
  rw [List.nodup_append]
  exact ⟨h.nd, hx.nodup, fun a ha b hb e => by
   subst e
   have h1 := h.at_.wu (h.wr a ha)
   have h2 := (hx.new a hb).1
   unfold Pg.free at h2
   rw [h1] at h2
   simp at h2⟩
 refine ⟨hp, ht, fun x hx' => ?_, (List.nodup_append.1 (hm.nodup_iff.2 hnd)).1⟩
 rcases hmem x hx' with q | q
 ·exact hx.wr (h.wr x q)
 ·exact (hx.mem q).2
def PutT (c : TC) (s : TP) (d : Nat) (m' : List Pr) (w' : World) (r : Value → Value → Value) (ra : Value) : Prop :=
 (ra = r (.int .u32 0) (.int .i64 70) ∧ ∃ s', c.pg w' s' ∧ Ext c.n s.P s'.P s.V s'.V [] ∧ s'.k ≤ s.k + 2 * d + 3 ∧ dR s.P c.n ≤ 2 * (d + 1)) ∨
 ∃ (id : UInt32) (d' : Nat) (pg' made : List UInt32) (s' : TP), ra = r (.int .u32 id.toNat) (.int .i64 0) ∧ TR c w' s' id d' pg' m' ∧ Ext c.n s.P s'.P s.V s'.V made ∧ s'.k ≤ s.k + 2 * d + 3 ∧ made.length ≤ 2 * d + 3 ∧ d' ≤ d + 1 ∧ (d = 0 → bK m' ≤ 480 → made.length ≤ 1 ∧ d' = 0)
theorem PutR.t {r : Value → Value → Value} {ra : Value} (h : TR c w s root d pg m) (hr : PutR c s d pg m' r ra (s.k + 2 * d + 3) w') : PutT c s d m' w' r ra := by
 rcases hr with ⟨h1, ⟨s', h2, h3, h4⟩, h5⟩ | ⟨id, d', pg', made, gone, s', q1, q2, q3, q4, q5, q6, q7, q8, q9, _⟩
 ·exact .inl ⟨h1, s', h2, h3, h4, h5⟩
 ·exact .inr ⟨id, d', pg', made, s', q1, h.step q2 q3 q7 q8, q3, q4, q5, q6, q9⟩
theorem put9 (h : TR c w s root d pg m) {p : Pr} (hp : ni p) (hd : d ≤ 40) (hk : s.k + 2 * d + 3 ≤ 40000) :
  Ret Tryz.prog 20 #[c.pv, .int .u32 root.toNat, str p.1, str p.2] w fun r w' => PutT c s d (eL m p) w' (fun a e => .tuple #[a, e]) r ∧ Chg c.F w w' := by
 refine (y2 c w s root d pg m p h.at_ h.tree h.wr hd hk).mono ?_
 rintro r w' ⟨⟨q, _⟩ | ⟨_, hr⟩, hc⟩
 ·exact absurd hp q
 ·exact ⟨hr.t h, hc⟩
theorem put9s (h : TR c w s root 0 pg m) {p : Pr} (hp : ni p) (hz : bK (eL m p) ≤ 480) (hr : 2 < dR s.P c.n) (hk : s.k + 3 ≤ 40000) :
  Ret Tryz.prog 20 #[c.pv, .int .u32 root.toNat, str p.1, str p.2] w fun r w' => (∃ (id : UInt32) (pg' made : List UInt32) (s' : TP), r = .tuple #[.int .u32 id.toNat, .int .i64 0] ∧ TR c w' s' id 0 pg' (eL m p) ∧ Ext c.n s.P s'.P s.V s'.V made ∧ s'.k ≤ s.k + 3 ∧ dR s.P c.n ≤ dR s'.P c.n + 1) ∧ Chg c.F w w' := by
 refine (put9 h hp (by omega) (by omega)).mono ?_
 rintro r w' ⟨⟨_, _, _, _, _, q⟩ | ⟨id, d', pg', made, s', q1, q2, q3, q4, q5, q6, q7⟩, hc⟩
 ·omega
 ·obtain ⟨h1, rfl⟩ := q7 rfl hz
  have := q3.count h.at_.n4.2
  exact ⟨⟨id, pg', made, s', q1, q2, q3, by omega, by omega⟩, hc⟩
theorem put9no (h : TR c w s root d pg m) {p : Pr} (hp : ¬ ni p) (hd : d ≤ 40) (hk : s.k + 2 * d + 3 ≤ 40000) :
  Ret Tryz.prog 20 #[c.pv, .int .u32 root.toNat, str p.1, str p.2] w fun r w' => r = .tuple #[.int .u32 0, .int .i64 90] ∧ TR c w' s root d pg m ∧ Chg c.F w w' := by
 refine (y2 c w s root d pg m p h.at_ h.tree h.wr hd hk).mono ?_
 rintro r w' ⟨⟨_, q1, q2⟩ | ⟨q, _⟩, hc⟩
 ·exact ⟨q1, ⟨q2, h.tree, h.wr, h.nd⟩, hc⟩
 ·exact absurd q hp
theorem yP (m : List Pr) (k : Bs) : bK (gm m k) ≤ bK m := by
 unfold bK gm
 induction m with
 | nil => simp
 | cons p m ih =>
  rw [List.filter_cons]
  split
  ·simp only [List.map_cons, List.sum_cons]; omega
  ·simp only [List.map_cons, List.sum_cons]; omega
theorem del9 (h : TR c w s root d pg m) (key : Bs) (hd : d ≤ 40) (hk : s.k + 2 * d + 3 ≤ 40000) :
  Ret Tryz.prog 24 #[c.pv, .int .u32 root.toNat, str key] w fun r w' => ((dN m key = false ∧ r = .tuple #[.int .u32 root.toNat, .bool false, .int .i64 0] ∧ ∃ s', TR c w' s' root d pg m ∧ Ext c.n s.P s'.P s.V s'.V [] ∧ s'.k ≤ s.k) ∨ (dN m key = true ∧ PutT c s d (gm m key) w' de3 r)) ∧ Chg c.F w w' := by
 refine (x5 c w s root d pg m key h.at_ h.tree h.wr hd hk).mono ?_
 rintro r w' ⟨⟨q, q1, s', q2, q3, q4⟩ | ⟨q, hr⟩, hc⟩
 ·exact ⟨.inl ⟨q, q1, s', h.ext q2 q3, q3, q4⟩, hc⟩
 ·exact ⟨.inr ⟨q, hr.t h⟩, hc⟩
theorem del9s (h : TR c w s root 0 pg m) (key : Bs) (b : Bool) (hb : dN m key = b) (hr : 2 < dR s.P c.n) (hk : s.k + 3 ≤ 40000) :
  Ret Tryz.prog 24 #[c.pv, .int .u32 root.toNat, str key] w fun r w' => (∃ (id : UInt32) (pg' made : List UInt32) (s' : TP), r = .tuple #[.int .u32 id.toNat, .bool b, .int .i64 0] ∧ TR c w' s' id 0 pg' (gm m key) ∧ Ext c.n s.P s'.P s.V s'.V made ∧ s'.k ≤ s.k + 3 ∧ dR s.P c.n ≤ dR s'.P c.n + 1) ∧ Chg c.F w w' := by
 subst hb
 have hn := h.at_.n4.2
 refine (del9 h key (by omega) (by omega)).mono ?_
 rintro r w' ⟨⟨hh, q1, s', q2, q3, q4⟩ | ⟨hh, ⟨_, _, _, _, _, q⟩ | ⟨id, d', pg', made, s', q1, q2, q3, q4, q5, q6, q7⟩⟩, hc⟩
 ·have hsame := z7 (hZ h.tree).2 hh
  have := q3.count hn
  rw [hsame, hh]
  exact ⟨⟨root, pg, [], s', q1, q2, q3, by omega, by rw [List.length_nil] at this; omega⟩, hc⟩
 ·omega
 ·obtain ⟨h1, rfl⟩ := q7 rfl (Nat.le_trans (yP m key) h.tree.2.1.2)
  have := q3.count hn
  rw [hh]
  exact ⟨⟨id, pg', made, s', q1, q2, q3, by omega, by omega⟩, hc⟩
theorem get9 (h : TR c w s root d pg m) (key v : Bs) (b : Bool) (hv : (km m key).getD [] = v) (hb : dN m key = b) (hd : d ≤ 40) :
  Ret Tryz.prog 23 #[c.pv, .int .u32 root.toNat, str key] w fun r w' => r = .tuple #[str v, .bool b, .int .i64 0] ∧ TR c w' s root d pg m ∧ Chg [] w w' := by
 subst hv hb
 refine (TGet_ok c w s root d pg m key h.at_ h.tree h.wr hd).mono ?_
 rintro r w' ⟨q, hc⟩
 exact ⟨q, h.chg0 hc, hc⟩
theorem len9 (h : TR c w s root d pg m) (hd : d ≤ 40) (hm : m.length ≤ 10000) :
  Ret Tryz.prog 27 #[c.pv, .int .u32 root.toNat] w fun r w' => r = .tuple #[.int .i64 m.length, .int .i64 0] ∧ TR c w' s root d pg m ∧ Chg [] w w' := by
 refine (TLen_ok c w s root d pg m h.at_ h.tree h.wr hd h.nd hm).mono ?_
 rintro r w' ⟨q, hc⟩
 exact ⟨q, h.chg0 hc, hc⟩
theorem wR (h : TR c w s root d pg m) (hd : d ≤ 40) :
  Ret Tryz.prog 25 #[c.pv, .int .u32 root.toNat] w fun r w' => r = .int .i64 0 ∧ TR c w' s root d pg m ∧ Chg [] w w' := by
 refine (zr c w s root d pg m h.at_ h.tree h.wr hd h.nd).mono ?_
 rintro r w' ⟨q, hc⟩
 exact ⟨q, h.chg0 hc, hc⟩
theorem scan9 (h : TR c w s root d pg m) (lo hi : Bs) (most : Nat) (hm1 : most ≤ 1000) (hd : d ≤ 40) (hm : m.length ≤ 10000) :
  Ret Tryz.prog 21 #[c.pv, .int .u32 root.toNat, str lo, str hi, .int .i64 most] w fun r w' => (∃ ov, r = .tuple #[ov, .int .i64 0] ∧ Own w' ov (u9 m lo hi most) ∧ In ov [] w.heap.size) ∧ TR c w' s root d pg m ∧ Chg [] w w' := by
 by_cases hm0 : most = 0
 ·subst hm0
  refine (Bl w c.pv root lo hi 0 (Int.le_refl _)).mono ?_
  rintro r w' ⟨rfl, rfl⟩
  exact ⟨⟨_, rfl, Own.nil _, fun x hx => by simp [aq] at hx⟩, h, Chg.refl _⟩
 ·refine (vl c w s root d pg m lo hi most (by omega) (by omega) h.at_ h.tree h.wr hd h.nd hm).mono ?_
  rintro r w' ⟨q, hc⟩
  exact ⟨q, h.chg0 hc, hc⟩
theorem TR.room (h : TR c w s root d pg m) :
  Ret Tryz.prog 26 #[c.pv] w fun r w' => r = .int .i64 (dR s.P c.n) ∧ TR c w' s root d pg m ∧ Chg [] w w' := by
 refine (Ak h.at_).mono ?_
 rintro r w' ⟨q, q2, hc⟩
 exact ⟨q, h.chg0 hc, hc⟩
end
structure Bud (c : TC) (s : TP) (i : Nat) : Prop where
 k : s.k ≤ 2 + 3 * i
 room : 389 ≤ dR s.P c.n + i
structure SmT (c : TC) (w : World) (s : TP) (id : UInt32) (m : List Pr) (i : Nat) : Prop where
 tr : ∃ pg, TR c w s id 0 pg m
 len : m.length ≤ i
 small : ∀ p ∈ m, p.1.length + p.2.length ≤ 7
section
variable {c : TC} {w w' : World} {s s' : TP} {id : UInt32} {i j : Nat} {m : List Pr} {made : List UInt32}
theorem TR.now {d : Nat} {pg : List UInt32} (h : TR c w s id d pg m) : Chg [] c.w0 w := PS.now h.at_
theorem SmT.now (h : SmT c w s id m i) : Chg [] c.w0 w := by obtain ⟨_, h⟩ := h.tr; exact h.now
theorem SmT.at_ (h : SmT c w s id m i) : c.pg w s := by obtain ⟨_, h⟩ := h.tr; exact h.at_
theorem SmT.sort (h : SmT c w s id m i) : dK m := by obtain ⟨_, h⟩ := h.tr; exact (hZ h.tree).2
theorem SmT.ext (h : SmT c w s id m i) (hp : c.pg w' s') (hx : Ext c.n s.P s'.P s.V s'.V made) : SmT c w' s' id m i := by
 obtain ⟨⟨pg, h1⟩, h2, h3⟩ := h
 exact ⟨⟨pg, h1.ext hp hx⟩, h2, h3⟩
theorem SmT.chg0 (h : SmT c w s id m i) (hm : Chg [] w w') : SmT c w' s id m i := by
 obtain ⟨⟨pg, h1⟩, h2, h3⟩ := h
 exact ⟨⟨pg, h1.chg0 hm⟩, h2, h3⟩
theorem SmT.chg {S : List Nat} (h : SmT c w s id m i) (hm : Chg S w w') (hn : ∀ x ∈ c.F, x ∉ S) (hs : ∀ x ∈ S, c.w0.heap.size ≤ x) : SmT c w' s id m i := by
 obtain ⟨⟨pg, h1⟩, h2, h3⟩ := h
 exact ⟨⟨pg, h1.chg hm hn hs⟩, h2, h3⟩
theorem SmT.put (h : SmT c w s id m j) (hb : Bud c s i) (hi : i ≤ 100) (hj : j ≤ 40) {p : Pr} (hp : ni p) (h7 : p.1.length + p.2.length ≤ 7) :
  Ret Tryz.prog 20 #[c.pv, .int .u32 id.toNat, str p.1, str p.2] w fun r w' => (∃ (id' : UInt32) (s' : TP) (made : List UInt32), r = .tuple #[.int .u32 id'.toNat, .int .i64 0] ∧ SmT c w' s' id' (eL m p) (j + 1) ∧ Bud c s' (i + 1) ∧ Ext c.n s.P s'.P s.V s'.V made) ∧ Chg c.F w w' := by
 have hs := h.sort
 obtain ⟨⟨pg, h1⟩, h2, h3⟩ := h
 have hl := yA p hs
 have hsm : ∀ q ∈ eL m p, q.1.length + q.2.length ≤ 7 := fun q hq => by
  rcases mn hq with rfl | hq
  ·exact h7
  ·exact h3 q hq
 have hz := rS hsm
 have k1 := hb.k
 have k2 := hb.room
 refine (put9s h1 hp (by omega) (by omega) (by omega)).mono ?_
 rintro r w' ⟨⟨id', pg', made, s', q1, q2, q3, q4, q5⟩, hc⟩
 exact ⟨⟨id', s', made, q1, ⟨⟨pg', q2⟩, by omega, hsm⟩, ⟨by omega, by omega⟩, q3⟩, hc⟩
theorem SmT.del (h : SmT c w s id m j) (hb : Bud c s i) (hi : i ≤ 100) (key : Bs) :
  Ret Tryz.prog 24 #[c.pv, .int .u32 id.toNat, str key] w fun r w' => (∃ (id' : UInt32) (s' : TP) (made : List UInt32), r = .tuple #[.int .u32 id'.toNat, .bool (dN m key), .int .i64 0] ∧ SmT c w' s' id' (gm m key) (j + 1) ∧ Bud c s' (i + 1) ∧ Ext c.n s.P s'.P s.V s'.V made) ∧ Chg c.F w w' := by
 obtain ⟨⟨pg, h1⟩, h2, h3⟩ := h
 have k1 := hb.k
 have k2 := hb.room
 have hl : (gm m key).length ≤ m.length := List.length_filter_le _ _
 refine (del9s h1 key _ rfl (by omega) (by omega)).mono ?_
 rintro r w' ⟨⟨id', pg', made, s', q1, q2, q3, q4, q5⟩, hc⟩
 exact ⟨⟨id', s', made, q1, ⟨⟨pg', q2⟩, by omega, fun q hq => h3 q (qg hq)⟩, ⟨by omega, by omega⟩, q3⟩, hc⟩
theorem SmT.scan (h : SmT c w s id m j) (hj : j ≤ 100) (lo hi : Bs) (most : Nat) (hm1 : most ≤ 1000) :
  Ret Tryz.prog 21 #[c.pv, .int .u32 id.toNat, str lo, str hi, .int .i64 most] w fun r w' => (∃ ov, r = .tuple #[ov, .int .i64 0] ∧ Own w' ov (u9 m lo hi most) ∧ In ov [] w.heap.size) ∧ SmT c w' s id m j ∧ Chg [] w w' := by
 obtain ⟨⟨pg, h1⟩, h2, h3⟩ := h
 refine (scan9 h1 lo hi most hm1 (by decide) (by omega)).mono ?_
 rintro r w' ⟨q, q2, hc⟩
 exact ⟨q, ⟨⟨pg, q2⟩, h2, h3⟩, hc⟩
end
theorem same_ok (w : World) (av bv : Value) (a b : List Pr) (ha : Sl w av a) (hb : Sl w bv b) (hl : a.length ≤ 1000000) (hl2 : b.length ≤ 1000000) :
  Ret Tryz.prog 22 #[av, bv] w fun r w' => r = .bool (decide (a = b)) ∧ Chg [] w w' := by
 obtain ⟨pa, ca, rfl⟩ := ha.form rfl
 obtain ⟨pb, cb, rfl⟩ := hb.form rfl
 refine enter [4] Tryz.func22 rfl rfl (Nat.le_of_ble_eq_true rfl) ?_
 refine zSR (za rfl (a8 (a7 (ae (zSR (zm rfl (a6 rfl (au rfl bV) (zm rfl (a6 rfl (au rfl bV) (a6 rfl (bL rfl rfl) ?_))))))))))
 refine a8 (a7 (aC rfl (fun hne => ?_) (fun hne => ?_)))
 ·refine zSR (za rfl (a8 (a7 (zrt ?_))))
  exact ⟨congrArg Value.bool (decide_eq_false (fun h => hne (by rw [h]))).symm, Chg.refl _⟩
 ·refine aA (a7 (ae (zSR (za rfl (a8 (a7 (aw ?_)))))))
  have hab : a.length = b.length := by omega
  refine bC [0, 1, 5] (fun q vs w' => ∃ i : Nat, vs = [.slice pa a.length ca, .slice pb b.length cb, .int .i64 i] ∧ i + q = a.length ∧ Chg [] w w' ∧ a.take i = b.take i) (a.length) ?_ ?_
  ·exact ⟨0, rfl, by omega, Chg.refl _, rfl⟩
  ·rintro q vs J w1 ⟨i, rfl, hi, hc1, ht⟩
   refine ae (zSR (zm rfl (zm rfl (a6 rfl (au rfl bV) (a6 rfl (bw rfl rfl) ?_)))))
   refine a8 (a7 ?_)
   have ha1 := ha.mod0 hc1
   have hb1 := hb.mod0 hc1
   refine aC rfl (fun hlt => ?_) (fun hlt => ?_)
   ·refine aA (a7 (ae (aw (ae ?_))))
    have hob1 : ∃ z, q = z + 1 := ⟨q - 1, by omega⟩
    obtain ⟨q, rfl⟩ := hob1
    have hob2 : ∃ x, a[i]? = some x := ⟨a[i]'(by omega), List.getElem?_eq_getElem _⟩
    obtain ⟨x, hx⟩ := hob2
    have hob3 : ∃ y, b[i]? = some y := ⟨b[i]'(by omega), List.getElem?_eq_getElem _⟩
    obtain ⟨y, hy⟩ := hob3
    refine aL bG (.pure 0 (.pure 1 (.pure 2 (.read 3 (.pure 4 (.pure 5 (.pure 6 (.read 7 (.pure 8 .nil))))))))) (by kernel_rfl) ?_
    refine ym rfl rfl rfl ?_
    refine ym rfl rfl rfl ?_
    refine bI rfl rfl rfl (bZ (i) bV I49 rfl (ha1) rfl rfl (by first | rfl | omega) (by omega)) ?_
    rintro _ ⟨bi, oi, rfl, hei, hbi⟩
    refine dq rfl rfl rfl (fun w' => At w' bi oi [str x.1, str x.2]) (ha1.at hei hx) (fun w1 h1 => bP fB rfl I49 rfl h1 rfl) ?_
    refine ym rfl rfl rfl ?_
    refine ym rfl rfl rfl ?_
    refine bI rfl rfl rfl (bZ (i) bV I49 rfl (hb1) rfl rfl (by first | rfl | omega) (by omega)) ?_
    rintro _ ⟨bj, oj, rfl, hej, hbj⟩
    refine dq rfl rfl rfl (fun w' => At w' bj oj [str y.1, str y.2]) (hb1.at hej hy) (fun w1 h1 => bP fB rfl I49 rfl h1 rfl) ?_
    refine al rfl rfl rfl (fun _ => x_nePr (a := x) (b := y) rfl rfl (by kernel_rfl) fB (by kernel_rfl) (by decide) (by decide) rfl rfl uU9 uU9) ?_
    refine aR (a7 (aC rfl (fun hxy => ?_) (fun hxy => ?_)))
    ·refine zSR (za rfl (a8 (a7 (bQ (cD (bn (bn (cD (bn (fT ?_))))))))))
     exact ⟨congrArg Value.bool (decide_eq_false (fun h => hxy (by rw [← h, hx] at hy; exact Option.some.inj hy))).symm, hc1.tr (drw _)⟩
    ·refine aA (aB (a7 (aj (zm rfl (a6 rfl (aD rfl rfl (by omega)) (za rfl ?_))))))
     refine a8 (a7 ?_)
     have hxy : x = y := Decidable.not_not.1 hxy
     subst hxy
     refine Exists.intro (q) (And.intro (by omega) ?_)
     exact ⟨i + 1, rfl, by omega, hc1.tr (drw _), by rw [List.take_add_one, List.take_add_one, ht, hx, hy]⟩
   ·refine aQ (ar (ar (aE (a7 (zSR (za rfl (a8 (a7 (zrf ?_)))))))))
    have hil : i = a.length := by omega
    subst hil
    rw [List.take_length, hab, List.take_length] at ht
    exact ⟨congrArg Value.bool (decide_eq_true ht).symm, hc1⟩
theorem same_t (w : World) (av bv : Value) (a b : List Pr) (ha : Sl w av a) (hb : Sl w bv b) (hl : a.length ≤ 1000000) (he : a = b) :
  Ret Tryz.prog 22 #[av, bv] w fun r w' => r = .bool true ∧ Chg [] w w' := by
 subst he
 refine (same_ok w av bv a a ha hb hl hl).mono ?_
 rintro r w' ⟨rfl, hc⟩
 exact ⟨congrArg Value.bool (decide_eq_true rfl), hc⟩
theorem yR (w : World) : Ret Tryz.prog 17 #[] w fun v w' => v = .bool true ∧ Chg [] w w' := by
 refine enter [0] Tryz.func17 rfl rfl (Nat.le_of_ble_eq_true rfl) ?_
 refine zSR (za rfl (zNR (ah rfl C18 (sr w 20 (by decide)) ?_)))
 rintro _ w1 ⟨c, s1, r, rfl, hcn, hcw, hT1, hr1, hk1, hc1⟩
 refine zm rfl (zx rfl rfl rfl (zx rfl rfl rfl (zx rfl rfl rfl (za rfl (za rfl (za rfl (a8 (a7 (ae (zSR (zm rfl (a6 rfl (cy rfl) (a8 (a7 (aN (rfl) ?_)))))))))))))))
 refine zKR (zm rfl (zm rfl (ah rfl C20 (put9s hT1 (p := ([97], [49])) (by decide) (by decide) (by omega) (by omega)) ?_)))
 rintro _ w2 ⟨⟨id, pg2, made, s2, rfl, hT2, hx2, hk2, hr2⟩, hc2⟩
 refine zm rfl (zx rfl rfl rfl (zx rfl rfl rfl (za rfl (za rfl (zNR (zm rfl (zm rfl ?_)))))))
 have hA2 := hT1.ext hT2.at_ hx2
 refine ah rfl C20 (put9no hT2 (p := ([], [49])) (by decide) (by decide) (by omega)) ?_
 rintro _ w3 ⟨rfl, hT3, hc3⟩
 refine zm rfl (zx rfl rfl rfl (zx rfl rfl rfl (za rfl (za rfl (zNR (zm rfl (zm rfl ?_)))))))
 have hA3 := hA2.ext hT3.at_ (Ext.refl _ _ _)
 refine ah rfl C23 (get9 hT3 [97] [49] true rfl rfl (by decide)) ?_
 rintro _ w4 ⟨rfl, hT4, hc4⟩
 refine zm rfl (zx rfl rfl rfl (zx rfl rfl rfl (zx rfl rfl rfl (za rfl (za rfl (za rfl (zNR (zm rfl (zm rfl ?_)))))))))
 have hA4 := hA3.chg0 hc4
 refine ah rfl C23 (get9 hA4 [97] [] false rfl rfl (by decide)) ?_
 rintro _ w5 ⟨rfl, hA5, hc5⟩
 refine zm rfl (zx rfl rfl rfl (zx rfl rfl rfl (zx rfl rfl rfl (za rfl (za rfl (za rfl (zNR (zm rfl (zm rfl ?_)))))))))
 have hT5 := hT4.chg0 hc5
 refine ah rfl C24 (del9s hT5 [97] true rfl (by omega) (by omega)) ?_
 rintro _ w6 ⟨⟨ud, pg6, made6, s6, rfl, hT6, hx6, hk6, hr6⟩, hc6⟩
 refine zm rfl (zx rfl rfl rfl (zx rfl rfl rfl (zx rfl rfl rfl (za rfl (za rfl (za rfl (zNR (zm rfl (zm rfl ?_)))))))))
 have hB6 := hT5.ext hT6.at_ hx6
 refine ah rfl C27 (len9 hT6 (by decide) (by decide)) ?_
 rintro _ w7 ⟨rfl, hT7, hc7⟩
 refine zm rfl (zx rfl rfl rfl (zx rfl rfl rfl (za rfl (za rfl (zNR (zm rfl ?_))))))
 have hB7 := hB6.chg0 hc7
 refine a6 rfl (cg (da rfl rfl) (congrArg Value.bool (decide_eq_true (rfl)))) ?_
 refine zm rfl (ag rfl (zm rfl (ag rfl (a6 rfl (cg (da rfl rfl) (congrArg Value.bool (decide_eq_true (rfl)))) ?_))))
 refine a6 rfl (aM rfl) (zm rfl (ag rfl (zm rfl (ag rfl (a6 rfl (cg (zL (b := 0) rfl rfl) (congrArg Value.bool (decide_eq_true (rfl)))) ?_)))))
 refine a6 rfl (aM rfl) (zm rfl (ag rfl (zm rfl (ag rfl (a6 rfl (cg (da rfl rfl) (congrArg Value.bool (decide_eq_true (rfl)))) ?_)))))
 refine a6 rfl (aM rfl) (zm rfl (ag rfl (zm rfl (a6 rfl (aM rfl) (zm rfl (ag rfl (zm rfl (ag rfl (a6 rfl (cg (rk rfl rfl) (congrArg Value.bool (decide_eq_true (rfl)))) ?_)))))))))
 refine a6 rfl (aM rfl) (zm rfl (ag rfl (zm rfl (ag rfl (a6 rfl (cg (da rfl rfl) (congrArg Value.bool (decide_eq_true (rfl)))) ?_)))))
 refine a6 rfl (aM rfl) (zm rfl (ag rfl (zm rfl (ag rfl (a6 rfl (cy rfl) (a6 rfl (aM rfl) (zm rfl (ag rfl (zm rfl (ag rfl (a6 rfl (cg (da rfl rfl) (congrArg Value.bool (decide_eq_true (rfl)))) ?_)))))))))))
 refine a6 rfl (aM rfl) (zm rfl (ag rfl (zm rfl (a6 rfl (aM rfl) (zm rfl (ag rfl (zm rfl (ag rfl (a6 rfl (cg (da rfl rfl) (congrArg Value.bool (decide_eq_true (rfl)))) ?_)))))))))
 refine a6 rfl (aM rfl) (zm rfl (ag rfl (zm rfl (ag rfl (a6 rfl (cg (da rfl rfl) (congrArg Value.bool (decide_eq_true (rfl)))) ?_)))))
 refine a6 rfl (aM rfl) (zm rfl (ag rfl (zm rfl (ag rfl (zm rfl (ag rfl (ah rfl C25 (wR hB7 (by decide)) ?_)))))))
 rintro _ w8 ⟨rfl, hB8, hc8⟩
 refine ag rfl ?_
 have hT8 := hT7.chg0 hc8
 refine a6 rfl (cg (da rfl rfl) (congrArg Value.bool (decide_eq_true (rfl)))) ?_
 refine a6 rfl (aM rfl) (zm rfl (ag rfl (zm rfl (ag rfl (zm rfl (ag rfl (ah rfl C25 (wR hT8 (by decide)) ?_)))))))
 rintro _ w9 ⟨rfl, hT9, hc9⟩
 refine ag rfl (a6 rfl (da rfl rfl) (a6 rfl (aM rfl) (za rfl ?_)))
 refine a8 (a7 (zrf ?_))
 exact ⟨rfl, by rw [← hcw]; exact hT9.now⟩
end Go.Proofs.YtpbfapbajmdlkaaGreat

end
section
namespace Go.Proofs.YtpbfapbajmdlkaaGreat
open Go Go.Sac
set_option maxRecDepth 100000
set_option maxHeartbeats 4000000
abbrev El := UInt32 × ff × List Pr
structure Eld (c : TC) (w : World) (s : TP) (rv tv : Value) (es : List El) (i : Nat) : Prop where
 len : es.length = i
 ro : Own w rv (es.map (·.1))
 to : Own w tv (es.map fun a => a.2.1)
 rF : ∀ x ∈ aq rv, c.w0.heap.size ≤ x ∧ x ∉ c.F
 tF : ∀ x ∈ aq tv, c.w0.heap.size ≤ x ∧ x ∉ c.F
 ap : ∀ x ∈ aq rv, x ∉ aq tv
 each : ∀ a ∈ es, SmT c w s a.1 a.2.2 i ∧ Own w a.2.1.1 a.2.2 ∧ ∀ x ∈ aq a.2.1.1, x ∉ c.F ∧ x ∉ aq rv ∧ x ∉ aq tv
section
variable {c : TC} {w w' w5 w6 : World} {s s' : TP} {rv tv rv' tv' : Value} {es : List El} {i j : Nat} {id : UInt32} {m : List Pr} {made : List UInt32}
theorem SmT.mono (h : SmT c w s id m i) (hij : i ≤ j) : SmT c w s id m j := ⟨h.tr, Nat.le_trans h.len hij, h.small⟩
theorem Eld.chg0 (h : Eld c w s rv tv es i) (hc : Chg [] w w') : Eld c w' s rv tv es i :=
 ⟨h.len, h.ro.mod0 hc, h.to.mod0 hc, h.rF, h.tF, h.ap, fun a ha => ⟨(h.each a ha).1.chg0 hc, (h.each a ha).2.1.mod0 hc, (h.each a ha).2.2⟩⟩
theorem Eld.ext (h : Eld c w s rv tv es i) (hp : c.pg w' s') (hx : Ext c.n s.P s'.P s.V s'.V made) (hc : Chg c.F w w') : Eld c w' s' rv tv es i :=
 ⟨h.len, h.ro.mod hc (fun x hx => (h.rF x hx).2), h.to.mod hc (fun x hx => (h.tF x hx).2), h.rF, h.tF, h.ap, fun a ha => ⟨(h.each a ha).1.ext hp hx, (h.each a ha).2.1.mod hc (fun x hx => ((h.each a ha).2.2 x hx).1), (h.each a ha).2.2⟩⟩
theorem Eld.push (h : Eld c w s rv tv es i) (hS : SmT c w s id m i) {ov : ff} (ho : Own w ov.1 m) (hov : ∀ x ∈ aq ov.1, x ∉ c.F ∧ x ∉ aq rv ∧ x ∉ aq tv)
  (h5 : Appended rv (es.map (·.1)) [id] w rv' w5) (h6 : Appended tv (es.map fun a => a.2.1) [ov] w5 tv' w6) : Eld c w6 s rv' tv' (es ++ [(id, ov, m)]) (i + 1) ∧ SmT c w6 s id m i := by
 have hF := hS.at_.lt
 have h0 := hS.now.1
 have k5 := h5.mod.1
 have hr : ∀ x ∈ aq rv, x < w.heap.size := h.ro.sl.lt
 have ht : ∀ x ∈ aq tv, x < w.heap.size := h.to.sl.lt
 have hr5 : ∀ x ∈ aq rv', x < w5.heap.size := h5.own.sl.lt
 have go : ∀ {id : UInt32} {m : List Pr}, SmT c w s id m i → SmT c w6 s id m i := fun hS => (hS.chg h5.mod (fun x hx hh => (h.rF x hh).2 hx) (fun x hx => (h.rF x hx).1)).chg h6.mod (fun x hx hh => (h.tF x hh).2 hx) (fun x hx => (h.tF x hx).1)
 have one : ∀ {v : Value} {L : List Pr}, Own w v L → (∀ x ∈ aq v, x ∉ c.F ∧ x ∉ aq rv ∧ x ∉ aq tv) → Own w6 v L ∧ ∀ x ∈ aq v, x ∉ c.F ∧ x ∉ aq rv' ∧ x ∉ aq tv' := fun ho hn => by
  refine ⟨(ho.mod h5.mod (fun x hx => (hn x hx).2.1)).mod h6.mod (fun x hx => (hn x hx).2.2), fun x hx => ⟨(hn x hx).1, fun hh => ?_, fun hh => ?_⟩⟩
  ·have := ho.sl.lt x hx
   rcases h5.inn x hh with q | q
   ·exact (hn x hx).2.1 q
   ·omega
  ·have := ho.sl.lt x hx
   rcases h6.inn x hh with q | q
   ·exact (hn x hx).2.2 q
   ·omega
 have hap : ∀ x ∈ aq rv', x ∉ aq tv' := fun x hx hh => by
  have := hr5 x hx
  rcases h6.inn x hh with q | q
  ·rcases h5.inn x hx with q2 | q2
   ·exact h.ap x q2 q
   ·have := ht x q; omega
  ·omega
 have hap2 : ∀ x ∈ aq rv', x ∉ aq tv := fun x hx hh => by
  rcases h5.inn x hx with q2 | q2
  ·exact h.ap x q2 hh
  ·have := ht x hh; omega
 refine ⟨⟨by rw [List.length_append, h.len]; rfl, ?_, ?_, fun x hx => ?_, fun x hx => ?_, hap, fun a ha => ?_⟩, go hS⟩
 ·rw [List.map_append]; exact h5.own.mod h6.mod hap2
 ·rw [List.map_append]; exact h6.own
 ·rcases h5.inn x hx with q | q
  ·exact h.rF x q
  ·exact ⟨by omega, fun hh => by have := hF x hh; omega⟩
 ·rcases h6.inn x hx with q | q
  ·exact h.tF x q
  ·exact ⟨by omega, fun hh => by have := hF x hh; omega⟩
 ·rcases List.mem_append.1 ha with ha | ha
  ·have q := h.each a ha
   exact ⟨(go q.1).mono (by omega), one q.2.1 q.2.2⟩
  ·rw [List.mem_singleton] at ha; subst ha
   exact ⟨(go hS).mono (by omega), one ho hov⟩
theorem SmT.check (h : SmT c w s id m j) :
  Ret Tryz.prog 25 #[c.pv, .int .u32 id.toNat] w fun r w' => r = .int .i64 0 ∧ SmT c w' s id m j ∧ Chg [] w w' := by
 obtain ⟨⟨pg, h1⟩, h2, h3⟩ := h
 refine (wR h1 (by decide)).mono ?_
 rintro r w' ⟨q, q2, hc⟩
 exact ⟨q, ⟨⟨pg, q2⟩, h2, h3⟩, hc⟩
end
theorem tw (w : World) (lv : Value) (l : List UInt16) (hl : Sl w lv l) (dv : Value) (dl : List Bool) (hd : Sl w dv dl) :
  Ret Tryz.prog 4 #[lv, dv] w fun v w' => v = .bool true ∧ Chg [] w w' := by
 obtain ⟨pl, cl, rfl⟩ := hl.form rfl
 obtain ⟨pd, cd, rfl⟩ := hd.form rfl
 refine enter [4] Tryz.func4 rfl rfl (Nat.le_of_ble_eq_true rfl) ?_
 refine zSR (za rfl (a8 (a7 (ae (zSR (ah rfl C17 (yR w) ?_))))))
 rintro _ w1 ⟨rfl, hc1⟩
 refine a6 rfl (cy rfl) (a8 (a7 (aN (rfl) ?_)))
 refine aA (a7 (ae (zSR (zm rfl (a6 rfl (au rfl A2) ?_)))))
 by_cases h14 : 14 < l.length
 ·refine a6 rfl (cg (dg rfl rfl) (congrArg Value.bool (decide_eq_true (by omega)))) ?_
  refine zm rfl (ax rfl rfl (ax rfl rfl (ax rfl rfl (ax rfl rfl (ax rfl rfl (a6 rfl (aM rfl) (a8 (a7 (aY (rfl) ?_)))))))))
  refine zSR (za rfl (a8 (a7 (zrt ?_))))
  exact ⟨rfl, hc1⟩
 ·refine a6 rfl (cg (dg rfl rfl) (congrArg Value.bool (decide_eq_false (fun h => h14 (by omega))))) ?_
  refine zm rfl (ag rfl (zm rfl (ag rfl (a6 rfl (au rfl uU40) (ag rfl (zm rfl (ag rfl (a6 rfl (au rfl A2) (ag rfl (a6 rfl (bw rfl rfl) (a6 rfl (aO rfl) ?_)))))))))))
  refine a8 (a7 (aC rfl (fun hdl => ?_) (fun hdl => ?_)))
  ·refine zSR (za rfl (a8 (a7 (zrt ?_))))
   exact ⟨rfl, hc1⟩
  ·refine zKR (ah rfl C18 (sr _ 390 (by decide)) ?_)
   rintro _ w2 ⟨c, s2, r, rfl, hcn, hcw, hT2, hr2, hk2, hc2⟩
   refine zm rfl (zx rfl rfl rfl (zx rfl rfl rfl (zx rfl rfl rfl (za rfl (za rfl (za rfl (a8 (a7 (ae (zSR (zm rfl (a6 rfl (cy rfl) (a8 (a7 (aN (rfl) ?_)))))))))))))))
   refine zKR (za rfl (zNR (za rfl (a8 (a7 (ae (zSR (za rfl (a8 (a7 (aw ?_)))))))))))
   have hw0 : Chg [] w c.w0 := by rw [hcw]; exact hc1
   refine bC [0, 1, 5, 6, 8, 9, 10] (fun q vs w' => ∃ (i : Nat) (s : TP) (root : UInt32) (m : List Pr) (rv tv : Value) (es : List El), vs = [.slice pl l.length cl, .slice pd dl.length cd, c.pv, .int .u32 root.toNat, rv, tv, .int .i64 i] ∧ i + q = l.length ∧ Bud c s i ∧ SmT c w' s root m i ∧ Eld c w' s rv tv es i) (l.length) ?_ ?_
   ·exact ⟨0, s2, r, [], .slice none 0 0, .slice none 0 0, [], rfl, by omega, ⟨by omega, by omega⟩, ⟨⟨_, hT2⟩, Nat.le_refl _, by simp⟩, ⟨rfl, Own.nil _, Own.nil _, fun x hx => by simp [aq] at hx, fun x hx => by simp [aq] at hx, fun x hx => by simp [aq] at hx, by simp⟩⟩
   ·rintro q vs J w3 ⟨i, s3, r3, m, rv, tv, es, rfl, hi, hB3, hT3, hE3⟩
    refine ae (zSR (zm rfl (zm rfl (a6 rfl (au rfl A2) (a6 rfl (bw rfl rfl) ?_)))))
    refine a8 (a7 ?_)
    have hml := hT3.len
    refine aC rfl (fun hlt => ?_) (fun hlt => ?_)
    ·refine aA (a7 (ae (aw (zSR (zm rfl (zm rfl ?_))))))
     have hob1 : ∃ z, q = z + 1 := ⟨q - 1, by omega⟩
     obtain ⟨q, rfl⟩ := hob1
     refine ah rfl C21 (hT3.scan (by omega) [] [] 100 (by decide)) ?_
     rintro _ w4 ⟨⟨ov, rfl, ho4, hi4⟩, hT4, hc4⟩
     refine zm rfl (zx rfl rfl rfl (zx rfl rfl rfl (za rfl (za rfl (a8 (a7 (ae (zSR (zm rfl (a6 rfl (bL rfl rfl) ?_))))))))))
     refine a8 (a7 ?_)
     rw [nP (by omega)] at ho4
     have hob2 := ho4.sl.form rfl
     obtain ⟨po, co, rfl⟩ := hob2
     have hE4 := hE3.chg0 hc4
     refine aG rfl (fun h => h rfl) ?_
     refine zKR (zm rfl (zm rfl (fq (r3) bB I25 rfl rfl rfl (by decide) (by decide) rfl rfl rfl rfl (hE4.ro) (fun _ => rfl) (by rw [List.length_map, hE4.len]; omega) ?_)))
     rintro s5 v5 w5 h5
     refine zm rfl (zm rfl ?_)
     have hto5 := hE4.to.mod h5.mod (fun x hx hh => hE4.ap x hh hx)
     refine fq ((⟨.slice po m.length co, ⟨po, _, co, rfl⟩⟩ : ff)) Tryz.underlying42 I33 rfl rfl rfl (by decide) (by decide) rfl rfl rfl rfl (hto5) (fun _ => rfl) (by rw [List.length_map, hE4.len]; omega) ?_
     rintro s6 v6 w6 h6
     refine za rfl (za rfl (zNR (zm rfl (zm rfl ?_))))
     have hF3 := hT3.at_.lt
     have hr3 := hE3.ro.sl.lt
     have ht3 := hE3.to.sl.lt
     have hge4 : ∀ x ∈ aq (.slice po m.length co), w3.heap.size ≤ x := hi4.ge
     obtain ⟨hE6, hT6⟩ := hE4.push hT4 (ov := ⟨.slice po m.length co, ⟨po, _, co, rfl⟩⟩) ho4 (fun x hx => ⟨fun hh => by have := hF3 x hh; have := hge4 x hx; omega, fun hh => by have := hr3 x hh; have := hge4 x hx; omega, fun hh => by have := ht3 x hh; have := hge4 x hx; omega⟩) h5 h6
     have hl6 := hl.mod0 (hw0.tr hT6.now)
     have hd6 := hd.mod0 (hw0.tr hT6.now)
     have hob3 : ∃ a, l[i]? = some a := ⟨l[i]'(by omega), List.getElem?_eq_getElem _⟩
     obtain ⟨k, hk⟩ := hob3
     have hob4 : ∃ a, dl[i]? = some a := ⟨dl[i]'(by omega), List.getElem?_eq_getElem _⟩
     obtain ⟨b, hb⟩ := hob4
     refine bg rfl (bZ (i) A2 I30 rfl (hl6) rfl rfl (by first | rfl | omega) (by omega)) ?_
     rintro _ ⟨bi, oi, rfl, hei, hbi⟩
     refine a6 rfl (az uU30 rfl rfl (((hl6.at hei hk).c0 rfl))) ?_
     refine a6 rfl (x_rem16 (a := k) (b := 16) rfl rfl (by decide)) ?_
     refine ah rfl C19 (name_ok _ (k % 16)) ?_
     rintro _ w7 ⟨rfl, hc7⟩
     refine za rfl (a8 (a7 (ae (zSR (zm rfl (zm rfl ?_))))))
     have hd7 := hd6.mod0 hc7
     have hT7 := hT6.chg0 hc7
     have hE7 := hE6.chg0 hc7
     refine bg rfl (bZ (i) uU40 I4 rfl (hd7) rfl rfl (by first | rfl | omega) (by omega)) ?_
     rintro _ ⟨bj, oj, rfl, hej, hbj⟩
     refine a6 rfl (az uU4 rfl rfl (((hd7.at hej hb).c0 rfl))) ?_
     refine a8 (a7 (cG rfl (fun hbt => ?_) (fun hbt => ?_)))
     ·refine aj (zm rfl (zm rfl (zm rfl (ah rfl C24 (hT7.del hB3 (by omega) (rR (k % 16))) ?_))))
      rintro _ w8 ⟨⟨id8, s8, made8, rfl, hT8, hB8, hx8⟩, hc8⟩
      refine zm rfl (zx rfl rfl rfl (zx rfl rfl rfl (zx rfl rfl rfl (za rfl (za rfl (zNR (zm rfl (a6 rfl (bL rfl rfl) ?_))))))))
      refine a8 (a7 (aG rfl (fun h => h rfl) ?_))
      refine aA (aB (a7 (aj (zm rfl (a6 rfl (aD rfl rfl (by omega)) (za rfl ?_))))))
      refine a8 (a7 (Exists.intro (q) (And.intro (by omega) ?_)))
      exact ⟨i + 1, s8, id8, _, v5, v6, _, rfl, by omega, hB8, hT8, hE7.ext hT8.at_ hx8 hc8⟩
     ·refine aj (zm rfl (zm rfl (zm rfl (zm rfl (a6 rfl (eJ rfl uU3 uU5) ?_)))))
      refine aU rfl (kX [.int .u8 118, .int .u8 (lk (i : Int)).toNat] [118, lk (i : Int)] aP I5 rfl rfl rfl rfl rfl rfl (by decide) (by decide)) ?_
      rintro _ w8 ⟨⟨b8, o8, c8, rfl⟩, ho8, hc8, hi8⟩
      refine a6 rfl (kY aP uU5 uU9 ho8.sl rfl) ?_
      have hT8 := hT7.chg0 hc8
      have hE8 := hE7.chg0 hc8
      refine ah rfl C20 (hT8.put hB3 (by omega) (by omega) (p := (rR (k % 16), [118, lk (i : Int)])) ⟨AK _, by show 2 ≤ 150; decide⟩ (by show 3 + 2 ≤ 7; decide)) ?_
      rintro _ w9 ⟨⟨id9, s9, made9, rfl, hT9, hB9, hx9⟩, hc9⟩
      refine zm rfl (zx rfl rfl rfl (zx rfl rfl rfl (za rfl (za rfl (zNR (zm rfl (a6 rfl (bL rfl rfl) ?_)))))))
      refine a8 (a7 (aG rfl (fun h => h rfl) ?_))
      refine aA (aB (a7 (aj (zm rfl (a6 rfl (aD rfl rfl (by omega)) (za rfl ?_))))))
      refine a8 (a7 (Exists.intro (q) (And.intro (by omega) ?_)))
      exact ⟨i + 1, s9, id9, _, v5, v6, _, rfl, by omega, hB9, hT9, hE8.ext hT9.at_ hx9 hc9⟩
    ·refine aQ (ar (ar (aE (a7 (ae (zSR (za rfl (a8 (a7 (aw ?_))))))))))
     obtain ⟨pr, cr, rfl⟩ := hE3.ro.form (n := i) (by rw [List.length_map]; exact hE3.len)
     refine bC [5, 8, 9, 14] (fun q vs w' => ∃ (n : Nat), vs = [c.pv, .slice pr i cr, tv, .int .i64 n] ∧ n + q = i ∧ Chg [] w3 w') (i) ?_ ?_
     ·exact ⟨0, rfl, by omega, Chg.refl _⟩
     ·rintro q vs J w4 ⟨n, rfl, hn, hc4⟩
      refine ae (zSR (zm rfl (zm rfl (a6 rfl (au rfl bB) (a6 rfl (bw rfl rfl) ?_)))))
      refine a8 (a7 ?_)
      have hE4 := hE3.chg0 hc4
      refine aC rfl (fun hlt2 => ?_) (fun hlt2 => ?_)
      ·refine aA (a7 (ae (aw (zSR (zm rfl (zm rfl (zm rfl ?_)))))))
       have hob5 : ∃ z, q = z + 1 := ⟨q - 1, by omega⟩
       obtain ⟨q, rfl⟩ := hob5
       have hlen := hE3.len
       have hob6 : ∃ a, es[n]? = some a := ⟨es[n]'(by omega), List.getElem?_eq_getElem _⟩
       obtain ⟨a, ha⟩ := hob6
       have hmem : a ∈ es := List.mem_of_getElem? ha
       have hr : (es.map (·.1))[n]? = some a.1 := by rw [List.getElem?_map, ha]; rfl
       have ht : (es.map fun a => a.2.1)[n]? = some a.2.1 := by rw [List.getElem?_map, ha]; rfl
       refine bg rfl (bZ (n) bB I25 rfl (hE4.ro.sl) rfl rfl (by first | rfl | omega) (by rw [List.length_map]; omega)) ?_
       rintro _ ⟨bi, oi, rfl, hei, hbi⟩
       refine a6 rfl (az bR rfl rfl (((hE4.ro.sl.at hei hr).c0 rfl))) ?_
       have hA4 := (hE4.each a hmem).1
       have hAl := hA4.len
       refine ah rfl C21 (hA4.scan (by omega) [] [] 100 (by decide)) ?_
       rintro _ w5 ⟨⟨ov, rfl, ho5, hi5⟩, hA5, hc5⟩
       refine zm rfl (zx rfl rfl rfl (zx rfl rfl rfl (za rfl (za rfl (zNR (zm rfl ?_))))))
       rw [nP (by omega)] at ho5
       have hE5 := hE4.chg0 hc5
       refine a6 rfl (cg (bL rfl rfl) (congrArg Value.bool (decide_eq_false (fun h => h rfl)))) ?_
       refine zm rfl (ag rfl (zm rfl (ag rfl (zm rfl (ag rfl (zm rfl (ag rfl (bg rfl (bZ (n) Tryz.underlying42 I33 rfl (hE5.to.sl) rfl rfl (by first | rfl | omega) (by rw [List.length_map]; omega)) ?_))))))))
       rintro _ ⟨bj, oj, rfl, hej, hbj⟩
       refine ag rfl (a6 rfl (az bV rfl rfl (((hE5.to.sl.at hej ht).c0 rfl))) ?_)
       refine ag rfl (ah rfl C22 (same_t _ ov a.2.1.1 _ _ ho5.sl (hE5.each a hmem).2.1.sl (by omega) rfl) ?_)
       rintro _ w6 ⟨rfl, hc6⟩
       refine ag rfl (a6 rfl (cy rfl) (a6 rfl (aO rfl) (zm rfl (ag rfl (zm rfl (ag rfl (zm rfl (ag rfl (zm rfl (ag rfl ?_))))))))))
       have hE6 := hE5.chg0 hc6
       refine bg rfl (bZ (n) bB I25 rfl (hE6.ro.sl) rfl rfl (by first | rfl | omega) (by rw [List.length_map]; omega)) ?_
       rintro _ ⟨bk, ok, rfl, hek, hbk⟩
       refine ag rfl (a6 rfl (az bR rfl rfl (((hE6.ro.sl.at hek hr).c0 rfl))) ?_)
       refine ag rfl (ah rfl C25 ((hE6.each a hmem).1.check) ?_)
       rintro _ w7 ⟨rfl, hA7, hc7⟩
       refine ag rfl (a6 rfl (bL rfl rfl) (a6 rfl (aO rfl) ?_))
       refine a8 (a7 (aG rfl (fun h => h rfl) ?_))
       refine aA (aB (a7 (aj (zm rfl (a6 rfl (aD rfl rfl (by omega)) (za rfl ?_))))))
       refine a8 (a7 (Exists.intro (q) (And.intro (by omega) ?_)))
       exact ⟨n + 1, rfl, by omega, hc4.tr (hc5.tr (hc6.tr hc7))⟩
      ·refine aQ (ar (ar (aE (a7 (zSR (za rfl (a8 (a7 (zrf ?_)))))))))
       exact ⟨rfl, hw0.tr (hT3.chg0 hc4).now⟩
end Go.Proofs.YtpbfapbajmdlkaaGreat

end
