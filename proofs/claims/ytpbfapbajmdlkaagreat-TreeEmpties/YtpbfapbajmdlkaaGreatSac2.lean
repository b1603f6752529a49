/- All pairs put, all taken away, in whatever order: an empty tree of one page; each on the way is one. It holds for every input; there are no conditions. -/
import Derived.Test.YtpbfapbajmdlkaaGreatSac1
import Derived.Laws.Externs
import Derived.Lib.Bytealg
import Derived.ProofKit
import Derived.OpenShut
import Derived.Lib.SlKeysI
import Derived.RangeFuncGives
import Derived.Maps.RangeWalk
import Derived.Maps.Keyed
import Derived.Laws.Concat
import Derived.Test.YtpbfapbajmdlkaaGreatSac0
section
namespace Go.Sac
open Go
def ri (c : Cn) (n : Nat) : Cn := match c with
 | .leaf ps => .leaf (ps.take n)
 | .br ks ids => .br (ks.take (n - 1)) (ids.take n)
def rV (c : Cn) (n : Nat) : Bs := match c with
 | .leaf ps => (ps.getD n ([], [])).1
 | .br ks _ => ks.getD (n - 1) []
def pe (c : Cn) (n : Nat) : Cn := match c with
 | .leaf ps => .leaf (ps.drop n)
 | .br ks ids => .br (ks.drop n) (ids.drop n)
def jt : Cn → Nat
 | .leaf ps => ps.length
 | .br _ ids => ids.length
def eG : Cn → Nat
 | .leaf _ => 1
 | .br _ _ => 2
def Aa (c : Cn) (n : Nat) : Nat := max (cnZ (ri c n)) (cnZ (pe c n))
def rk : Cn → Prop
 | .leaf ps => eM ps ∧ bM ps ≤ 694
 | .br ks ids => u4 ks ∧ ids.length = ks.length + 1 ∧ brZ ks ids ≤ 546
theorem tI (P : Nat → Prop) [DecidablePred P] : ∀ (k a : Nat), P a → ¬ P (a + k) → ∃ n, a ≤ n ∧ n < a + k ∧ P n ∧ ¬ P (n + 1)
 | 0, _, h, h' => absurd h h'
 | k + 1, a, h, h' => by
  by_cases h1 : P (a + 1)
  ·obtain ⟨n, q1, q2, q3, q4⟩ := tI P k (a + 1) h1 (by rw [Nat.add_assoc, Nat.add_comm 1 k]; exact h')
   exact ⟨n, by omega, by omega, q3, q4⟩
  ·exact ⟨a, Nat.le_refl _, by omega, h, h1⟩
theorem gi (ps : List Pr) (n : Nat) : bM (ps.take n) + bM (ps.drop n) = bM ps + 3 := by
 have := dt (ps.take n) (ps.drop n)
 rw [List.take_append_drop] at this; omega
theorem lV {ps : List Pr} {n : Nat} (h : n < ps.length) : bM (ps.take (n + 1)) = bM (ps.take n) + (ps[n].1.length + ps[n].2.length + 4) := by
 have h1 := dt (ps.take n) [ps[n]]
 rw [gh, List.take_append_getElem h] at h1
 omega
theorem iT {ks : List Bs} {n : Nat} (h : n < ks.length) : cw (ks.take (n + 1)) = cw (ks.take n) + (ks[n].length + 2) := by
 have h1 := fI (ks.take n) [ks[n]]
 rw [List.take_append_getElem h, gH] at h1
 simpa [cw] using h1
theorem gG (ks : List Bs) (n : Nat) : cw (ks.take n) + cw (ks.drop n) = cw ks := by
 have := fI (ks.take n) (ks.drop n)
 rw [List.take_append_drop] at this; omega
theorem nW : ∀ ks : List Bs, 2 * ks.length ≤ cw ks
 | [] => Nat.zero_le _
 | a :: l => by rw [gH, List.length_cons]; have := nW l; omega
theorem A9 {c : Cn} (h : rk c) (hz : 480 < cnZ c) : ∃ n, eG c ≤ n ∧ n + eG c ≤ jt c ∧ Aa c n ≤ 480 := by
 cases c with
 | leaf ps =>
  obtain ⟨⟨h1, _⟩, h2⟩ := h
  have hz : 480 < bM ps := hz
  have hl := (nh ps h1).1
  have hlen : 3 ≤ ps.length := by omega
  have hp : ∀ n (h : n < ps.length), (ps[n].1.length + ps[n].2.length + 4) ≤ 214 := fun n h => by
   have := h1 _ (List.getElem_mem h); omega
  obtain ⟨n, q1, q2, q3, q4⟩ := tI (fun n => bM (ps.take n) ≤ 480) (ps.length - 1) 1 (by
   have := lV (ps := ps) (n := 0) (by omega)
   have := hp 0 (by omega)
   have : bM (ps.take 0) = 3 := rfl
   show bM (ps.take (0 + 1)) ≤ 480
   omega) (by rw [show 1 + (ps.length - 1) = ps.length by omega, List.take_length]; omega)
  refine ⟨n, q1, by show n + 1 ≤ ps.length; omega, Nat.max_le.2 ⟨q3, ?_⟩⟩
  show bM (ps.drop n) ≤ 480
  have e1 := gi ps n
  have e2 := lV (ps := ps) (n := n) (by omega)
  have e3 := hp n (by omega)
  omega
 | br ks ids =>
  obtain ⟨⟨h1, _⟩, h2, h3⟩ := h
  have hz : 480 < 3 + 4 * ids.length + cw ks := hz
  have h3 : 3 + 4 * ids.length + cw ks ≤ 546 := h3
  have hl := (qT ks h1).1
  have hlen : 9 ≤ ids.length := by omega
  have hp : ∀ n (h : n < ks.length), ks[n].length ≤ 60 := fun n h => (h1 _ (List.getElem_mem h)).2
  have ha : ∀ n, 2 ≤ n → n + 2 ≤ ids.length → cnZ (ri (.br ks ids) n) = 3 + 4 * n + cw (ks.take (n - 1)) := fun n q1 q2 => by
   show 3 + 4 * (ids.take n).length + _ = _
   rw [List.length_take, Nat.min_eq_left (by omega)]
  have hb : ∀ n, 2 ≤ n → n + 2 ≤ ids.length → cnZ (pe (.br ks ids) n) = 3 + 4 * (ids.length - n) + cw (ks.drop n) := fun n q1 q2 => by
   show 3 + 4 * (ids.drop n).length + _ = _
   rw [List.length_drop]
  have hc : ∀ n (h : n - 1 < ks.length), 1 ≤ n → cw (ks.take (n - 1)) + (ks[n - 1].length + 2) + cw (ks.drop n) = cw ks := fun n h h1 => by
   have e1 := iT h
   have e2 := gG ks n
   rw [show n - 1 + 1 = n by omega] at e1
   omega
  by_cases hend : 3 + 4 * (ids.length - 2) + cw (ks.take (ids.length - 2 - 1)) ≤ 480
  ·refine ⟨ids.length - 2, by show 2 ≤ _; omega, by show _ + 2 ≤ ids.length; omega, Nat.max_le.2 ⟨by rw [ha _ (by omega) (by omega)]; exact hend, ?_⟩⟩
   rw [hb _ (by omega) (by omega)]
   have e1 : ks.drop (ids.length - 2) = [ks[ids.length - 2]] := by
    rw [List.drop_eq_getElem_cons (by omega), List.drop_of_length_le (by omega)]
   rw [e1, gH]
   have := hp (ids.length - 2) (by omega)
   have : cw [] = 0 := rfl
   omega
  ·obtain ⟨n, q1, q2, q3, q4⟩ := tI (fun n => 3 + 4 * n + cw (ks.take (n - 1)) ≤ 480) (ids.length - 4) 2 (by
    have e1 := iT (ks := ks) (n := 0) (by omega)
    have := hp 0 (by omega)
    have : cw (ks.take 0) = 0 := rfl
    show 3 + 4 * 2 + cw (ks.take (0 + 1)) ≤ 480
    omega) (by rw [show 2 + (ids.length - 4) = ids.length - 2 by omega]; exact hend)
   refine ⟨n, q1, by show n + 2 ≤ ids.length; omega, Nat.max_le.2 ⟨by rw [ha n q1 (by omega)]; exact q3, ?_⟩⟩
   rw [hb n q1 (by omega)]
   have e1 := iT (ks := ks) (n := n - 1) (by omega)
   have e2 := hc n (by omega) (by omega)
   have e3 := hp (n - 1) (by omega)
   rw [show n - 1 + 1 = n by omega] at e1
   have q4' : ¬ (3 + 4 * (n + 1) + cw (ks.take n) ≤ 480) := q4
   omega
theorem CT.cuts {V : UInt32 → Bs} : ∀ {d : Nat} {c : Cn} {pg : List UInt32} {m : List Pr} {n : Nat}, CT V d c pg m → eG c ≤ n → n + eG c ≤ jt c →
  ∃ pg1 pg2 m1 m2, pg = pg1 ++ pg2 ∧ m = m1 ++ m2 ∧ CT V d (ri c n) pg1 m1 ∧ CT V d (pe c n) pg2 m2 ∧ m1 ≠ [] ∧ m2 ≠ [] ∧ Below m1 (rV c n) ∧ Above m2 (rV c n) ∧ jv (rV c n) ∧ gJ (ri c n) ∧ gJ (pe c n)
 | 0, .br _ _, _, _, _, h, _, _ => h.elim
 | _ + 1, .leaf _, _, _, _, h, _, _ => h.elim
 | 0, .leaf ps, pg, m, n, ⟨h1, h2, h3⟩, hn, hm => by
  subst h1; subst h2
  have hn : 1 ≤ n := hn
  have hm : n + 1 ≤ ps.length := hm
  have hk : rV (.leaf ps) n = ps[n].1 := by
   show (ps.getD n ([], [])).1 = _
   rw [List.getD_eq_getElem?_getD, List.getElem?_eq_getElem (by omega)]; rfl
  have hpl : ∀ p ∈ ps.take n, ∃ i, ∃ h : i < n, p = ps[i] := fun p hp => by
   obtain ⟨i, hi, rfl⟩ := List.getElem_of_mem hp
   rw [List.length_take] at hi
   exact ⟨i, by omega, by rw [List.getElem_take]⟩
  refine ⟨[], [], ps.take n, ps.drop n, rfl, (List.take_append_drop _ _).symm, ⟨rfl, rfl, fun p hp => h3.1 p (List.mem_of_mem_take hp), h3.2.sublist (List.take_sublist _ _)⟩, ⟨rfl, rfl, fun p hp => h3.1 p (List.mem_of_mem_drop hp), h3.2.sublist (List.drop_sublist _ _)⟩, ?_, ?_, ?_, ?_, ?_, trivial, trivial⟩
  ·intro e; have := congrArg List.length e; rw [List.length_take, List.length_nil] at this; omega
  ·intro e; have := congrArg List.length e; rw [List.length_drop, List.length_nil] at this; omega
  ·rw [hk]; intro p hp
   obtain ⟨i, hi, rfl⟩ := hpl p hp
   exact List.pairwise_iff_getElem.1 h3.2 i n (by omega) (by omega) hi
  ·rw [hk]; intro p hp
   obtain ⟨i, hi, rfl⟩ := List.getElem_of_mem hp
   rw [List.length_drop] at hi
   rw [List.getElem_drop]
   cases i with
   | zero => exact fz _
   | succ i => exact gg (List.pairwise_iff_getElem.1 h3.2 n (n + (i + 1)) (by omega) (by omega) (by omega))
  ·rw [hk]; exact (h3.1 _ (List.getElem_mem (by omega))).1
 | d + 1, .br ks ids, pg, m, n, ⟨ts, h1, h2, h3, h4, h5, h6⟩, hn, hm => by
  subst h1; subst h3; subst h4
  have hn : 2 ≤ n := hn
  have hm : n + 2 ≤ (aT ts).length := hm
  rw [aT, List.length_map] at hm
  have hlen := h5.len
  rw [msT, List.length_map] at hlen
  have hk : rV (.br ks (aT ts)) n = ks[n - 1] := by
   show ks.getD (n - 1) [] = _
   rw [List.getD_eq_getElem?_getD, List.getElem?_eq_getElem (by omega)]; rfl
  have hks : ks = ks.take (n - 1) ++ ks[n - 1] :: ks.drop n := by
   have := List.drop_eq_getElem_cons (l := ks) (i := n - 1) (by omega)
   rw [show n - 1 + 1 = n by omega] at this
   rw [← this, List.take_append_drop]
  have hts : ts.take n ++ ts.drop n = ts := List.take_append_drop _ _
  have hkey := h2.1 _ (List.getElem_mem (l := ks) (n := n - 1) (by omega))
  obtain ⟨k0, hk0⟩ : ∃ k0, k0 = ks[n - 1] := ⟨_, rfl⟩
  rw [← hk0] at hk hks hkey
  have hsc : il (ks.take (n - 1) ++ k0 :: ks.drop n) := by rw [← hks]; exact h2.2
  have h5' : Seps (ks.take (n - 1) ++ k0 :: ks.drop n) (msT (ts.take n) ++ msT (ts.drop n)) := by rw [← hks, ← fa, hts]; exact h5
  obtain ⟨q1, q2, q3, q4⟩ := Seps.cut (by rw [msT, List.length_map, List.length_take, List.length_take]; omega) hsc h5'
  have h6' : KidsT V d (ts.take n) ∧ KidsT V d (ts.drop n) := KidsT.app.1 (by rw [hts]; exact h6)
  rw [gY] at q3 q4
  have hne : ∀ l : List Kd, KidsT V d l → l ≠ [] → prT l ≠ [] := fun l hl hn e => by
   cases l with
   | nil => exact hn rfl
   | cons t l =>
    rw [eB] at e
    exact (hl t List.mem_cons_self).2 (List.append_eq_nil_iff.1 e).1
  refine ⟨pgT (ts.take n), pgT (ts.drop n), prT (ts.take n), prT (ts.drop n), by rw [← dy, List.take_append_drop], by rw [← eF, List.take_append_drop],
   ⟨ts.take n, by unfold aT; rw [List.map_take], ⟨fun k hk => h2.1 k (List.mem_of_mem_take hk), h2.2.sublist (List.take_sublist _ _)⟩, rfl, rfl, q1, h6'.1⟩,
   ⟨ts.drop n, by unfold aT; rw [List.map_drop], ⟨fun k hk => h2.1 k (List.mem_of_mem_drop hk), h2.2.sublist (List.drop_sublist _ _)⟩, rfl, rfl, q2, h6'.2⟩,
   hne _ h6'.1 (fun e => by have := congrArg List.length e; rw [List.length_take, List.length_nil] at this; omega), hne _ h6'.2 (fun e => by have := congrArg List.length e; rw [List.length_drop, List.length_nil] at this; omega),
   by rw [hk]; exact q3, by rw [hk]; exact q4, by rw [hk]; exact hkey, ?_, ?_⟩
  ·intro e; have := congrArg List.length e; rw [List.length_take, List.length_nil] at this; omega
  ·intro e; have := congrArg List.length e; rw [List.length_drop, List.length_nil] at this; omega
theorem CT.ok {V : UInt32 → Bs} : ∀ {d : Nat} {c : Cn} {pg : List UInt32} {m : List Pr}, CT V d c pg m → (cnZ c ≤ 546 ∨ (∃ ps, c = .leaf ps) ∧ cnZ c ≤ 694) → rk c
 | 0, .leaf _, _, _, ⟨h1, _, h3⟩, hz => by
  subst h1
  refine ⟨h3, ?_⟩
  rcases hz with hz | ⟨_, hz⟩
  ·exact Nat.le_trans hz (by decide)
  ·exact hz
 | 0, .br _ _, _, _, h, _ => h.elim
 | _ + 1, .leaf _, _, _, h, _ => h.elim
 | _ + 1, .br ks _, _, _, ⟨ts, h1, h2, _, _, h5, _⟩, hz => by
  subst h1
  have := h5.len
  rw [msT, List.length_map] at this
  refine ⟨h2, by rw [aT, List.length_map]; exact this, ?_⟩
  rcases hz with hz | ⟨⟨_, h⟩, _⟩
  ·exact hz
  ·cases h
theorem zH {l : List Pr} {p : Pr} (hs : df l) : bM (eh l p) ≤ bM l + (p.1.length + p.2.length + 4) := by
 have hone := gh p
 cases h : dh l p.1 with
 | true =>
  unfold eh
  rw [o9 _ hs, oc _ hs, h]
  have h1 := dt (l.take (cY l p.1)) ([p] ++ l.drop (cY l p.1 + true.toNat))
  have h2 := dt [p] (l.drop (cY l p.1 + true.toNat))
  have h3 := gi l (cY l p.1)
  have h4 := gi (l.drop (cY l p.1)) 1
  have h5 : bM ((l.drop (cY l p.1)).take 1) ≥ 3 := by unfold bM; omega
  rw [List.drop_drop] at h4
  rw [List.singleton_append] at h1 h2
  simp only [Bool.toNat_true] at h1 h2 ⊢
  omega
 | false =>
  rw [kD hs h]
  have h1 := dt (l.take (cY l p.1)) ([p] ++ l.drop (cY l p.1))
  have h2 := dt [p] (l.drop (cY l p.1))
  have h3 := gi l (cY l p.1)
  rw [List.singleton_append] at h1 h2
  omega
theorem A7 (l : List Pr) (k : Bs) : bM (fO l k) ≤ bM l := by
 unfold fO
 induction l with
 | nil => exact Nat.le_refl _
 | cons a l ih =>
  have h1 := dt [a] l
  rw [List.singleton_append, gh] at h1
  rw [List.filter_cons]
  split
  ·have h2 := dt [a] (l.filter fun q => !(q.1 == k))
   rw [List.singleton_append, gh] at h2
   omega
  ·omega
theorem Cy (K1 K2 : List Bs) (a b : List UInt32) (i j : UInt32) : brZ (K1 ++ K2) (a ++ i :: b) = brZ (K1 ++ K2) (a ++ j :: b) := by
 unfold brZ; simp
theorem tl (K1 K2 : List Bs) (a b : List UInt32) (i j l : UInt32) (k : Bs) : brZ (K1 ++ k :: K2) (a ++ i :: l :: b) = brZ (K1 ++ K2) (a ++ j :: b) + 6 + k.length := by
 unfold brZ
 rw [fI, fI, gH]
 simp only [List.length_append, List.length_cons]; omega
theorem CT.lone {V : UInt32 → Bs} {d : Nat} {ids : List UInt32} {pg : List UInt32} {m : List Pr} (h : CT V d (.br [] ids) pg m) : ∃ d' id, d = d' + 1 ∧ ids = [id] ∧ isT V d' id pg m := by
 cases d with
 | zero => exact h.elim
 | succ d =>
  obtain ⟨ts, rfl, h2, rfl, rfl, h5, h6⟩ := h
  have := h5.len
  rw [msT, List.length_map] at this
  match ts, this with
  | [t], _ => exact ⟨d, t.1, rfl, rfl, by rw [dO, eB]; simp only [pgT, prT, List.flatMap_nil, List.append_nil]; exact (h6 t List.mem_cons_self).1⟩
theorem Hole.top (V : UInt32 → Bs) (d : Nat) (m : List Pr) : Hole V d [] [] [] [] m :=
 ⟨⟨fun _ h => by simp at h, List.Pairwise.nil⟩, rfl, trivial, fun _ h => by simp at h, fun _ h => by simp at h⟩
end Go.Sac

end
section
namespace Go.Sac
open Go
instance : Flat Bs := ⟨1, fun s => [str s], fun _ => rfl, fun s v h => by simp at h; subst h; rfl⟩
instance : Flat Pr := ⟨2, fun p => [str p.1, str p.2], fun _ => rfl, fun s v h => by
 simp only [List.mem_cons, List.not_mem_nil, or_false] at h
 rcases h with rfl | rfl <;> rfl⟩
section
variable {P : Program} {E : Env} {w : World} {ty t u : TypeId} {x y : Operand} {a b : Bs}
theorem nV (a b : Bs) : Op.bytesLess (⟨a.toArray⟩ : ByteArray).toList (⟨b.toArray⟩ : ByteArray).toList = ltB a b := by
 simp only [ByteArray.toList_eq]
theorem wI (hx : ev E x = str a) (hy : ev E y = str b) : exec P E (.binOp .lss t x y u) ty w = .ok (.value (.bool (ltB a b))) w := by
 rw [lD, hx, hy]; refine aU ?_; simp [eqGuard, binOp, Op.stringOp, nV]
theorem pS (hx : ev E x = str a) (hy : ev E y = str b) : exec P E (.binOp .geq t x y u) ty w = .ok (.value (.bool (!ltB a b))) w := by
 rw [lD, hx, hy]; refine aU ?_; simp [eqGuard, binOp, Op.stringOp, nV]
def vD (a b : Bs) : Bs := if ltB a b = true then b else a
theorem x_maxS {d d' : TypeId} (hx : ev E x = str a) (hy : ev E y = str b) : exec P E (.call { callee := .builtin .max, args := #[x, y], argTypes := #[d, d'] }) ty w = .ok (.value (str (vD a b))) w := by
 rw [rh]; refine aU ?_
 cases h : ltB a b <;> simp [Builtin.max_, Builtin.max2, hx, hy, Op.stringOp, asBool, nV, vD, h]
end
end Go.Sac

end
section
namespace Go.Sac
open Go
section
variable {P : Program} {E : Env} {w : World} {ty t t' : TypeId} {x y c : Operand}
theorem tP {f : FuncId} {args : Array Value} {fn : Func} (hf : P.funcs[f]? = some fn) (hn : (fn.name == "runtime.NumGoroutine") = false) (hb : fn.body.isNone = false) : (callFunc f args).run P w = .ok (.enter f args) w := by
 have hb' : fn.body ≠ none := by intro h; rw [h] at hb; simp at hb
 have hn' : fn.name ≠ "runtime.NumGoroutine" := by intro h; rw [h] at hn; simp at hn
 unfold callFunc
 rw [an (show program.run P w = .ok P w from rfl)]
 simp only [hf]
 rw [if_neg (by simpa using hn'), if_neg (by simpa using hb')]
 rfl
theorem mr {f : FuncId} {cs : List Value} {args : List Operand} {ats : Array TypeId} {fn : Func} (hc : ev E c = .func (.func f) #[] cs.toArray) (hf : P.funcs[f]? = some fn) (hn : (fn.name == "runtime.NumGoroutine") = false) (hb : fn.body.isNone = false) :
  exec P E (.call { callee := .value c, args := args.toArray, argTypes := ats }) ty w = .ok (.enter f (args.map (ev E) ++ cs).toArray) w := by
 show (do let d ← Deferred.ofValue (ev E c) (args.toArray.map (ev E)); invoke d.target d.args).run P w = _
 rw [hc]
 have := tP (w := w) (args := (args.map (ev E) ++ cs).toArray) hf hn hb
 simpa [Deferred.ofValue, invoke] using this
theorem yb {f : FuncId} {fn : Func} {e : Array Value → Sem Value} {args : List Operand} {ats : Array TypeId} {v : Value} {w' : World} (hf : P.funcs[f]? = some fn) (hn : (fn.name == "runtime.NumGoroutine") = false)
  (hb : fn.body.isNone = true) (h1 : Extern.findNext fn = none) (he : Extern.find fn = some e) (h : (e (args.map (ev E)).toArray).run P w = .ok v w') :
  exec P E (.call { callee := .value (.func f), args := args.toArray, argTypes := ats }) ty w = .ok (.value v) w' := by
 show (do let d ← Deferred.ofValue (.func (.func f) #[] #[]) (args.toArray.map (ev E)); invoke d.target d.args).run P w = _
 have h2 := run_callFunc_extern hf hn hb h1 he (args.map (ev E)).toArray w
 rw [h] at h2
 simpa [Deferred.ofValue, invoke] using h2
def wq (a b : Bs) : Int := Lib.compareBytes a b
theorem z7 (a b : Bs) : wq a b < 0 ↔ ltB a b = true := by
 unfold wq
 induction a generalizing b with
 | nil => cases b <;> simp [Lib.compareBytes, Op.bytesLess]
 | cons x a ih =>
  cases b with
  | nil => simp [Lib.compareBytes, Op.bytesLess]
  | cons y b =>
   rw [na]
   unfold Lib.compareBytes
   split
   ·rename_i h; simp [h]
   ·split
    ·rename_i h1 h2
     have : ¬ x < y := fun h => by
      have := UInt8.lt_iff_toNat_lt.1 h
      have := UInt8.lt_iff_toNat_lt.1 h2
      omega
     have h3 : x ≠ y := fun e => by subst e; exact UInt8.lt_irrefl _ h2
     simp [this, h3]
    ·rename_i h1 h2
     have : x = y := UInt8.le_antisymm (UInt8.not_lt.1 h2) (UInt8.not_lt.1 h1)
     subst this
     rw [ih]; simp [UInt8.lt_irrefl]
theorem cmpB_eq (a b : Bs) : wq a b = 0 ↔ a = b := by
 unfold wq
 induction a generalizing b with
 | nil => cases b <;> simp [Lib.compareBytes]
 | cons x a ih =>
  cases b with
  | nil => simp [Lib.compareBytes]
  | cons y b =>
   unfold Lib.compareBytes
   split
   ·rename_i h
    have h3 : x ≠ y := fun e => by subst e; exact UInt8.lt_irrefl _ h
    simp [h3]
   ·split
    ·rename_i h1 h2
     have h3 : x ≠ y := fun e => by subst e; exact UInt8.lt_irrefl _ h2
     simp [h3]
    ·rename_i h1 h2
     have : x = y := UInt8.le_antisymm (UInt8.not_lt.1 h2) (UInt8.not_lt.1 h1)
     subst this
     rw [ih]; simp
theorem fw {d e : TypeId} {p : Option Addr} {l cp : Nat} (hx : ev E x = .slice p l cp) (ht : P.underlying d = some (.slice e)) : exec P E (.call { callee := .builtin .cap, args := #[x], argTypes := #[d] }) ty w = .ok (.value (.int .i64 cp)) w := by
 rw [rh]; refine aU ?_; simp [Builtin.cap_, hx, run_underlying ht, goInt]
end
section
variable {α : Type} [Flat α] {P : Program} {E : Env} {w : World} {ty t t' : TypeId} {x y lo hi mx : Operand}
theorem sq {e : TypeId} {i : TypeInfo} {z : Value} {v : Value} {o : Operand} (a : α) (ht : P.underlying t = some (.slice e)) (hi : P.info? e = some i) (hz : i.zero = some z) (hsz : i.size = Flat.sz α) (hzs : z.cells.size = Flat.sz α) (hx : ev E o = v) (hv : v.cells.toList = Flat.enc a) (hb : Flat.sz α ≤ 16777216) :
  ∃ v' w', exec P E (.buildSlice t 1 #[(0, o)]) ty w = .ok (.value v') w' ∧ ∃ b, v' = .slice (some ⟨b, 0, none⟩) 1 1 ∧ Blk w' b (Flat.enc a) ∧ w.heap.size ≤ b ∧ Chg [] w w' ∧ b < w'.heap.size := by
 refine ⟨.slice (some ⟨w.heap.size, 0, none⟩) 1 1, w.pushB (.cells (Flat.enc a).toArray e), ?_, w.heap.size, rfl, ⟨e, eA _ _⟩, Nat.le_refl _, Chg.push _ _, by rw [eE]; omega⟩
 rw [nz]
 refine aU ?_
 unfold Instr.buildSlice
 rw [an (run_underlying ht w)]
 simp only []
 rw [an (bE hi w), hsz, if_neg (by omega)]
 have hps : ((#[(0, o)] : Array (Nat × Operand)).map fun (i, x) => (i, ev E x)).toList = ([v].zipIdx).map fun x => (x.2, x.1) := by simp [hx]
 have hcells : ∀ u ∈ [v], u.cells.size = Flat.sz α := fun u hu => by
  rw [List.mem_singleton] at hu; subst hu
  have := congrArg List.length hv
  rw [Flat.len] at this; simpa using this
 have hsize : ∀ zero : Array Value, ((Array.range (1 * Flat.sz α)).map (zero[· % zero.size]!)).size = 1 * Flat.sz α := by intro zero; simp
 have hflat : [v].flatMap (fun v => v.cells.toList) = Flat.enc a := by simp [hv]
 by_cases h0 : 1 * Flat.sz α = 0
 ·rw [if_pos h0]
  simp only [pure_bind]
  rw [hps, nu [v] _ 0 hcells (by rw [hsize]; simp)]
  simp only [Nat.zero_mul]
  rw [jI (by rw [hsize, hflat, Flat.len]; omega), hflat]; rfl
 ·rw [if_neg h0, an (cD hi hz w)]
  simp only [pure_bind]
  rw [hps, nu [v] _ 0 hcells (by rw [hsize]; simp)]
  simp only [Nat.zero_mul]
  rw [jI (by rw [hsize, hflat, Flat.len]; omega), hflat]; rfl
theorem add0 (p : Option Addr) : p.map (·.add 0) = p := by
 cases p with
 | none => rfl
 | some a => obtain ⟨b, o, s⟩ := a; rfl
theorem nI (n : Nat) {e : TypeId} {i : TypeInfo} {p : Option Addr} {l cap : Nat} {k : IntKind} {j : Int} (ht : P.underlying t = some (.slice e)) (hi' : P.info? e = some i) (hx : ev E x = .slice p l cap) (hl : ev E hi = .int k j) (hn : j = n) (hj : n ≤ cap) :
  exec P E (.slice t x none (some hi) none) ty w = .ok (.value (.slice p n cap)) w := by
 subst hn
 rw [uD ht hi' hx hl (by omega), add0]
 simp
theorem oU (n : Nat) {e : TypeId} {i : TypeInfo} {b off l cap : Nat} {k : IntKind} {j : Int} (ht : P.underlying t = some (.slice e)) (hi : P.info? e = some i) (hx : ev E x = .slice (some ⟨b, off, none⟩) l cap) (hl : ev E lo = .int k j) (hn : j = n) (hj : n ≤ l) (hc : n < cap) :
  exec P E (.slice t x (some lo) none none) ty w = .ok (.value (.slice (some ⟨b, off + n * i.size, none⟩) (l - n) (cap - n))) w := by
 subst hn
 rw [mq ht hi hx hl (by omega), if_neg (by simp; omega)]
 simp [dQ]
theorem wL {e : TypeId} {i : TypeInfo} {p : Option Addr} {l cap : Nat} {k k' k2 : IntKind} {j j' j2 : Int} (ht : P.underlying t = some (.slice e)) (hi' : P.info? e = some i) (hx : ev E x = .slice p l cap) (hl : ev E lo = .int k j) (hh : ev E hi = .int k' j') (hm : ev E mx = .int k2 j2)
  (hj : 0 ≤ j ∧ j ≤ j') (hj' : 0 ≤ j' ∧ j' ≤ j2) (hj2 : 0 ≤ j2 ∧ j2 ≤ cap) :
  ∃ v', (∀ w', exec P E (.slice t x (some lo) (some hi) (some mx)) ty w' = .ok (.value v') w') ∧ True := by
 refine ⟨.slice (if j2.toNat = j.toNat then p else p.map (·.add (j.toNat * i.size))) (j'.toNat - j.toNat) (j2.toNat - j.toNat), fun w => ?_, trivial⟩
 rw [je, hx]
 refine aU ?_
 rw [fx ht]
 unfold Instr.slice Instr.sliceBounds
 rw [an (run_underlying ht w)]
 simp only [Option.map_some, hl, hm, hh, bind_assoc, if_true]
 rw [an (cM hj2)]
 rw [an (cM (by omega))]
 rw [an (cM (by omega))]
 simp only [pure_bind]
 rw [an (bE hi' w)]
 rfl
theorem wE (n q : Nat) {e : TypeId} {i : TypeInfo} {p : Option Addr} {l cap : Nat} {k k' : IntKind} {j j' : Int} (ht : P.underlying t = some (.slice e)) (hi' : P.info? e = some i) (hx : ev E x = .slice p l cap) (hl : ev E lo = .int k j) (hh : ev E hi = .int k' j') (hn : j = n) (hq : j' = n + q) (hc : n + q ≤ cap) :
  exec P E (.slice t x (some lo) (some hi) none) ty w = .ok (.value (.slice (if cap = n then p else p.map (·.add (n * i.size))) q (cap - n))) w := by
 subst hn hq
 rw [pV ht hi' hx hl hh (by omega) (by omega)]
 simp
 congr 2
 omega
theorem Own.front {p : Option Addr} {n cap : Nat} {l : List α} (h : Own w (.slice p l.length cap) l) (hn : n ≤ l.length) : Own w (.slice p n cap) (l.take n) := by
 obtain ⟨p', cap', he, hc, h⟩ := h
 cases he
 refine ⟨p, cap, by rw [List.length_take, Nat.min_eq_left hn], by rw [List.length_take]; omega, ?_⟩
 cases p with
 | none =>
  obtain ⟨h1, h2⟩ := h
  subst h1
  exact ⟨by simp, h2⟩
 | some a =>
  obtain ⟨h1, c, e, fr, h2, h3, h4, h5⟩ := h
  refine ⟨h1, c, e, fr, h2, h3, h4, fun i x hx => h5 i x ?_⟩
  rw [← fi] at hx
  rw [List.getElem?_take] at hx
  split at hx
  ·exact hx
  ·cases hx
theorem AR {e : TypeId} {i : TypeInfo} {d : TypeDesc} {p : Option Addr} {cap : Nat} {vy : Value} {l m : List α} (ht : P.underlying t = some (.slice e)) (ht' : P.underlying t' = some d) (hd : d = .string ∨ ∃ e', d = .slice e')
  (hi : P.info? e = some i) (hsz : i.size = Flat.sz α) (hl : Own w (.slice p l.length cap) l) (hm : Src α P w vy m) (hx : ev E x = .slice p l.length cap) (hy : ev E y = vy) (hc : l.length + m.length ≤ cap) :
  ∃ w', exec P E (.call { callee := .builtin .append, args := #[x, y], argTypes := #[t, t'] }) ty w = .ok (.value (.slice p (l.length + m.length) cap)) w' ∧ Own w' (.slice p (l.length + m.length) cap) (l ++ m) ∧ Chg (ar (.slice p l.length cap)) w w' ∧ w'.heap.size = w.heap.size := by
 have key : ∃ w', (Builtin.append_ #[t, t'] ty #[.slice p l.length cap, vy]).run P w = .ok (.slice p (l.length + m.length) cap) w' ∧ Own w' (.slice p (l.length + m.length) cap) (l ++ m) ∧ Chg (ar (.slice p l.length cap)) w w' ∧ w'.heap.size = w.heap.size := by
  obtain ⟨p', cap', he, hlc, hp⟩ := hl
  cases he
  unfold Builtin.append_
  simp only [List.getElem?_toArray, List.getElem?_cons_zero, List.getElem?_cons_succ]
  rw [an (run_underlying ht w)]
  simp only []
  rw [an (bE hi w)]
  rw [an (run_underlying ht' w)]
  rcases hd with rfl | ⟨e', rfl⟩
  all_goals
   simp only [pure_bind, Bool.false_eq_true, if_false, Bool.not_false, if_true]
   rw [an hm.1, if_pos hc]
   have hfirst := hm.2 w rfl m.length (Nat.le_refl _)
   rw [List.take_length, ← hsz] at hfirst
   rw [an hfirst]
   cases p with
   | none =>
    obtain ⟨rfl, rfl⟩ := hp
    have hm0 : m = [] := List.eq_nil_of_length_eq_zero (by simpa using hc)
    subst hm0
    exact ⟨w, rfl, ⟨none, 0, rfl, Nat.zero_le _, rfl, rfl⟩, Chg.refl' _ _, rfl⟩
   | some a =>
    obtain ⟨b, off, sp⟩ := a
    obtain ⟨h1, c, ee, fr, h2, h3, h4, h5⟩ := hp
    simp only at h1 h2 h4 h5; subst h1
    have hlen : (aV m).length = m.length * Flat.sz α := aK m
    have hroom : off + l.length * Flat.sz α + (aV m).length ≤ c.size := by
     rw [hlen]
     have : l.length * Flat.sz α + m.length * Flat.sz α ≤ cap * Flat.sz α := by rw [← Nat.add_mul]; exact Nat.mul_le_mul_right _ hc
     omega
    simp only [dQ, hsz]
    rw [an (dL _ h2 (by simpa using hroom) h3 (by simpa using eT m))]
    refine ⟨_, rfl, ⟨some ⟨b, off, none⟩, cap, by rw [List.length_append], by simpa using hc, rfl, _, ee, fr, dq (bH h2), h3.size (bU _ _ _), by rw [bU]; exact h4, ?_⟩, ?_, cU _ _ _⟩
    ·intro k q hk
     rw [cS] at hk
     simp only at hk ⊢
     by_cases hkl : k < (aV l).length
     ·rw [List.getElem?_append_left hkl] at hk
      rw [aK] at hkl
      exact mS (by simpa using hroom) (h5 k q hk) (by omega)
     ·rw [List.getElem?_append_right (by omega)] at hk
      rw [aK] at hkl hk
      have := qF (c := c) (off := off + l.length * Flat.sz α) (vs := (aV m).toArray.toList) (by simpa using hroom) (by simpa using hk)
      rw [show off + l.length * Flat.sz α + (k - l.length * Flat.sz α) = off + k from by omega] at this
      exact this
    ·exact (Chg.set _ _ _).mono (fun b hb _ => by simpa [ar] using hb)
 obtain ⟨w', h1, h2⟩ := key
 refine ⟨w', ?_, h2⟩
 rw [nA, hx, hy]
 exact aU h1
theorem tC {e : TypeId} {i : TypeInfo} {d : TypeDesc} {p : Option Addr} {cap n q : Nat} {vy : Value} {l m : List α} (ht : P.underlying t = some (.slice e)) (ht' : P.underlying t' = some d) (hd : d = .string ∨ ∃ e', d = .slice e')
  (hi : P.info? e = some i) (hsz : i.size = Flat.sz α) (hn : l.length = n) (hq : m.length = q) (hl : Own w (.slice p n cap) l) (hm : Src α P w vy m) (hx : ev E x = .slice p n cap) (hy : ev E y = vy) (hc : n + q ≤ cap) :
  ∃ v' w', exec P E (.call { callee := .builtin .append, args := #[x, y], argTypes := #[t, t'] }) ty w = .ok (.value v') w' ∧ v' = .slice p (n + q) cap ∧ Own w' (.slice p (n + q) cap) (l ++ m) ∧ Chg (ar (.slice p n cap)) w w' ∧ w'.heap.size = w.heap.size := by
 subst hn hq
 obtain ⟨w', h1, h2⟩ := AR (ty := ty) ht ht' hd hi hsz hl hm hx hy hc
 exact ⟨_, w', h1, rfl, h2⟩
theorem lq {z : Value} {z0 : α} (hz : z.cells.toList = Flat.enc z0) (n : Nat) : (Builtin.zeroCells z.cells n).toList = aV (List.replicate n z0) := by
 have hs : z.cells.size = Flat.sz α := by have := congrArg List.length hz; rw [Flat.len] at this; simpa using this
 by_cases hp : 0 < z.cells.toList.length
 ·have h := uv hp n
  have e : z.cells.toList.toArray = z.cells := by simp
  rw [e] at h
  unfold Builtin.zeroCells
  rw [show n * z.cells.size = n * z.cells.toList.length by simp, h, hz, aV, List.flatMap_def, List.map_replicate]
 ·have h0 : Flat.sz α = 0 := by rw [← hs]; simp at hp; simpa using hp
  have h1 := aK (List.replicate n z0)
  rw [h0, Nat.mul_zero] at h1
  rw [List.eq_nil_of_length_eq_zero h1]
  unfold Builtin.zeroCells
  rw [hs, h0]; simp
theorem mA {e : TypeId} {i : TypeInfo} {z : Value} {k : IntKind} {p : Option Addr} {cap n : Nat} {l : List α} {j : Int} (m : Nat) (z0 : α) (ht : P.underlying t = some (.slice e)) (ht' : P.underlying t' = some (.int k)) (hi : P.info? e = some i) (hz : i.zero = some z) (hze : z.cells.toList = Flat.enc z0) (hsz : i.size = Flat.sz α)
  (hby : i.bytes ≤ 1024) (hn : l.length = n) (hl : Sl w (.slice p n cap) l) (hx : ev E x = .slice p n cap) (hy : ev E y = .int .i64 j) (hj : j = m) (hb : n + m ≤ 1073741824) (hc : cap < n + m) :
  ∃ v' w', exec P E (.call { callee := .builtin .append, args := #[x, y], argTypes := #[t, t'] }) ty w = .ok (.value v') w' ∧ Own w' v' (l ++ List.replicate m z0) ∧ Chg [] w w' ∧ In v' [] w.heap.size := by
 subst hj hn
 have hzs : z.cells.size = Flat.sz α := by have := congrArg List.length hze; rw [Flat.len] at this; simpa using this
 have key : ∃ v' w', (Builtin.append_ #[t, t'] ty #[.slice p l.length cap, .int .i64 m]).run P w = .ok v' w' ∧ Own w' v' (l ++ List.replicate m z0) ∧ Chg [] w w' ∧ In v' [] w.heap.size := by
  unfold Builtin.append_
  simp only [List.getElem?_toArray, List.getElem?_cons_zero, List.getElem?_cons_succ]
  rw [an (run_underlying ht w)]
  simp only []
  rw [an (bE hi w)]
  rw [an (run_underlying ht' w)]
  have happ : ∀ w' : World, (if m * i.size = 0 then (pure #[] : Sem (Array Value)) else do pure (Builtin.zeroCells (← zeroValue e).cells m)).run P w' = .ok (aV (List.replicate m z0)).toArray w' := fun w' => by
   by_cases h0 : m * i.size = 0
   ·rw [if_pos h0]
    have h1 := aK (List.replicate m z0)
    rw [List.length_replicate, ← hsz, h0] at h1
    rw [List.eq_nil_of_length_eq_zero h1]; rfl
   ·rw [if_neg h0, an (cD hi hz w'), ← lq hze m]; rfl
  simp only [pure_bind, bind_assoc, if_true, Bool.not_true, Bool.false_eq_true, if_false]
  have ha : (asInt (.int .i64 (m : Int))).run P w = .ok (m : Int) w := rfl
  rw [an ha, gU (by omega)]
  rw [if_neg (by omega)]
  rw [an (cJ hi w)]
  have hnb0 : ¬ ((m : Int) * (i.bytes : Int) > 2 ^ 48) := by
   have : m * i.bytes ≤ 1073741824 * 1024 := Nat.mul_le_mul (by omega) hby
   have h2 : ((m * i.bytes : Nat) : Int) ≤ 1073741824 * 1024 := by omega
   rw [Int.natCast_mul] at h2
   omega
  rw [if_neg hnb0]
  simp only [pure_bind, Int.toNat_natCast]
  rw [if_neg (by omega)]
  have hov : ¬ ((l.length + m : Nat) : Int) > IntKind.i64.max := by
   have : IntKind.i64.max = 9223372036854775807 := by decide
   omega
  rw [an (cJ hi w), if_neg (by intro h; exact absurd h.1 hov), an (cJ hi w)]
  have hnc := lR (l.length + m) cap (by omega)
  have hnb : ¬ Builtin.nextslicecap (l.length + m) cap * i.bytes > 2 ^ 48 := by
   have : Builtin.nextslicecap (l.length + m) cap * i.bytes ≤ (4 * 1073741824 + 2000) * 1024 := Nat.mul_le_mul (by omega) hby
   omega
  rw [if_neg hnb]
  obtain ⟨nc, hnc1, hch⟩ := jG (P := P) (w := w) (need := l.length + m) (cap := cap) (e := e)
  rw [an hch]
  rw [an (cJ hi _), an j9]
  have hf1 := ((hl.heap (w' := { w with drawn := w.drawn + 1 }) rfl).first (P := P) l.length (Nat.le_refl _))
  rw [List.take_length, ← hsz] at hf1
  rw [an hf1]
  rw [an (happ _), an (cD hi hz _)]
  refine ⟨.slice (some ⟨w.heap.size, 0, none⟩) (l ++ List.replicate m z0).length nc, _, ?_, mX (w := { w with drawn := w.drawn + 1 }) (l := l ++ List.replicate m z0) (e := e) (rest := Builtin.zeroCells z.cells (nc - (l.length + m))) (cap := nc) (by simpa using hnc1) ?_, ?_, ?_⟩
  ·rw [List.length_append, List.length_replicate, cS]
   simp only [← List.append_toArray]
   rfl
  ·rw [iE, hzs, List.length_append, List.length_replicate]
  ·exact (Chg.push { w with drawn := w.drawn + 1 } _).mono (by simp)
  ·intro b hb; right; simp only [ar, List.mem_singleton] at hb; omega
 obtain ⟨v', w', h1, h2⟩ := key
 refine ⟨v', w', ?_, h2⟩
 rw [nA, hx, hy]
 exact aU h1
theorem pX {e : TypeId} {i : TypeInfo} {z : Value} {p : Option Addr} {cap q c' n : Nat} {l : List α} (z0 : α) (ht : P.underlying t = some (.slice e)) (hi : P.info? e = some i) (hz : i.zero = some z) (hze : z.cells.toList = Flat.enc z0) (hsz : i.size = Flat.sz α)
  (hn : l.length = n) (hl : Own w (.slice p n cap) l) (hx : ev E x = .slice (if cap = n then p else p.map (·.add (n * i.size))) q c') (hq : n + q ≤ cap) :
  ∃ w', exec P E (.call { callee := .builtin .clear, args := #[x], argTypes := #[t] }) ty w = .ok (.value (.tuple #[])) w' ∧ Own w' (.slice p n cap) l ∧ Chg (ar (.slice p n cap)) w w' ∧ w'.heap.size = w.heap.size := by
 subst hn
 have e_clear : exec P E (.call { callee := .builtin .clear, args := #[x], argTypes := #[t] }) ty w = (gW (Builtin.clear_ #[t] ty #[ev E x])).run P w := by
  rw [rh]; simp only [List.map_toArray, List.map_cons, List.map_nil]; rfl
 rw [e_clear, hx]
 by_cases h0 : q = 0
 ·subst h0
  refine ⟨w, aU ?_, hl, Chg.refl' _ _, rfl⟩
  unfold Builtin.clear_
  simp only [List.getElem?_toArray, List.getElem?_cons_zero]
  rw [an (run_underlying ht w)]
  by_cases hcl : cap = l.length
  ·rw [if_pos hcl]; cases p <;> rfl
  ·rw [if_neg hcl]; cases p <;> rfl
 ·obtain ⟨p', cap', he, hlc, hp⟩ := hl
  cases he
  cases p with
  | none => obtain ⟨rfl, rfl⟩ := hp; exact absurd hq (by simp; omega)
  | some a =>
   obtain ⟨b, off, sp⟩ := a
   obtain ⟨h1, c, ee, fr, h2, h3, h4, h5⟩ := hp
   simp only at h1 h2 h4 h5; subst h1
   have hlen := aK (List.replicate q z0)
   rw [List.length_replicate] at hlen
   have hroom : off + l.length * Flat.sz α + (aV (List.replicate q z0)).length ≤ c.size := by
    rw [hlen]
    have : l.length * Flat.sz α + q * Flat.sz α ≤ cap * Flat.sz α := by rw [← Nat.add_mul]; exact Nat.mul_le_mul_right _ hq
    omega
   have hst := dL (P := P) (aV (List.replicate q z0)) h2 hroom h3 (eT _)
   refine ⟨_, aU (w' := w.setB b (.cells (eP c (off + l.length * Flat.sz α) (aV (List.replicate q z0))) ee fr)) ?_, ⟨some ⟨b, off, none⟩, cap, rfl, hlc, rfl, _, ee, fr, dq (bH h2), h3.size (bU _ _ _), by rw [bU]; exact h4, ?_⟩, (Chg.set _ _ _).mono (fun b hb _ => by simpa [ar] using hb), cU _ _ _⟩
   ·rw [if_neg (by omega)]
    unfold Builtin.clear_
    simp only [List.getElem?_toArray, List.getElem?_cons_zero, Option.map_some]
    rw [an (run_underlying ht w)]
    cases q with
    | zero => exact absurd rfl h0
    | succ q =>
     simp only [dQ, hsz]
     rw [an (cD hi hz w), lq hze, an hst]
     rfl
   ·intro k x hk
    have := (List.getElem?_eq_some_iff.1 hk).1
    rw [aK] at this
    exact mS hroom (h5 k x hk) (by simp only; omega)
def Row (w : World) (b : Nat) (c : Array Value) : Prop := ∃ e fr, w.heap[b]? = some (.cells c e fr) ∧ Soft c fr
theorem kV {e : TypeId} {i : TypeInfo} {b doff dl dcap b2 soff sl sc : Nat} {c : Array Value} {m : List α} (ht : P.underlying t = some (.slice e)) (hi : P.info? e = some i) (hsz : i.size = Flat.sz α) (hx : ev E x = .slice (some ⟨b, doff, none⟩) dl dcap) (hy : ev E y = .slice (some ⟨b2, soff, none⟩) sl sc)
  (hm : min sl dl = m.length) (hs : At w b2 soff (aV m)) (hb : Row w b c) (hr : doff + m.length * Flat.sz α ≤ c.size) :
  ∃ w', exec P E (.call { callee := .builtin .copy, args := #[x, y], argTypes := #[t, t'] }) ty w = .ok (.value (.int .i64 m.length)) w' ∧ Row w' b (eP c doff (aV m)) ∧ Chg [b] w w' ∧ w'.heap.size = w.heap.size := by
 obtain ⟨be, fr, hb, hf⟩ := hb
 refine ⟨w.setB b (.cells (eP c doff (aV m)) be fr), ?_, ⟨be, fr, dq (bH hb), hf.size (bU _ _ _)⟩, Chg.set _ _ _, cU _ _ _⟩
 rw [Cp, hx, hy]
 refine aU ?_
 unfold Builtin.copy_
 simp only [List.getElem?_toArray, List.getElem?_cons_zero, List.getElem?_cons_succ]
 rw [an (run_underlying ht w)]
 simp only []
 have hmin : Nat.min sl dl = m.length := hm
 have hfst : (Builtin.firstCells i.size (Nat.min sl dl) (.slice (some ⟨b2, soff, none⟩) sl sc)).run P w = .ok (aV m).toArray w := by
  have := fS (P := P) hs
  rw [aK] at this
  rw [hmin, hsz]; exact this
 rw [an (zE (P := P) (w := w)), an (bE hi w), an hfst]
 rw [an (dL _ hb (by simp only [List.toList_toArray]; rw [aK]; exact hr) hf (by simpa using eT _)), hmin]
 rfl
theorem tY {b off cap : Nat} {l : List α} (h : Own w (.slice (some ⟨b, off, none⟩) l.length cap) l) : ∃ c, Row w b c ∧ off + cap * Flat.sz α ≤ c.size ∧ ∀ i x, (aV l)[i]? = some x → c[off + i]? = some x := by
 obtain ⟨p, cp, he, _, h⟩ := h
 cases he
 obtain ⟨_, c, e, fr, h2, h3, h4, h5⟩ := h
 exact ⟨c, ⟨e, fr, h2, h3⟩, h4, h5⟩
theorem Row.own {b off cap n : Nat} {c : Array Value} {l : List α} (h : Row w b c) (hn : n = l.length) (hc : l.length ≤ cap) (hs : off + cap * Flat.sz α ≤ c.size) (hl : ∀ i x, (aV l)[i]? = some x → c[off + i]? = some x) : Own w (.slice (some ⟨b, off, none⟩) n cap) l := by
 obtain ⟨e, fr, h2, h3⟩ := h
 subst hn
 exact ⟨_, cap, rfl, hc, rfl, c, e, fr, h2, h3, hs, hl⟩
theorem Row.at {b off : Nat} {c : Array Value} {l : List Value} (h : Row w b c) (hl : ∀ i x, l[i]? = some x → c[off + i]? = some x) : At w b off l := by
 obtain ⟨e, fr, h2, _⟩ := h
 exact ⟨c, e, fr, h2, hl⟩
theorem tT {c : Array Value} {off cap : Nat} {l : List α} {a : α} {i : Nat} (hi : i ≤ l.length) (hc : l.length + 1 ≤ cap) (hs : off + cap * Flat.sz α ≤ c.size) (hl : ∀ i x, (aV l)[i]? = some x → c[off + i]? = some x) :
  ∀ q x, (aV (l.take i ++ a :: l.drop i))[q]? = some x → (eP (eP c (off + (i + 1) * Flat.sz α) (aV (l.drop i))) (off + i * Flat.sz α) (Flat.enc a))[off + q]? = some x := by
 intro q x hq
 have hk : (i + 1) * Flat.sz α = i * Flat.sz α + Flat.sz α := Nat.succ_mul _ _
 have hdl : (aV (l.drop i)).length = (l.length - i) * Flat.sz α := by rw [aK, List.length_drop]
 have hsum : (i + 1) * Flat.sz α + (l.length - i) * Flat.sz α ≤ cap * Flat.sz α := by rw [← Nat.add_mul]; exact Nat.mul_le_mul_right _ (by omega)
 have htl : (aV (l.take i)).length = i * Flat.sz α := by rw [aK, List.length_take, Nat.min_eq_left hi]
 have hal : (Flat.enc a).length = Flat.sz α := Flat.len a
 rw [cS, fJ] at hq
 rw [fU _ _ _ _ (by rw [bU, hal]; omega), fU _ _ _ _ (by rw [hdl]; omega), hal, hdl]
 by_cases h1 : q < i * Flat.sz α
 ·rw [List.getElem?_append_left (by omega)] at hq
  rw [if_neg (by omega), if_neg (by omega)]
  refine hl q x ?_
  rw [← fi, List.getElem?_take, if_pos h1] at hq
  exact hq
 ·rw [List.getElem?_append_right (by omega), htl] at hq
  by_cases h2 : q < (i + 1) * Flat.sz α
  ·rw [List.getElem?_append_left (by omega)] at hq
   rw [if_pos (by omega), show off + q - (off + i * Flat.sz α) = q - i * Flat.sz α by omega]; exact hq
  ·rw [List.getElem?_append_right (by omega), hal] at hq
   have := (List.getElem?_eq_some_iff.1 hq).1
   rw [if_neg (by omega), if_pos (by omega), show off + q - (off + (i + 1) * Flat.sz α) = q - i * Flat.sz α - Flat.sz α by omega]; exact hq
theorem qx {e : TypeId} {i : TypeInfo} {b b2 off la ca lb cb : Nat} {t2 : TypeId} {cs : List Value} (ht : P.underlying t = some (.slice e)) (hi : P.info? e = some i) (hB : Blk w b cs) (hb : b < w.heap.size) (hne : b ≠ b2) {c2 : Array Value} (hR : Row w b2 c2) (h2 : 0 < c2.size) :
  (Extern.SlicesOverlaps.overlaps #[t, t] #[t2] #[.slice (some ⟨b, 0, none⟩) la ca, .slice (some ⟨b2, off, none⟩) lb cb]).run P w = .ok (.bool false) w := by
 obtain ⟨e1, hB⟩ := hB
 obtain ⟨e2, fr, hR, _⟩ := hR
 obtain ⟨kB, hkB⟩ : ∃ kB, c2.size = kB + 1 := ⟨c2.size - 1, by omega⟩
 have hsa : w.shape? b = some (e1, cs.length) := by unfold World.shape?; rw [hB]; simp
 have hsb : w.shape? b2 = some (e2, kB + 1) := by unfold World.shape?; rw [hR, ← hkB]
 have hfr : ∀ o, w.frozen? ⟨b, o, none⟩ = false := fun o => by unfold World.frozen?; simp only [hB]; simp
 have hz : (Go.sizeOf e).run P w = .ok i.size w := bE hi w
 have hnb : (b != b2) = true := by simpa using hne
 have hnb' : (b == b2) = false := by simpa using hne
 change Sem.run P (α := Value) (do
  let some t := (#[t, t] : Array TypeId)[0]? | stuck "slices.overlaps: no parameter types"
  let .slice elem ← underlying t | stuck "slices.overlaps: slice type expected"
  let size ← sizeOf elem
  match (some ⟨b, 0, none⟩ : Option Addr), (some ⟨b2, off, none⟩ : Option Addr) with
  | some a, some b =>
   if la = 0 ∨ lb = 0 ∨ size = 0 then pure (Value.bool false)
   else if a.block != b.block && (← frozen a) && (← frozen b) then unsupported .addressObserved
   else do
    if a.block != b.block then do
     noView a; noView b
     if ← mayBeOne a b then return Value.bool ((← choose (.extern "sameAddr.stringBytes" 2)) == 1)
    pure (Value.bool (a.block == b.block && a.off < b.off + lb * size && b.off < a.off + la * size))
  | _, _ => pure (Value.bool false)) w = _
 by_cases h0 : la = 0 ∨ lb = 0 ∨ i.size = 0
 ·simp [Go.run_underlying ht, hz, h0]
 ·simp [Go.run_underlying ht, hz, h0, hnb, hnb', frozen, noView, viewAt, mayBeOne, stringish, shape, Sem.run, hsa, hsb, hfr]
end
end Go.Sac

end
section
namespace Go.Sac
open Go Go.ChangeShapes
theorem rE {H : Type} {enc : TypeId × Value → H} {P : Program} (hl : laidOutB P = true) {W W' : World} (hc : Chg [] W W') :
  ∀ (ts : List TypeId) (vs : List Value) (ds : List (DataW H)) (ps : List MemPlace), ts.all (fun t => P.readableRec t && decide (t < P.types.size)) = true →
   DataW.TrodAll enc P W 0 (fun _ => true) true ts vs ds ps → (∀ p ∈ ps, p.block < W.heap.size) → DataW.TrodAll enc P W' 0 (fun b => decide (b < W.heap.size)) true ts vs ds ps := by
 intro ts
 induction ts with
 | nil => intro vs ds ps _ h _; cases vs <;> cases ds <;> first | exact h | exact h.elim
 | cons t ts ih =>
  intro vs ds ps hr h hlt
  obtain ⟨v, vs', d, ds', p, q, rfl, rfl, rfl, h1, h2⟩ := trodAll_cons h
  simp only [List.all_cons, Bool.and_eq_true, decide_eq_true_eq] at hr
  have hp : ∀ x ∈ p, x.block < W.heap.size := fun x hx => hlt x (by simp [hx])
  refine ⟨p, q, WideElems.Trod_stays hl hr.1.1 hr.1.2 h1 (fun x hx => ?_) (fun x hx => by simpa using hp x hx), ih _ _ _ (by simpa using hr.2) h2 (fun x hx => hlt x (by simp [hx])), rfl⟩
  have hb := hp x hx
  cases x with
  | cell b o => exact World.cell?_of_block (w := W) (hc.2.1 b hb (by simp))
  | map b => exact hc.2.1 b hb (by simp)
theorem Chg.keptBut {W W' : World} (hc : Chg [] W W') (may : MemPlace → Prop) : W.keptBut W' may := by
 refine ⟨hc.2.2.1, hc.2.2.2, fun i hi => ?_⟩
 have h := hc.2.1 i hi (by simp)
 rw [h]
 split
 ·rename_i h1 h2
  rw [h1] at h2
  simp only [Option.some.injEq, Obj.cells.injEq] at h2
  obtain ⟨rfl, rfl, rfl⟩ := h2
  exact ⟨rfl, rfl, rfl, fun _ _ => rfl⟩
 ·rename_i h1 h2
  rw [h1] at h2
  simp only [Option.some.injEq, Obj.map.injEq] at h2
  exact .inr ⟨h2.1.symm, h2.2.symm⟩
 ·rfl
theorem zY {H : Type} {enc : TypeId × Value → H} {P : Program} {f : FuncId} {fn : Func} {s : ChangeSpec} {apart : Bool} {W : World} {args : Array Value} {ds gs : List (DataW H)} {before : List MemPlace} {bt : TypeId}
  (hl : laidOutB P = true) (hr : fn.params.toList.all (fun t => P.readableRec t && decide (t < P.types.size)) = true) (hrt : fn.resultTypes = #[bt]) (hbt : P.underlying bt = some .bool) (hv : s.vars = [])
  (hs : s.fn H (ds ++ gs) = { results := [.lit (.bool true)], args := ds }) (hW : DataW.Whole enc P fn.params.toList s.vars apart W args.toList ds gs before)
  (hc : Ret P f args W fun v W' => v = .bool true ∧ Chg [] W W') :
  Calls P f args W fun e W' => ∃ v, e = .returned v ∧ s.post enc P fn apart true false false W args v W' := by
 refine Calls.mono hc ?_
 rintro e W' ⟨v, rfl, rfl, hch⟩
 have hlt := hW.lt
 obtain ⟨p, q, hA, hV, rfl, hz, hn⟩ := id hW
 rw [hv] at hV
 obtain ⟨rfl, rfl⟩ := trodVars_none hV
 have hA' := rE hl hch _ _ _ _ hr hA (fun x hx => hlt x (by simp [hx]))
 refine ⟨_, rfl, ds, [], p ++ [], [], p, [], hW, ?_, ?_, ?_, hch.keptBut _, fun h => by cases h⟩
 ·rw [hs, hrt]
  refine ⟨[], [], ⟨1, ?_⟩, rfl, rfl⟩
  simp [Value.cells, DataW.trod, hbt]
 ·rw [hs]; exact hA'
 ·rw [hs, hv]; rfl
def RdF (P : Program) (t : TypeId) (α : Type) [Flat α] (ok : World → α → Prop) : Prop :=
 ∀ {H : Type} {enc : TypeId × Value → H} {w : World} {base : Nat} {sp : Nat → Bool} {held : Bool} {fuel : Nat} {cs : List Value} {x : DataW H × List MemPlace},
  DataW.trod enc P w base sp held fuel t cs = some x → ∃ a : α, cs = Flat.enc a ∧ ok w a
def okI (_ : World) (n : Int) : Prop := -9223372036854775808 ≤ n ∧ n < 9223372036854775808
def okT {α : Type} (_ : World) (_ : α) : Prop := True
end Go.Sac

end
section
namespace Go.Sac
open Go Go.ChangeShapes
abbrev gb := { v : Value // ∃ p n c, v = .slice p n c }
instance : Flat gb := ⟨1, fun v => [v.1], fun _ => rfl, fun v x h => by
 simp only [List.mem_singleton] at h; subst h
 obtain ⟨v, p, n, c, rfl⟩ := v; rfl⟩
structure StepV where
 what : Int
 i : Int
 kek : UInt8
 key : UInt8
 power : Int
 ch : gb
instance : Flat StepV := ⟨6, fun s => [.int .i64 s.what, .int .i64 s.i, .int .u8 s.kek.toNat, .int .u8 s.key.toNat, .int .i64 s.power, s.ch.1], fun _ => rfl, fun s x h => by
 obtain ⟨a, b, c, d, e, v, p, n, c', rfl⟩ := s
 simp only [List.mem_cons, List.not_mem_nil, or_false] at h
 rcases h with rfl | rfl | rfl | rfl | rfl | rfl <;> rfl⟩
def step0 : StepV := ⟨0, 0, 0, 0, 0, ⟨.slice none 0 0, _, _, _, rfl⟩⟩
def okStep (w : World) (s : StepV) : Prop := okI w s.what ∧ okI w s.i ∧ okI w s.power ∧ ∃ l : List UInt8, SlE w s.ch.1 l
theorem tZ {P : Program} {H : Type} {enc : TypeId × Value → H} {W : World} {base b0 : Nat} {r : Reach} {t : TypeId} {v : Value} {d : DataW H} {ps : List MemPlace} {sp : Nat → Bool} {held : Bool}
  (ht : P.underlying t = some (.int .u8)) (hval : Value.okWide P W r b0 t v) (hd : DataW.Trod enc P W base sp held t v d ps) : ∃ a : UInt8, v = .int .u8 a.toNat := by
 obtain ⟨n, rfl, _, _, hw⟩ := open_int ht hval hd
 have hw : 0 ≤ n ∧ n ≤ 255 := by
  simp only [Lit.wf, Bool.and_eq_true, decide_eq_true_eq] at hw
  exact hw
 refine ⟨UInt8.ofNat n.toNat, ?_⟩
 rw [UInt8.toNat_ofNat']
 congr 1
 omega
theorem arr_of {args : Array Value} {l : List Value} (h : args.toList = l) : args = l.toArray := by subst h; rfl
end Go.Sac

end
section
namespace Go.Sac
open Go
structure MPg where
 used : Bool
 fresh : Bool
 written : Bool
 was : Bool
 b : List UInt8
deriving DecidableEq
instance : Flat MPg := ⟨5, fun p => [.bool p.used, .bool p.fresh, .bool p.written, .bool p.was, str p.b], fun _ => rfl, fun s x h => by
 simp only [List.mem_cons, List.not_mem_nil, or_false] at h
 rcases h with rfl | rfl | rfl | rfl | rfl <;> rfl⟩
def pg0 : MPg := ⟨false, false, false, false, []⟩
structure Mdl where
 p : List MPg
 old : List MPg
 root : UInt32
 oldRoot : UInt32
 txt : List UInt8
 oldTxt : List UInt8
def Mdl.zero (n : Nat) : Mdl := ⟨List.replicate n pg0, List.replicate n pg0, 0, 0, [], []⟩
def mdC (M : Mdl) (pv ov : Value) : List Value := [pv, ov, .int .u32 M.root.toNat, .int .u32 M.oldRoot.toNat, str M.txt, str M.oldTxt]
def MF (mb : Nat) (pv ov : Value) : List Nat := mb :: (ar pv ++ ar ov)
structure MAt (w : World) (mb : Nat) (pv ov : Value) (M : Mdl) : Prop where
 blk : Blk w mb (mdC M pv ov)
 p : Own w pv M.p
 old : Own w ov M.old
 np : mb ∉ ar pv
 no : mb ∉ ar ov
 apart : ∀ x ∈ ar pv, x ∉ ar ov
section
variable {w w' : World} {mb : Nat} {pv ov : Value} {M : Mdl}
theorem MAt.chg {S : List Nat} (h : MAt w mb pv ov M) (hm : Chg S w w') (hn : ∀ x ∈ MF mb pv ov, x ∉ S) : MAt w' mb pv ov M :=
 ⟨h.blk.chg hm (hn mb (by simp [MF])), h.p.mod hm (fun x hx => hn x (by simp [MF, hx])), h.old.mod hm (fun x hx => hn x (by simp [MF, hx])), h.np, h.no, h.apart⟩
theorem MAt.chg0 (h : MAt w mb pv ov M) (hm : Chg [] w w') : MAt w' mb pv ov M := h.chg hm (by simp)
theorem MAt.lt (h : MAt w mb pv ov M) : ∀ x ∈ MF mb pv ov, x < w.heap.size := by
 intro x hx
 simp only [MF, List.mem_cons, List.mem_append] at hx
 rcases hx with rfl | hx | hx
 ·exact h.blk.lt
 ·exact h.p.sl.lt x hx
 ·exact h.old.sl.lt x hx
end
def k39 : List UInt8 := 0 :: 0 :: 0 :: 9 :: List.replicate 28 0
end Go.Sac

end
section
namespace Go.Sac
open Go
def upU (i : Nat) : PgF := fun j => decide (j.toNat < i)
end Go.Sac

end
section
namespace Go.Sac
open Go
theorem nT {α : Type} [DecidableEq α] : ∀ l m : List α, l.Nodup → (∀ x ∈ l, x ∈ m) → l.length ≤ m.length
 | [], _, _, _ => Nat.zero_le _
 | a :: l, m, hn, h => by
  have hn' := List.nodup_cons.1 hn
  have h1 := nT l (m.erase a) hn'.2 (fun x hx => (List.mem_erase_of_ne (fun e => by subst e; exact hn'.1 hx)).2 (h x (List.mem_cons_of_mem _ hx)))
  have hm := h a List.mem_cons_self
  have h2 := List.length_pos_of_mem hm
  rw [List.length_erase_of_mem hm] at h1
  rw [List.length_cons]; omega
structure Ext (n : Nat) (P P' : Pg) (V V' : UInt32 → Bs) (made : List UInt32) : Prop where
 used : P'.now.used = fun x => made.elem x || P.now.used x
 writ : P'.now.written = fun x => made.elem x || P.now.written x
 new : ∀ x ∈ made, P.free x = true ∧ x.toNat < n
 nodup : made.Nodup
 kept : P'.kept = P.kept
 at_ : P'.at_ = P.at_
 old : ∀ x, P.now.written x = true → V' x = V x
section
variable {n : Nat} {P P' P'' : Pg} {V V' V'' : UInt32 → Bs} {made more : List UInt32}
theorem Ext.refl (n : Nat) (P : Pg) (V : UInt32 → Bs) : Ext n P P V V [] :=
 ⟨by funext x; rfl, by funext x; rfl, fun x h => by simp at h, List.nodup_nil, rfl, rfl, fun _ _ => rfl⟩
theorem Ext.trans (h : Ext n P P' V V' made) (h' : Ext n P' P'' V' V'' more) : Ext n P P'' V V'' (made ++ more) := by
 have hfree : ∀ x, P'.free x = true → P.free x = true ∧ x ∉ made := fun x hx => by
  unfold Pg.free at hx ⊢
  rw [h.used, h.kept] at hx
  simp only [Bool.and_eq_true, Bool.not_eq_true', Bool.or_eq_false_iff] at hx
  refine ⟨by rw [hx.1.2, hx.2]; rfl, fun hm => ?_⟩
  rw [List.elem_eq_true_of_mem hm] at hx; exact absurd hx.1.1 (by simp)
 refine ⟨?_, ?_, fun x hx => ?_, ?_, h'.kept.trans h.kept, h'.at_.trans h.at_, fun x hx => ?_⟩
 ·rw [h'.used, h.used]; funext x
  have : (made ++ more).elem x = (made.elem x || more.elem x) := by simp [List.elem_eq_mem]
  show (more.elem x || (made.elem x || _)) = _
  rw [this, Bool.or_assoc, Bool.or_left_comm]
 ·rw [h'.writ, h.writ]; funext x
  have : (made ++ more).elem x = (made.elem x || more.elem x) := by simp [List.elem_eq_mem]
  show (more.elem x || (made.elem x || _)) = _
  rw [this, Bool.or_assoc, Bool.or_left_comm]
 ·rcases List.mem_append.1 hx with hx | hx
  ·exact h.new x hx
  ·exact ⟨(hfree x (h'.new x hx).1).1, (h'.new x hx).2⟩
 ·rw [List.nodup_append]
  exact ⟨h.nodup, h'.nodup, fun a ha b hb e => by subst e; exact (hfree a (h'.new a hb).1).2 ha⟩
 ·rw [h'.old x (by rw [h.writ]; simp only [hx, Bool.or_true]), h.old x hx]
theorem Ext.one {i : UInt32} {l : Bs} {cnt : UInt32} {g : UInt32 → Option UInt64} (hf : P.free i = true) (hi : i.toNat < n) (hw : P.now.written i = false) :
  Ext n P { P with count := cnt, now := { P.now with used := cO P.now.used i, written := cO P.now.written i }, gens := g } V (rG V i l) [i] := by
 refine ⟨?_, ?_, fun x hx => ?_, List.nodup_cons.2 ⟨by simp, List.nodup_nil⟩, rfl, rfl, fun x hx => ?_⟩
 ·funext x
  show (decide (x = i) || P.now.used x) = _
  simp [List.elem_eq_mem]
 ·funext x
  show (decide (x = i) || P.now.written x) = _
  simp [List.elem_eq_mem]
 ·rw [List.mem_singleton] at hx; subst hx; exact ⟨hf, hi⟩
 ·unfold rG
  rw [if_neg (fun e => by subst e; rw [hw] at hx; cases hx)]
theorem Ext.mem (h : Ext n P P' V V' made) {x : UInt32} (hx : x ∈ made) : P'.now.used x = true ∧ P'.now.written x = true := by
 rw [h.used, h.writ]
 have h0 := List.elem_eq_true_of_mem hx
 exact ⟨by show (made.elem x || _) = true; rw [h0]; rfl, by show (made.elem x || _) = true; rw [h0]; rfl⟩
theorem Ext.wr (h : Ext n P P' V V' made) {x : UInt32} (hx : P.now.written x = true) : P'.now.written x = true := by rw [h.writ]; simp [hx]
theorem Ext.us (h : Ext n P P' V V' made) {x : UInt32} (hx : P.now.used x = true) : P'.now.used x = true := by rw [h.used]; simp [hx]
theorem Ext.free (h : Ext n P P' V V' made) {x : UInt32} : P'.free x = true ↔ P.free x = true ∧ x ∉ made := by
 rw [free_iff, free_iff, h.used, h.kept]
 simp only [Bool.or_eq_false_iff]
 constructor
 ·rintro ⟨⟨h1, h2⟩, h3⟩
  exact ⟨⟨h2, h3⟩, fun hm => by rw [List.elem_eq_true_of_mem hm] at h1; cases h1⟩
 ·rintro ⟨⟨h1, h2⟩, h3⟩
  exact ⟨⟨by simpa [List.elem_eq_mem] using h3, h1⟩, h2⟩
theorem Ext.fresh (h : Ext n P P' V V' made) {x : UInt32} : P'.fresh x = true ↔ x ∈ made ∨ P.fresh x = true := by
 rw [fresh_iff, fresh_iff, h.used, h.kept]
 constructor
 ·rintro ⟨h1, h2⟩
  simp only [Bool.or_eq_true] at h1
  rcases h1 with h1 | h1
  ·exact .inl (List.mem_of_elem_eq_true h1)
  ·exact .inr ⟨h1, h2⟩
 ·rintro (h1 | ⟨h1, h2⟩)
  ·exact ⟨by show (made.elem x || _) = true; rw [List.elem_eq_true_of_mem h1]; rfl, (free_iff.1 (h.new x h1).1).2⟩
  ·exact ⟨by simp [h1], h2⟩
theorem Ext.undo (h : Ext n P P' V V' made) (hw : ∀ x, P.now.written x = true → P.now.used x = true) (hu : P''.now.used = fun x => !made.elem x && P'.now.used x) (hwr : P''.now.written = fun x => !made.elem x && P'.now.written x) (hk : P''.kept = P'.kept) (ha : P''.at_ = P'.at_) : Ext n P P'' V V' [] := by
 have hm : ∀ x, made.elem x = true → P.now.used x = false := fun x hx => (free_iff.1 (h.new x (List.mem_of_elem_eq_true hx)).1).1
 refine ⟨?_, ?_, fun x hx => by simp at hx, List.nodup_nil, hk.trans h.kept, ha.trans h.at_, h.old⟩
 ·rw [hu, h.used]; funext x
  show (!made.elem x && (made.elem x || P.now.used x)) = P.now.used x
  cases hx : made.elem x with
  | false => rfl
  | true => rw [hm x hx]; rfl
 ·rw [hwr, h.writ]; funext x
  show (!made.elem x && (made.elem x || P.now.written x)) = P.now.written x
  cases hx : made.elem x with
  | false => rfl
  | true =>
   cases hq : P.now.written x with
   | false => rfl
   | true => have h1 := hm x hx; rw [hw x hq] at h1; cases h1
theorem Ext.room (h : Ext n P P' V V' made) (hn : n ≤ 400) (h0 : ∀ j, j < n → P'.free (UInt32.ofNat j) = false) : dN P n ≤ made.length := by
 have hsub : ∀ i ∈ (List.range n).filter (fun i => P.free (UInt32.ofNat i)), i ∈ made.map (·.toNat) := fun i hi => by
  rw [List.mem_filter, List.mem_range] at hi
  have h1 := h0 i hi.1
  by_cases hm : UInt32.ofNat i ∈ made
  ·refine List.mem_map.2 ⟨_, hm, ?_⟩
   rw [UInt32.toNat_ofNat']; omega
  ·rw [h.free.2 ⟨hi.2, hm⟩] at h1; cases h1
 have hnd : ((List.range n).filter fun i => P.free (UInt32.ofNat i)).Nodup := List.nodup_range.filter _
 have := nT _ _ hnd hsub
 rwa [List.length_map] at this
end
end Go.Sac

end
section
namespace Go.Sac
open Go
structure Sp where
 lo : Bs
 hi : Bs
 fin : Bool
def Sp.has (s : Sp) (k : Bs) : Bool := !ltB k s.lo && (!s.fin || ltB k s.hi)
def Sp.emp (s : Sp) : Bool := s.fin && !ltB s.lo s.hi
def Sp.kid (s : Sp) (ks : List Bs) (i : Nat) : Sp :=
 let lo := if 0 < i then vD s.lo (ks.getD (i - 1) []) else s.lo
 if i < ks.length ∧ (s.fin = false ∨ ltB (ks.getD i []) s.hi = true) then ⟨lo, ks.getD i [], true⟩ else ⟨lo, s.hi, s.fin⟩
def ey (s : Sp) (m : List Pr) : List Pr := m.filter fun p => s.has p.1
theorem maxB_le {a b k : Bs} (h1 : ltB k a = false) (h2 : ltB k b = false) : ltB k (vD a b) = false := by
 unfold vD; split <;> assumption
theorem Sp.kid_has {s : Sp} {ks : List Bs} {i : Nat} {k : Bs} (h : s.has k = true) (h1 : 0 < i → ltB k (ks.getD (i - 1) []) = false) (h2 : i < ks.length → ltB k (ks.getD i []) = true) : (s.kid ks i).has k = true := by
 unfold Sp.has at h
 simp only [Bool.and_eq_true, Bool.not_eq_true', Bool.or_eq_true] at h
 have hlo : ltB k (if 0 < i then vD s.lo (ks.getD (i - 1) []) else s.lo) = false := by
  split
  ·rename_i hi; exact maxB_le h.1 (h1 hi)
  ·exact h.1
 unfold Sp.kid
 simp only
 split
 ·rename_i hc
  unfold Sp.has
  simp only [hlo, h2 hc.1, Bool.not_false, Bool.true_and, Bool.or_true]
 ·unfold Sp.has
  simp only [hlo, Bool.not_false, Bool.true_and, Bool.or_eq_true, Bool.not_eq_true']
  exact h.2
theorem Sp.emp_has {s : Sp} {k : Bs} (h : s.emp = true) : s.has k = false := by
 unfold Sp.emp at h
 simp only [Bool.and_eq_true, Bool.not_eq_true'] at h
 cases hh : s.has k with
 | false => rfl
 | true =>
  unfold Sp.has at hh
  rw [h.1] at hh
  simp only [Bool.and_eq_true, Bool.not_eq_true', Bool.not_true, Bool.false_or] at hh
  rw [kL hh.1 hh.2] at h; cases h.2
theorem Bg {s : Sp} {m : List Pr} (h : ∀ p ∈ m, s.has p.1 = false) : ey s m = [] := hH h
theorem mP (s : Sp) (a b : List Pr) : ey s (a ++ b) = ey s a ++ ey s b := List.filter_append ..
theorem sD {α : Type} (o a b : List α) (k : Nat) : o ++ a.take (k - o.length) ++ b.take (k - (o ++ a.take (k - o.length)).length) = o ++ (a ++ b).take (k - o.length) := by
 rw [List.append_assoc, List.take_append, List.length_append, List.length_take]
 congr 2
 congr 1
 omega
theorem sE {α : Type} (o a : List α) (k : Nat) (h : k ≤ o.length) : o ++ a.take (k - o.length) = o := by
 rw [Nat.sub_eq_zero_of_le h, List.take_zero, List.append_nil]
theorem Seps.kid {x : List Pr} : ∀ {ks : List Bs} {ms : List (List Pr)} {i : Nat}, Seps ks ms → ms[i]? = some x → (∀ j, j < i → ∀ p ∈ x, ltB p.1 (ks.getD j []) = false) ∧ (i < ks.length → ∀ p ∈ x, ltB p.1 (ks.getD i []) = true)
 | [], [m], i, _, hx => by
  cases i with
  | zero => exact ⟨fun j hj => by omega, fun h => by simp at h⟩
  | succ i => simp at hx
 | [], [], _, h, _ => h.elim
 | [], _ :: _ :: _, _, h, _ => h.elim
 | _ :: _, [], _, h, _ => h.elim
 | k :: ks, m :: ms, 0, h, hx => by
  have hx : m = x := Option.some.inj hx
  subst hx
  exact ⟨fun j hj => by omega, fun _ p hp => h.1 p hp⟩
 | k :: ks, m :: ms, i + 1, h, hx => by
  have hx : ms[i]? = some x := hx
  obtain ⟨q1, q2⟩ := Seps.kid h.2.2 hx
  refine ⟨fun j hj p hp => ?_, fun hi p hp => q2 (by simpa using hi) p hp⟩
  cases j with
  | zero => exact h.2.1 p (List.mem_flatten.2 ⟨x, List.mem_of_getElem? hx, hp⟩)
  | succ j => exact q1 j (by omega) p hp
theorem Seps.key_has {s : Sp} : ∀ {ks : List Bs} {ms : List (List Pr)}, Seps ks ms → (∀ m ∈ ms, m ≠ []) → (∀ p ∈ ms.flatten, s.has p.1 = true) → ∀ k ∈ ks, s.has k = true
 | [], _, _, _, _ => fun k hk => by simp at hk
 | _ :: _, [], h, _, _ => h.elim
 | k :: ks, m :: ms, h, hn, hp => fun c hc => by
  have hp' : ∀ p ∈ ms.flatten, s.has p.1 = true := fun p hq => hp p (by rw [List.flatten_cons]; exact List.mem_append_right _ hq)
  rcases List.mem_cons.1 hc with rfl | hc
  ·obtain ⟨p1, h1⟩ := List.exists_mem_of_ne_nil _ (hn m List.mem_cons_self)
   have hl := h.2.2.len
   obtain ⟨m2, ms', rfl⟩ : ∃ m2 ms', ms = m2 :: ms' := by
    cases ms with
    | nil => simp at hl
    | cons a b => exact ⟨a, b, rfl⟩
   obtain ⟨p2, h2⟩ := List.exists_mem_of_ne_nil _ (hn m2 (by simp))
   have q1 := hp p1 (by rw [List.flatten_cons]; exact List.mem_append_left _ h1)
   have q2 := hp' p2 (by rw [List.flatten_cons]; exact List.mem_append_left _ h2)
   have r1 := h.1 p1 h1
   have r2 := h.2.1 p2 (by rw [List.flatten_cons]; exact List.mem_append_left _ h2)
   unfold Sp.has at q1 q2 ⊢
   simp only [Bool.and_eq_true, Bool.not_eq_true', Bool.or_eq_true] at q1 q2 ⊢
   refine ⟨?_, q2.2.imp id (fun q => kL r2 q)⟩
   cases hh : ltB c s.lo with
   | false => rfl
   | true => rw [dA r1 hh] at q1; cases q1.1
  ·exact Seps.key_has h.2.2 (fun x hx => hn x (List.mem_cons_of_mem _ hx)) hp' c hc
end Go.Sac

end
section
namespace Go.Sac
open Go
theorem Seps.keys_lo {k : Bs} : ∀ {ks : List Bs} {ms : List (List Pr)}, Seps ks ms → (∀ m ∈ ms, m ≠ []) → Below ms.flatten k → ∀ c ∈ ks, ltB c k = true
 | [], _, _, _, _ => fun c hc => by simp at hc
 | _ :: _, [], h, _, _ => h.elim
 | c :: ks, m :: ms, h, hn, hb => fun x hx => by
  rw [List.flatten_cons, Below.app] at hb
  have hn' : ∀ m ∈ ms, m ≠ [] := fun m hm => hn m (List.mem_cons_of_mem _ hm)
  rcases List.mem_cons.1 hx with rfl | hx
  ·cases ms with
   | nil => exact absurd h.2.2.len (by simp)
   | cons m' ms =>
    obtain ⟨p, hp⟩ := List.exists_mem_of_ne_nil _ (hn' m' List.mem_cons_self)
    have hp' : p ∈ (m' :: ms).flatten := by rw [List.flatten_cons]; exact List.mem_append_left _ hp
    exact kL (h.2.1 p hp') (hb.2 p hp')
  ·exact Seps.keys_lo h.2.2 hn' hb.2 x hx
theorem Seps.keys_hi {k : Bs} : ∀ {ks : List Bs} {ms : List (List Pr)}, Seps ks ms → (∀ m ∈ ms, m ≠ []) → Above ms.flatten k → ∀ c ∈ ks, ltB k c = true
 | [], _, _, _, _ => fun c hc => by simp at hc
 | _ :: _, [], h, _, _ => h.elim
 | c :: ks, m :: ms, h, hn, hb => fun x hx => by
  rw [List.flatten_cons, Above.app] at hb
  rcases List.mem_cons.1 hx with rfl | hx
  ·obtain ⟨p, hp⟩ := List.exists_mem_of_ne_nil _ (hn m List.mem_cons_self)
   exact kL (hb.1 p hp) (h.1 p hp)
  ·exact Seps.keys_hi h.2.2 (fun m hm => hn m (List.mem_cons_of_mem _ hm)) hb.2 x hx
theorem KidsT.some {V : UInt32 → Bs} {d : Nat} {ts : List Kd} (h : KidsT V d ts) : ∀ m ∈ msT ts, m ≠ [] := fun m hm => by
 obtain ⟨t, ht, rfl⟩ := List.mem_map.1 hm
 exact (h t ht).2
theorem CT.join {V : UInt32 → Bs} {d : Nat} {k1 k2 : List Bs} {i1 i2 p1 p2 : List UInt32} {m1 m2 : List Pr} {k : Bs} (h1 : CT V (d + 1) (.br k1 i1) p1 m1) (h2 : CT V (d + 1) (.br k2 i2) p2 m2) (hb : Below m1 k) (ha : Above m2 k) (hk : jv k) :
  CT V (d + 1) (.br (k1 ++ k :: k2) (i1 ++ i2)) (p1 ++ p2) (m1 ++ m2) := by
 obtain ⟨t1, rfl, o1, rfl, rfl, s1, q1⟩ := h1
 obtain ⟨t2, rfl, o2, rfl, rfl, s2, q2⟩ := h2
 have hb' : Below (msT t1).flatten k := by rw [gY]; exact hb
 have ha' : Above (msT t2).flatten k := by rw [gY]; exact ha
 have hlo := s1.keys_lo q1.some hb'
 have hhi := s2.keys_hi q2.some ha'
 refine ⟨t1 ++ t2, (fA _ _).symm, ⟨fun c hc => ?_, ?_⟩, (dy _ _).symm, (eF _ _).symm, by rw [fa]; exact Seps.join s2 ha' s1 hb' hlo, KidsT.app.2 ⟨q1, q2⟩⟩
 ·rcases List.mem_append.1 hc with hc | hc
  ·exact o1.1 c hc
  ·rcases List.mem_cons.1 hc with rfl | hc
   ·exact hk
   ·exact o2.1 c hc
 ·unfold il
  rw [List.pairwise_append]
  refine ⟨o1.2, List.pairwise_cons.2 ⟨hhi, o2.2⟩, fun a hA b hB => ?_⟩
  rcases List.mem_cons.1 hB with rfl | hB
  ·exact hlo a hA
  ·exact dA (hlo a hA) (hhi b hB)
theorem Hole.nbr {V : UInt32 → Bs} {d : Nat} {K1 K2 : List Bs} {A B : List Kd} {m : List Pr} (h : Hole V (d + 1) K1 K2 A B m) (hne : K1 ++ K2 ≠ []) :
  ∃ (z : Bool) (L1 : List Bs) (k : Bs) (L2 : List Bs) (C D : List Kd) (t : Kd), K1 ++ K2 = L1 ++ k :: L2 ∧ C.length = L1.length ∧ jv k ∧ isT V (d + 1) t.1 t.2.1 t.2.2 ∧ t.2.2 ≠ [] ∧ (∀ x ∈ t.2.1, x ∈ pgT A ++ pgT B) ∧ (A.length = 0 ↔ z = true) ∧ A.length = C.length + (!z).toNat ∧
   (∀ i0 : UInt32, ∃ l r, aT A ++ i0 :: aT B = aT C ++ l :: r :: aT D ∧ (bif z then r else l) = t.1) ∧
   ∀ (kk : List Bs) (ik pk : List UInt32) (ky : List Bs) (iy py : List UInt32), CT V (d + 1) (.br kk ik) pk m → CT V (d + 1) (.br ky iy) py t.2.2 → t.2.1 = t.1 :: py → ∃ mm pp,
    CT V (d + 1) (.br ((bif z then kk else ky) ++ k :: (bif z then ky else kk)) ((bif z then ik else iy) ++ (bif z then iy else ik))) pp mm ∧ Hole V (d + 1) L1 L2 C D mm ∧ prT C ++ (mm ++ prT D) = prT A ++ (m ++ prT B) ∧ (pgT C ++ (pp ++ pgT D) ++ [t.1]).Perm (pgT A ++ (pk ++ pgT B)) := by
 have hA : A = [] ∨ ∃ C t, A = C ++ [t] := by
  cases hA : A with
  | nil => exact .inl rfl
  | cons a l => exact .inr ⟨_, _, (List.dropLast_concat_getLast (List.cons_ne_nil a l)).symm⟩
 rcases hA with rfl | ⟨C, t, rfl⟩
 ·have hl := h.la
  cases K1 with
  | cons => simp at hl
  | nil =>
   cases K2 with
   | nil => exact absurd rfl hne
   | cons k L2 =>
    have hb := h.lb
    cases B with
    | nil => simp at hb
    | cons t D =>
     have hs : Seps (k :: L2) (m :: t.2.2 :: msT D) := h.seps
     have hk := h.keys.1 k (by simp)
     have hq := KidsT.cons.1 h.kb
     have hab : Above t.2.2 k := fun p hp => hs.2.1 p (by rw [List.flatten_cons]; exact List.mem_append_left _ hp)
     refine ⟨true, [], k, L2, [], D, t, rfl, rfl, hk, hq.1.1, hq.1.2, fun x hx => by rw [dO]; simp [hx], by simp, rfl, fun i0 => ⟨i0, t.1, rfl, rfl⟩, fun kk ik pk ky iy py h1 h2 hp => ⟨m ++ t.2.2, pk ++ py, h1.join h2 hs.1 hab hk, h.mergeR, by rw [eB]; simp, ?_⟩⟩
     rw [dO, hp, List.perm_iff_count]
     intro x
     simp only [List.count_append, List.count_cons, List.count_nil]
     omega
 ·have hl := h.la
  rw [List.length_append, List.length_singleton] at hl
  have hn1 : K1 ≠ [] := fun e => by rw [e] at hl; simp at hl
  obtain ⟨L1, k, rfl⟩ : ∃ L1 k, K1 = L1 ++ [k] := ⟨K1.dropLast, K1.getLast hn1, (List.dropLast_concat_getLast hn1).symm⟩
  rw [List.length_append, List.length_singleton] at hl
  have hs := h.seps
  rw [fa, List.append_assoc, List.append_assoc, List.singleton_append] at hs
  have hs2 : Seps (k :: K2) (t.2.2 :: m :: msT B) := Seps.drop (by rw [msT, List.length_map]; omega) hs
  have hk := h.keys.1 k (by simp)
  have hq := KidsT.cons.1 (KidsT.app.1 h.ka).2
  have hab : Above m k := fun p hp => hs2.2.1 p (by rw [List.flatten_cons]; exact List.mem_append_left _ hp)
  refine ⟨false, L1, k, K2, C, B, t, by simp, by omega, hk, hq.1.1, hq.1.2, fun x hx => by rw [dy, dO]; simp [hx], by simp, by simp, fun i0 => ⟨t.1, i0, by rw [fA]; simp [aT], rfl⟩, fun kk ik pk ky iy py h1 h2 hp => ⟨t.2.2 ++ m, py ++ pk, h2.join h1 hs2.1 hab hk, h.mergeL, by rw [eF, eB]; simp [prT], ?_⟩⟩
  rw [dy, dO, hp, List.perm_iff_count]
  intro x
  simp only [List.count_append, List.count_cons, List.count_nil, pgT, List.flatMap_nil]
  omega
end Go.Sac

end
section
namespace Go.Sac
open Go Go.Maps Go.Proofs
abbrev jA (q : IntKind) : Int → Value := Value.int q
theorem Cj {q : IntKind} {x y : Int} (h : jA q x = jA q y) : x = y := by simpa [jA] using h
theorem xd {H : Type} (q : IntKind) {es : List (Lit × DataW H)} (hp : es.Pairwise (fun p q => p.1 ≠ q.1)) (hk : ∀ p ∈ es, ∃ x, p.1 = .int q x) {ss : List Int} (hnd : ss.Nodup)
  (hm : ∀ x, x ∈ ss ↔ has (.map es) (.int q x) = true) : ss.Perm (intKeys (.map es)) := by
 refine (List.perm_ext_iff_of_nodup hnd ?_).2 fun x => ?_
 ·show (es.map fun p => intOf p.1).Nodup
  refine List.pairwise_map.2 (hp.imp_of_mem fun {p q} hp' hq' hne e => hne ?_)
  obtain ⟨a, ha⟩ := hk p hp'
  obtain ⟨b, hb⟩ := hk q hq'
  rw [ha, hb] at e ⊢
  exact congrArg _ e
 ·rw [hm x, has_eq, List.any_eq_true]
  show _ ↔ x ∈ es.map fun p => intOf p.1
  rw [List.mem_map]
  constructor
  ·rintro ⟨p, hp', hs⟩
   obtain ⟨a, ha⟩ := hk p hp'
   rw [ha] at hs
   exact ⟨p, hp', by rw [ha]; simpa [Lit.sameKey, intOf] using hs⟩
  ·rintro ⟨p, hp', rfl⟩
   obtain ⟨a, ha⟩ := hk p hp'
   exact ⟨p, hp', by rw [ha]; simp [Lit.sameKey, intOf]⟩
def Came {H : Type} (q : IntKind) (D0 : DataW H) (left : Lit → Bool) (ss : List Int) : Prop := ss.Nodup ∧ ∀ x, x ∈ ss ↔ (has D0 (.int q x) = true ∧ left (.int q x) = false)
section
variable {H : Type} {q : IntKind} {D0 : DataW H} {left : Lit → Bool} {ss : List Int}
theorem Came.start (q : IntKind) (D0 : DataW H) : Came q D0 (has D0) [] := ⟨List.nodup_nil, fun x => by cases has D0 (.int q x) <;> simp⟩
theorem Came.step (h : Came q D0 left ss) {x : Int} {y : DataW H} (hlk : left (.int q x) = true) (hat : ∀ zd, D0.atKey (.int q x) zd = y) : Came q D0 (fun z => left z && !z.sameKey (.int q x)) (ss ++ [x]) := by
 have hhas : has D0 (.int q x) = true := has_true_of_atKey hat
 have hnew : x ∉ ss := fun hx => by have := ((h.2 x).1 hx).2; rw [hlk] at this; cases this
 refine ⟨List.nodup_append.2 ⟨h.1, by simp, fun a ha b hb => by simp at hb; subst hb; exact fun e => hnew (e ▸ ha)⟩, fun y => ?_⟩
 by_cases hy : y = x
 ·subst hy; simp [hhas, Lit.sameKey]
 ·simp [h.2 y, hy, Lit.sameKey]
variable {P : Program} {k : TypeId} {R : Value → Option (DataW H × List MemPlace)} {w : World} {b n : Nat}
theorem Came.perm (h : Came q D0 left ss) (hown : w.ownsMap P k R b n D0) (K : Keyed P k) (hk : P.underlying k = some (.int q)) (hl : ∀ kl, left kl = false) : ss.Perm (intKeys D0) := by
 obtain ⟨es, hD, hpw, _⟩ := hown.entries K
 obtain ⟨es', hD', hko⟩ := hown.keysOf
 obtain rfl : es = es' := by rw [hD] at hD'; simpa using hD'
 subst hD
 exact xd q hpw (fun p hp => by obtain ⟨v, hv⟩ := hko p hp; obtain ⟨x, _, hx, _⟩ := Maps.keyOf_int_inv hk hv; exact ⟨x, hx⟩) h.1 (fun x => by rw [h.2 x, hl]; simp)
end
theorem rL {P : Program} {kt : TypeId} {w : World} {r : Nat} {m : List (UInt32 × Value)} (hk : P.underlying kt = some (.int .u32)) (hm : MapAt w r m) (hl : m.length ≤ maxLen) :
  ∃ D0 : DataW Unit, w.ownsMap P kt (fun _ => some (.lit (.bool true), [])) r m.length D0 ∧ (intKeys D0).Perm (m.map fun p => (p.1.toNat : Int)) ∧ Maps.size D0 = m.length := by
 obtain ⟨es, cl, hb, he, hn, hbn, hlt⟩ := hm
 have hlen : es.size = m.length := by have := congrArg List.length he; simpa using this
 have hkey : ∀ a : UInt32, keyOf P kt (.int .u32 a.toNat) = some (.int .u32 a.toNat) := fun a => by
  unfold keyOf
  rw [hk]
  simp only [mapKey, hk]
  have h1 : IntKind.u32.min = 0 := by decide
  have h2 : IntKind.u32.max = 4294967295 := by decide
  have h3 := a.toNat_lt
  have hw : (Lit.int .u32 (a.toNat : Int)).wf = true := by
   simp only [Lit.wf, Bool.and_eq_true, decide_eq_true_eq, h1, h2]; omega
  simp [hw]
 have hes : ∀ x ∈ es.toList, ∃ a : UInt32, x.key = .int .u32 a.toNat := fun x hx => by
  have h1 : (x.key, x.val) ∈ es.toList.map (fun e => (e.key, e.val)) := List.mem_map.2 ⟨x, hx, rfl⟩
  rw [he] at h1
  obtain ⟨p, hp, h2⟩ := List.mem_map.1 h1
  simp only [Prod.mk.injEq] at h2
  exact ⟨p.1, h2.1.symm⟩
 have hF : WideElems.Fit P kt (fun _ => some ((.lit (.bool true) : DataW Unit), [])) es cl := by
  refine ⟨by omega, ⟨hlt, hbn, ?_⟩, fun x hx => ?_⟩
  ·rw [nk he]
   unfold List.Nodup at hn ⊢
   rw [List.pairwise_map]
   exact hn.imp (fun h e => h (Key.inj _ _ e))
  ·obtain ⟨a, ha⟩ := hes x hx
   exact ⟨(.int .u32 a.toNat, .lit (.bool true)), by simp [WideElems.rd, ha, hkey a]⟩
 refine ⟨_, ⟨es, cl, hb, hF, by omega, rfl⟩, ?_, ?_⟩
 ·have hp := (Go.WideShapes.sorted_perm (es.toList.map (WideElems.rg P kt (fun _ => some ((.lit (.bool true) : DataW Unit), []))))).map (fun p => intOf p.1)
  refine hp.trans (List.Perm.of_eq ?_)
  rw [List.map_map]
  have h3 : es.toList.map ((fun p : Lit × DataW Unit => intOf p.1) ∘ WideElems.rg P kt (fun _ => some ((.lit (.bool true) : DataW Unit), []))) = es.toList.map (fun e => match e.key with | .int _ a => a | _ => 0) := by
   apply List.map_congr_left
   intro x hx
   obtain ⟨a, ha⟩ := hes x hx
   simp [WideElems.rg, WideElems.rd, ha, hkey a, intOf]
  rw [h3]
  have h4 : es.toList.map (fun e => match e.key with | .int _ a => a | _ => 0) = (es.toList.map (fun e => (e.key, e.val))).map (fun p => match p.1 with | .int _ a => a | _ => 0) := by
   rw [List.map_map]; rfl
  rw [h4, he, List.map_map]
  apply List.map_congr_left
  intro p _
  rfl
 ·simp [Maps.size, length_sorted, hlen]
theorem tX {ss : List Int} {ks : List UInt32} (h : ss.Perm (ks.map fun p => (p.toNat : Int))) : ∃ l : List UInt32, l.Perm ks ∧ ss = l.map fun p => (p.toNat : Int) := by
 have hi : ∀ k : UInt32, UInt32.ofNat ((k.toNat : Int).toNat) = k := fun k => by simp
 refine ⟨ss.map fun z => UInt32.ofNat z.toNat, ?_, ?_⟩
 ·have := h.map fun z => UInt32.ofNat z.toNat
  rw [List.map_map] at this
  refine this.trans (List.Perm.of_eq ?_)
  conv => rhs; rw [← List.map_id ks]
  exact List.map_congr_left fun k _ => hi k
 ·rw [List.map_map]
  conv => lhs; rw [← List.map_id ss]
  refine List.map_congr_left fun z hz => ?_
  obtain ⟨k, _, rfl⟩ := List.mem_map.1 (h.mem_iff.1 hz)
  show (k.toNat : Int) = ((UInt32.ofNat ((k.toNat : Int).toNat)).toNat : Int)
  rw [hi]
theorem vq {w : World} {base : Nat} {e : TypeId} {v : Value} {l : List UInt32} (h : w.ownsRow base e 1 v l.length (l.map fun x => Value.int .u32 x.toNat)) :
  Own w v l ∧ In v [] base := by
 obtain ⟨_, h⟩ := h
 have he : aV l = l.map fun (x : UInt32) => Value.int .u32 (x.toNat : Int) := Cl (fun (x : UInt32) => Value.int .u32 (x.toNat : Int)) (fun _ => rfl) l
 rcases h with ⟨rfl, h0⟩ | ⟨g, cap, cur, rfl, hb, hblk, hn, hcap, hcs, hx⟩
 ·have : l = [] := List.eq_nil_of_length_eq_zero h0
  subst this
  exact ⟨Own.nil w, In.nil⟩
 ·refine ⟨⟨some ⟨g, 0, none⟩, cap, rfl, hn, rfl, cur, e, (0, 0), hblk, gE _, ?_, fun i x hi => ?_⟩, In.of_ge hb⟩
  ·show 0 + cap * 1 ≤ cur.size
   omega
  ·rw [he, ← hx] at hi
   have h1 := List.getElem?_take (l := cur.toList) (i := l.length * 1) (j := i)
   rw [h1] at hi
   split at hi
   ·simp only [Nat.zero_add]
    simpa using hi
   ·cases hi
end Go.Sac

end
section
namespace Go.Sac
open Go
def ko (l : List UInt32) : List UInt32 := l.mergeSort fun x y => decide (x ≤ y)
theorem qn (l : List UInt32) : (ko l).Perm l := List.mergeSort_perm l _
theorem mK (l : List UInt32) : (ko l).length = l.length := (qn l).length_eq
theorem wV (l : List UInt32) : (ko l).Pairwise (fun a b => decide (a ≤ b) = true) :=
 List.pairwise_mergeSort (fun a b c h1 h2 => by simp only [decide_eq_true_eq] at *; exact UInt32.le_trans h1 h2)
  (fun a b => by simp only [Bool.or_eq_true, decide_eq_true_eq]; exact UInt32.le_total a b) l
theorem uQ {l l' : List UInt32} (hp : l'.Perm l) (hs : l'.Pairwise (fun a b => decide (a ≤ b) = true)) : l' = ko l := by
 refine List.Perm.eq_of_pairwise (le := fun a b => decide (a ≤ b) = true) (fun a b _ _ h1 h2 => ?_) hs (wV l) (hp.trans (qn l).symm)
 simp only [decide_eq_true_eq] at h1 h2
 exact UInt32.le_antisymm h1 h2
def oA (l : List UInt32) (j : Nat) : List UInt32 := (l.set j (l.getD (j - 1) 0)).set (j - 1) (l.getD j 0)
theorem sF (l : List UInt32) (j a : Nat) (hj : 0 < j) (hl : j < l.length) : (oA l j).getD a 0 = if a = j - 1 then l.getD j 0 else if a = j then l.getD (j - 1) 0 else l.getD a 0 := by
 unfold oA
 simp only [List.getD_eq_getElem?_getD, List.getElem?_set, List.length_set]
 by_cases h1 : a = j - 1
 ·subst h1
  rw [if_pos rfl, if_pos (by omega), if_pos rfl, Option.getD_some]
 ·have h1' : ¬ j - 1 = a := fun e => h1 e.symm
  rw [if_neg h1', if_neg h1]
  by_cases h2 : a = j
  ·subst h2
   rw [if_pos rfl, if_pos rfl, if_pos hl, Option.getD_some]
  ·have h2' : ¬ j = a := fun e => h2 e.symm
   rw [if_neg h2', if_neg h2]
theorem tW {α : Type} (l : List α) (i j : Nat) (hi : i < l.length) (hj : j < l.length) : ((l.set i l[j]).set j l[i]).Perm l := List.set_set_perm hi hj
theorem wU (l : List UInt32) (j : Nat) (hl : j < l.length) : (oA l j).Perm l := by
 unfold oA
 have h1 : l.getD (j - 1) 0 = l[j - 1] := by rw [List.getD_eq_getElem?_getD, List.getElem?_eq_getElem (by omega)]; rfl
 have h2 : l.getD j 0 = l[j] := by rw [List.getD_eq_getElem?_getD, List.getElem?_eq_getElem hl]; rfl
 rw [h1, h2]
 exact tW l j (j - 1) hl (by omega)
def MidU (l0 l : List UInt32) (i j : Nat) : Prop := l.Perm l0 ∧ ∀ a b, a < b → b ≤ i → b ≠ j → l.getD a 0 ≤ l.getD b 0
def SrtU (l0 l : List UInt32) (i : Nat) : Prop := l.Perm l0 ∧ ∀ a b, a < b → b < i → l.getD a 0 ≤ l.getD b 0
theorem SrtU.mid {l0 l : List UInt32} {i : Nat} (h : SrtU l0 l i) : MidU l0 l i i := ⟨h.1, fun a b h1 h2 h3 => h.2 a b h1 (by omega)⟩
theorem MidU.swap {l0 l : List UInt32} {i j : Nat} (h : MidU l0 l i j) (hj : 0 < j) (hji : j ≤ i) (hl : i < l.length) (hlt : l.getD j 0 < l.getD (j - 1) 0) : MidU l0 (oA l j) i (j - 1) := by
 refine ⟨(wU l j (by omega)).trans h.1, fun a b h1 h2 h3 => ?_⟩
 rw [sF l j a hj (by omega), sF l j b hj (by omega)]
 rw [if_neg h3]
 by_cases hb : b = j
 ·subst hb
  rw [if_pos rfl]
  by_cases ha : a = b - 1
  ·rw [if_pos ha]; exact UInt32.le_of_lt hlt
  ·rw [if_neg ha, if_neg (by omega)]
   exact h.2 a (b - 1) (by omega) (by omega) (by omega)
 ·rw [if_neg hb]
  by_cases ha : a = j - 1
  ·rw [if_pos ha]
   exact h.2 j b (by omega) h2 hb
  ·rw [if_neg ha]
   by_cases ha' : a = j
   ·rw [if_pos ha']
    exact h.2 (j - 1) b (by omega) h2 hb
   ·rw [if_neg ha']
    exact h.2 a b h1 h2 hb
theorem MidU.done {l0 l : List UInt32} {i j : Nat} (h : MidU l0 l i j) (hji : j ≤ i) (hs : j = 0 ∨ ¬ l.getD j 0 < l.getD (j - 1) 0) : SrtU l0 l (i + 1) := by
 refine ⟨h.1, fun a b h1 h2 => ?_⟩
 by_cases hb : b = j
 ·subst hb
  have hs : ¬ l.getD b 0 < l.getD (b - 1) 0 := hs.resolve_left (by omega)
  have hle : l.getD (b - 1) 0 ≤ l.getD b 0 := UInt32.not_lt.1 hs
  by_cases ha : a = b - 1
  ·rw [ha]; exact hle
  ·exact UInt32.le_trans (h.2 a (b - 1) (by omega) (by omega) (by omega)) hle
 ·exact h.2 a b h1 (by omega) hb
theorem SrtU.sort {l0 l : List UInt32} {i : Nat} (h : SrtU l0 l i) (hi : l.length ≤ i) : l = ko l0 := by
 refine uQ h.1 (List.pairwise_iff_getElem.2 fun a b ha hb hab => ?_)
 have := h.2 a b hab (by omega)
 rw [List.getD_eq_getElem?_getD, List.getD_eq_getElem?_getD, List.getElem?_eq_getElem ha, List.getElem?_eq_getElem hb] at this
 simpa using this
theorem SrtU.start (l : List UInt32) : SrtU l l 1 := ⟨.refl l, fun a b h1 h2 => by omega⟩
theorem SrtU.length {l0 l : List UInt32} {i : Nat} (h : SrtU l0 l i) : l.length = l0.length := h.1.length_eq
theorem MidU.length {l0 l : List UInt32} {i j : Nat} (h : MidU l0 l i j) : l.length = l0.length := h.1.length_eq
def oZ (f : UInt32 → Bool) (n : Nat) : List UInt32 := ((List.range n).filter fun i => f (UInt32.ofNat i)).map UInt32.ofNat
theorem vf (f : UInt32 → Bool) (n : Nat) : (oZ f n).length ≤ n := by
 unfold oZ
 rw [List.length_map]
 exact Nat.le_trans (List.length_filter_le _ _) (by simp)
theorem BO {f : UInt32 → Bool} {n : Nat} {x : UInt32} (hn : n ≤ 4294967296) : x ∈ oZ f n ↔ f x = true ∧ x.toNat < n := by
 unfold oZ
 simp only [List.mem_map, List.mem_filter, List.mem_range]
 constructor
 ·rintro ⟨i, ⟨hi, hf⟩, rfl⟩
  exact ⟨hf, by rw [UInt32.toNat_ofNat_of_lt' (show i < 4294967296 by omega)]; exact hi⟩
 ·rintro ⟨h1, h2⟩
  exact ⟨x.toNat, ⟨h2, by simpa using h1⟩, by simp⟩
theorem oC (f : UInt32 → Bool) (n : Nat) (hn : n ≤ 4294967296) : (oZ f n).Pairwise (fun a b => a < b) := by
 unfold oZ
 rw [List.pairwise_map]
 have h : (List.range n).Pairwise (· < ·) := List.pairwise_lt_range
 refine (h.filter _).imp_of_mem fun {a b} ha hb hab => ?_
 have ha := List.mem_range.1 (List.mem_filter.1 ha).1
 have hb := List.mem_range.1 (List.mem_filter.1 hb).1
 rw [UInt32.lt_iff_toNat_lt, UInt32.toNat_ofNat_of_lt' (show a < 4294967296 by omega), UInt32.toNat_ofNat_of_lt' (show b < 4294967296 by omega)]
 exact hab
theorem uP {f : UInt32 → Bool} {n : Nat} {l : List UInt32} (hn : n ≤ 4294967296) (hd : l.Nodup) (hm : ∀ x, x ∈ l ↔ f x = true) (hf : ∀ x, f x = true → x.toNat < n) : ko l = oZ f n := by
 symm
 refine uQ ((List.perm_ext_iff_of_nodup ((oC f n hn).imp fun {a b} h e => by subst e; exact absurd h (UInt32.lt_irrefl _)) hd).2 fun x => ?_) ((oC f n hn).imp fun {a b} h => by simpa using UInt32.le_of_lt h)
 rw [BO hn, hm x]
 exact ⟨fun h => h.1, fun h => ⟨h, hf x h⟩⟩
end Go.Sac

end
section
namespace Go.Sac
set_option maxRecDepth 100000
def kA : List UInt8 := 0 :: 1 :: List.replicate 30 0
def kB : List UInt8 := 0 :: 2 :: List.replicate 30 0
def Ay : PgF := cO fW 0
def supK (c : UInt64) (e : UInt32) : Sup := ⟨7, [109], Ay, Ay, c, e⟩
def BQ : List UInt8 := 1 :: List.replicate 49 0
def bytK (c e : Nat) : List UInt8 := be 8 c ++ be 4 e ++ be 4 7 ++ (be 2 1 ++ [109]) ++ BQ ++ BQ
end Go.Sac

end
section
namespace Go.Sac
open Go
theorem Ext.count {n : Nat} {P P' : Pg} {V V' : UInt32 → Bs} {made : List UInt32} (h : Ext n P P' V V' made) (hn : n ≤ 400) : dN P n ≤ dN P' n + made.length := by
 have hsub : ∀ i ∈ (List.range n).filter (fun i => P.free (UInt32.ofNat i)), i ∈ (List.range n).filter (fun i => P'.free (UInt32.ofNat i)) ++ made.map (·.toNat) := fun i hi => by
  rw [List.mem_filter, List.mem_range] at hi
  rw [List.mem_append, List.mem_filter, List.mem_range]
  by_cases hm : UInt32.ofNat i ∈ made
  ·refine .inr (List.mem_map.2 ⟨_, hm, ?_⟩)
   rw [UInt32.toNat_ofNat']; omega
  ·exact .inl ⟨hi.1, h.free.2 ⟨hi.2, hm⟩⟩
 have hnd : ((List.range n).filter fun i => P.free (UInt32.ofNat i)).Nodup := List.nodup_range.filter _
 have := nT _ _ hnd hsub
 rwa [List.length_append, List.length_map] at this
end Go.Sac

end
section
namespace Go.Sac
open Go
theorem putP_in {l : List Pr} {p q : Pr} (h : q ∈ l) (hne : q.1 ≠ p.1) : q ∈ eh l p := by
 unfold eh
 cases h1 : ltB q.1 p.1 with
 | true => exact List.mem_append_left _ (List.mem_filter.2 ⟨h, h1⟩)
 | false =>
  cases h2 : ltB p.1 q.1 with
  | true => exact List.mem_append_right _ (List.mem_cons_of_mem _ (List.mem_filter.2 ⟨h, h2⟩))
  | false => exact absurd (ld h1 h2) hne
def kv (x : Bs) : Pr := (x, 118 :: x)
theorem vd {l : List Pr} (p : Pr) (hs : df l) : (eh l p).length = l.length + (!dh l p.1).toNat := by
 cases h : dh l p.1 with
 | true => rw [qE hs h, List.length_set]; rfl
 | false =>
  have := pH l p.1
  rw [kD hs h, List.length_append, List.length_cons, List.length_take, List.length_drop]
  show _ = l.length + 1
  omega
theorem zI {l : List Pr} (p : Pr) (hs : df l) : (eh l p).length ≤ l.length + 1 := by
 have h := vd p hs
 have : (!dh l p.1).toNat ≤ 1 := Bool.toNat_le _
 omega
theorem Cr {l : List Pr} {k : Bs} (hs : df l) (h : dh l k = true) : (fO l k).length + 1 = l.length := by
 have := fq h
 rw [wk hs h, List.length_append, List.length_take, List.length_drop]; omega
theorem sU : ∀ {l : List Pr}, (∀ p ∈ l, p.1.length + p.2.length ≤ 7) → bM l ≤ 3 + 11 * l.length
 | [], _ => by simp [bM]
 | p :: l, h => by
  have h1 := sU (l := l) (fun q hq => h q (List.mem_cons_of_mem _ hq))
  have h2 := h p List.mem_cons_self
  have h3 := dt [p] l
  rw [gh, List.singleton_append] at h3
  rw [List.length_cons]; omega
def scanL (m : List Pr) (lo hi : Bs) (most : Nat) : List Pr := (ey ⟨lo, hi, decide (hi ≠ [])⟩ m).take most
end Go.Sac

end
section
namespace Go.Sac
open Go
section
variable {P : Program} {E : Env} {w : World} {ty t u : TypeId} {x y : Operand} {a b : Pr}
end
end Go.Sac

end
section
namespace Go.Sac
open Go
instance : Flat UInt16 := ⟨1, fun b => [.int .u16 b.toNat], fun _ => rfl, fun _ v h => by simp at h; subst h; rfl⟩
theorem AW (n : Int) : IntKind.u16.wrap n = n % 65536 := by
 unfold IntKind.wrap
 have h1 : IntKind.u16.bits = 16 := rfl
 have h2 : IntKind.u16.signed = false := rfl
 rw [h1, h2]
 simp
section
variable {P : Program} {E : Env} {w : World} {ty t u : TypeId} {x y : Operand} {k : IntKind} {a b : UInt16}
theorem uE {d : TypeDesc} {n : Nat} (hx : ev E x = .int k n) (ht : P.underlying t = some d) (hu : P.underlying u = some (.int .u16)) (hn : n < 65536) : exec P E (.convert t u x) ty w = .ok (.value (.int .u16 (UInt16.ofNat n).toNat)) w := by
 rw [pW hx ht hu, AW, UInt16.toNat_ofNat']
 congr 3
end
end Go.Sac

end
