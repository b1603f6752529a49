/- Elder roots, each kept, tell what they told, however much is put and taken away later. It holds for every input; there are no conditions. -/
import Derived.Test.YtpbfapbajmdlkaaGreatSac1
import Derived.Laws.Externs
import Derived.Lib.Bytealg
import Derived.ProofKit
import Derived.OpenShut
import Derived.Laws.Concat
import Derived.Test.YtpbfapbajmdlkaaGreatSac0
section
namespace Go.Sac
open Go
section
variable {P : Program} {E : Env} {w : World} {ty t t' : TypeId} {x y c : Operand}
theorem sU {f : FuncId} {args : Array Value} {fn : Func} (hf : P.funcs[f]? = some fn) (hn : (fn.name == "runtime.NumGoroutine") = false) (hb : fn.body.isNone = false) : (callFunc f args).run P w = .ok (.enter f args) w := by
 have hb' : fn.body ≠ none := by intro h; rw [h] at hb; simp at hb
 have hn' : fn.name ≠ "runtime.NumGoroutine" := by intro h; rw [h] at hn; simp at hn
 unfold callFunc
 rw [an (show program.run P w = .ok P w from rfl)]
 simp only [hf]
 rw [if_neg (by simpa using hn'), if_neg (by simpa using hb')]
 rfl
theorem lU {f : FuncId} {cs : List Value} {args : List Operand} {ats : Array TypeId} {fn : Func} (hc : ev E c = .func (.func f) #[] cs.toArray) (hf : P.funcs[f]? = some fn) (hn : (fn.name == "runtime.NumGoroutine") = false) (hb : fn.body.isNone = false) :
  exec P E (.call { callee := .value c, args := args.toArray, argTypes := ats }) ty w = .ok (.enter f (args.map (ev E) ++ cs).toArray) w := by
 show (do let d ← Deferred.ofValue (ev E c) (args.toArray.map (ev E)); invoke d.target d.args).run P w = _
 rw [hc]
 have := sU (w := w) (args := (args.map (ev E) ++ cs).toArray) hf hn hb
 simpa [Deferred.ofValue, invoke] using this
theorem xj {f : FuncId} {fn : Func} {e : Array Value → Sem Value} {args : List Operand} {ats : Array TypeId} {v : Value} {w' : World} (hf : P.funcs[f]? = some fn) (hn : (fn.name == "runtime.NumGoroutine") = false)
  (hb : fn.body.isNone = true) (h1 : Extern.findNext fn = none) (he : Extern.find fn = some e) (h : (e (args.map (ev E)).toArray).run P w = .ok v w') :
  exec P E (.call { callee := .value (.func f), args := args.toArray, argTypes := ats }) ty w = .ok (.value v) w' := by
 show (do let d ← Deferred.ofValue (.func (.func f) #[] #[]) (args.toArray.map (ev E)); invoke d.target d.args).run P w = _
 have h2 := run_callFunc_extern hf hn hb h1 he (args.map (ev E)).toArray w
 rw [h] at h2
 simpa [Deferred.ofValue, invoke] using h2
def vf (a b : Bs) : Int := Lib.compareBytes a b
theorem y0 (a b : Bs) : vf a b < 0 ↔ ltB a b = true := by
 unfold vf
 induction a generalizing b with
 | nil => cases b <;> simp [Lib.compareBytes, Op.bytesLess]
 | cons x a ih =>
  cases b with
  | nil => simp [Lib.compareBytes, Op.bytesLess]
  | cons y b =>
   rw [mH]
   unfold Lib.compareBytes
   split
   ·rename_i h; simp [h]
   ·split
    ·rename_i h1 h2
     have : ¬ x < y := fun h => by
      have := UInt8.lt_iff_toNat_lt.1 h
      have := UInt8.lt_iff_toNat_lt.1 h2
      omega
     have h3 : x ≠ y := fun e => by subst e; exact UInt8.lt_irrefl _ h2
     simp [this, h3]
    ·rename_i h1 h2
     have : x = y := UInt8.le_antisymm (UInt8.not_lt.1 h2) (UInt8.not_lt.1 h1)
     subst this
     rw [ih]; simp [UInt8.lt_irrefl]
theorem cmpB_eq (a b : Bs) : vf a b = 0 ↔ a = b := by
 unfold vf
 induction a generalizing b with
 | nil => cases b <;> simp [Lib.compareBytes]
 | cons x a ih =>
  cases b with
  | nil => simp [Lib.compareBytes]
  | cons y b =>
   unfold Lib.compareBytes
   split
   ·rename_i h
    have h3 : x ≠ y := fun e => by subst e; exact UInt8.lt_irrefl _ h
    simp [h3]
   ·split
    ·rename_i h1 h2
     have h3 : x ≠ y := fun e => by subst e; exact UInt8.lt_irrefl _ h2
     simp [h3]
    ·rename_i h1 h2
     have : x = y := UInt8.le_antisymm (UInt8.not_lt.1 h2) (UInt8.not_lt.1 h1)
     subst this
     rw [ih]; simp
theorem fp {d e : TypeId} {p : Option Addr} {l cp : Nat} (hx : ev E x = .slice p l cp) (ht : P.underlying d = some (.slice e)) : exec P E (.call { callee := .builtin .cap, args := #[x], argTypes := #[d] }) ty w = .ok (.value (.int .i64 cp)) w := by
 rw [qf]; refine aT ?_; simp [Builtin.cap_, hx, run_underlying ht, goInt]
end
section
variable {α : Type} [Flat α] {P : Program} {E : Env} {w : World} {ty t t' : TypeId} {x y lo hi mx : Operand}
theorem rm {e : TypeId} {i : TypeInfo} {z : Value} {v : Value} {o : Operand} (a : α) (ht : P.underlying t = some (.slice e)) (hi : P.info? e = some i) (hz : i.zero = some z) (hsz : i.size = Flat.sz α) (hzs : z.cells.size = Flat.sz α) (hx : ev E o = v) (hv : v.cells.toList = Flat.enc a) (hb : Flat.sz α ≤ 16777216) :
  ∃ v' w', exec P E (.buildSlice t 1 #[(0, o)]) ty w = .ok (.value v') w' ∧ ∃ b, v' = .slice (some ⟨b, 0, none⟩) 1 1 ∧ Blk w' b (Flat.enc a) ∧ w.heap.size ≤ b ∧ Chg [] w w' ∧ b < w'.heap.size := by
 refine ⟨.slice (some ⟨w.heap.size, 0, none⟩) 1 1, w.pushB (.cells (Flat.enc a).toArray e), ?_, w.heap.size, rfl, ⟨e, ew _ _⟩, Nat.le_refl _, Chg.push _ _, by rw [eB]; omega⟩
 rw [mU]
 refine aT ?_
 unfold Instr.buildSlice
 rw [an (run_underlying ht w)]
 simp only []
 rw [an (bA hi w), hsz, if_neg (by omega)]
 have hps : ((#[(0, o)] : Array (Nat × Operand)).map fun (i, x) => (i, ev E x)).toList = ([v].zipIdx).map fun x => (x.2, x.1) := by simp [hx]
 have hcells : ∀ u ∈ [v], u.cells.size = Flat.sz α := fun u hu => by
  rw [List.mem_singleton] at hu; subst hu
  have := congrArg List.length hv
  rw [Flat.len] at this; simpa using this
 have hsize : ∀ zero : Array Value, ((Array.range (1 * Flat.sz α)).map (zero[· % zero.size]!)).size = 1 * Flat.sz α := by intro zero; simp
 have hflat : [v].flatMap (fun v => v.cells.toList) = Flat.enc a := by simp [hv]
 by_cases h0 : 1 * Flat.sz α = 0
 ·rw [if_pos h0]
  simp only [pure_bind]
  rw [hps, mR [v] _ 0 hcells (by rw [hsize]; simp)]
  simp only [Nat.zero_mul]
  rw [jv (by rw [hsize, hflat, Flat.len]; omega), hflat]; rfl
 ·rw [if_neg h0, an (cA hi hz w)]
  simp only [pure_bind]
  rw [hps, mR [v] _ 0 hcells (by rw [hsize]; simp)]
  simp only [Nat.zero_mul]
  rw [jv (by rw [hsize, hflat, Flat.len]; omega), hflat]; rfl
theorem add0 (p : Option Addr) : p.map (·.add 0) = p := by
 cases p with
 | none => rfl
 | some a => obtain ⟨b, o, s⟩ := a; rfl
theorem n3 (n : Nat) {e : TypeId} {i : TypeInfo} {p : Option Addr} {l cap : Nat} {k : IntKind} {j : Int} (ht : P.underlying t = some (.slice e)) (hi' : P.info? e = some i) (hx : ev E x = .slice p l cap) (hl : ev E hi = .int k j) (hn : j = n) (hj : n ≤ cap) :
  exec P E (.slice t x none (some hi) none) ty w = .ok (.value (.slice p n cap)) w := by
 subst hn
 rw [tO ht hi' hx hl (by omega), add0]
 simp
theorem oe (n : Nat) {e : TypeId} {i : TypeInfo} {b off l cap : Nat} {k : IntKind} {j : Int} (ht : P.underlying t = some (.slice e)) (hi : P.info? e = some i) (hx : ev E x = .slice (some ⟨b, off, none⟩) l cap) (hl : ev E lo = .int k j) (hn : j = n) (hj : n ≤ l) (hc : n < cap) :
  exec P E (.slice t x (some lo) none none) ty w = .ok (.value (.slice (some ⟨b, off + n * i.size, none⟩) (l - n) (cap - n))) w := by
 subst hn
 rw [lT ht hi hx hl (by omega), if_neg (by simp; omega)]
 simp [dt]
theorem vC {e : TypeId} {i : TypeInfo} {p : Option Addr} {l cap : Nat} {k k' k2 : IntKind} {j j' j2 : Int} (ht : P.underlying t = some (.slice e)) (hi' : P.info? e = some i) (hx : ev E x = .slice p l cap) (hl : ev E lo = .int k j) (hh : ev E hi = .int k' j') (hm : ev E mx = .int k2 j2)
  (hj : 0 ≤ j ∧ j ≤ j') (hj' : 0 ≤ j' ∧ j' ≤ j2) (hj2 : 0 ≤ j2 ∧ j2 ≤ cap) :
  ∃ v', (∀ w', exec P E (.slice t x (some lo) (some hi) (some mx)) ty w' = .ok (.value v') w') ∧ True := by
 refine ⟨.slice (if j2.toNat = j.toNat then p else p.map (·.add (j.toNat * i.size))) (j'.toNat - j.toNat) (j2.toNat - j.toNat), fun w => ?_, trivial⟩
 rw [iY, hx]
 refine aT ?_
 rw [ft ht]
 unfold Instr.slice Instr.sliceBounds
 rw [an (run_underlying ht w)]
 simp only [Option.map_some, hl, hm, hh, bind_assoc, if_true]
 rw [an (cJ hj2)]
 rw [an (cJ (by omega))]
 rw [an (cJ (by omega))]
 simp only [pure_bind]
 rw [an (bA hi' w)]
 rfl
theorem vu (n q : Nat) {e : TypeId} {i : TypeInfo} {p : Option Addr} {l cap : Nat} {k k' : IntKind} {j j' : Int} (ht : P.underlying t = some (.slice e)) (hi' : P.info? e = some i) (hx : ev E x = .slice p l cap) (hl : ev E lo = .int k j) (hh : ev E hi = .int k' j') (hn : j = n) (hq : j' = n + q) (hc : n + q ≤ cap) :
  exec P E (.slice t x (some lo) (some hi) none) ty w = .ok (.value (.slice (if cap = n then p else p.map (·.add (n * i.size))) q (cap - n))) w := by
 subst hn hq
 rw [oO ht hi' hx hl hh (by omega) (by omega)]
 simp
 congr 2
 omega
theorem Own.front {p : Option Addr} {n cap : Nat} {l : List α} (h : Own w (.slice p l.length cap) l) (hn : n ≤ l.length) : Own w (.slice p n cap) (l.take n) := by
 obtain ⟨p', cap', he, hc, h⟩ := h
 cases he
 refine ⟨p, cap, by rw [List.length_take, Nat.min_eq_left hn], by rw [List.length_take]; omega, ?_⟩
 cases p with
 | none =>
  obtain ⟨h1, h2⟩ := h
  subst h1
  exact ⟨by simp, h2⟩
 | some a =>
  obtain ⟨h1, c, e, fr, h2, h3, h4, h5⟩ := h
  refine ⟨h1, c, e, fr, h2, h3, h4, fun i x hx => h5 i x ?_⟩
  rw [← fc] at hx
  rw [List.getElem?_take] at hx
  split at hx
  ·exact hx
  ·cases hx
theorem zR {e : TypeId} {i : TypeInfo} {d : TypeDesc} {p : Option Addr} {cap : Nat} {vy : Value} {l m : List α} (ht : P.underlying t = some (.slice e)) (ht' : P.underlying t' = some d) (hd : d = .string ∨ ∃ e', d = .slice e')
  (hi : P.info? e = some i) (hsz : i.size = Flat.sz α) (hl : Own w (.slice p l.length cap) l) (hm : Src α P w vy m) (hx : ev E x = .slice p l.length cap) (hy : ev E y = vy) (hc : l.length + m.length ≤ cap) :
  ∃ w', exec P E (.call { callee := .builtin .append, args := #[x, y], argTypes := #[t, t'] }) ty w = .ok (.value (.slice p (l.length + m.length) cap)) w' ∧ Own w' (.slice p (l.length + m.length) cap) (l ++ m) ∧ Chg (aq (.slice p l.length cap)) w w' ∧ w'.heap.size = w.heap.size := by
 have key : ∃ w', (Builtin.append_ #[t, t'] ty #[.slice p l.length cap, vy]).run P w = .ok (.slice p (l.length + m.length) cap) w' ∧ Own w' (.slice p (l.length + m.length) cap) (l ++ m) ∧ Chg (aq (.slice p l.length cap)) w w' ∧ w'.heap.size = w.heap.size := by
  obtain ⟨p', cap', he, hlc, hp⟩ := hl
  cases he
  unfold Builtin.append_
  simp only [List.getElem?_toArray, List.getElem?_cons_zero, List.getElem?_cons_succ]
  rw [an (run_underlying ht w)]
  simp only []
  rw [an (bA hi w)]
  rw [an (run_underlying ht' w)]
  rcases hd with rfl | ⟨e', rfl⟩
  all_goals
   simp only [pure_bind, Bool.false_eq_true, if_false, Bool.not_false, if_true]
   rw [an hm.1, if_pos hc]
   have hfirst := hm.2 w rfl m.length (Nat.le_refl _)
   rw [List.take_length, ← hsz] at hfirst
   rw [an hfirst]
   cases p with
   | none =>
    obtain ⟨rfl, rfl⟩ := hp
    have hm0 : m = [] := List.eq_nil_of_length_eq_zero (by simpa using hc)
    subst hm0
    exact ⟨w, rfl, ⟨none, 0, rfl, Nat.zero_le _, rfl, rfl⟩, Chg.refl' _ _, rfl⟩
   | some a =>
    obtain ⟨b, off, sp⟩ := a
    obtain ⟨h1, c, ee, fr, h2, h3, h4, h5⟩ := hp
    simp only at h1 h2 h4 h5; subst h1
    have hlen : (aW m).length = m.length * Flat.sz α := aK m
    have hroom : off + l.length * Flat.sz α + (aW m).length ≤ c.size := by
     rw [hlen]
     have : l.length * Flat.sz α + m.length * Flat.sz α ≤ cap * Flat.sz α := by rw [← Nat.add_mul]; exact Nat.mul_le_mul_right _ hc
     omega
    simp only [dt, hsz]
    rw [an (dL _ h2 (by simpa using hroom) h3 (by simpa using eO m))]
    refine ⟨_, rfl, ⟨some ⟨b, off, none⟩, cap, by rw [List.length_append], by simpa using hc, rfl, _, ee, fr, di (bD h2), h3.size (bU _ _ _), by rw [bU]; exact h4, ?_⟩, ?_, cR _ _ _⟩
    ·intro k q hk
     rw [cO] at hk
     simp only at hk ⊢
     by_cases hkl : k < (aW l).length
     ·rw [List.getElem?_append_left hkl] at hk
      rw [aK] at hkl
      exact mq (by simpa using hroom) (h5 k q hk) (by omega)
     ·rw [List.getElem?_append_right (by omega)] at hk
      rw [aK] at hkl hk
      have := pK (c := c) (off := off + l.length * Flat.sz α) (vs := (aW m).toArray.toList) (by simpa using hroom) (by simpa using hk)
      rw [show off + l.length * Flat.sz α + (k - l.length * Flat.sz α) = off + k from by omega] at this
      exact this
    ·exact (Chg.set _ _ _).mono (fun b hb _ => by simpa [aq] using hb)
 obtain ⟨w', h1, h2⟩ := key
 refine ⟨w', ?_, h2⟩
 rw [mV, hx, hy]
 exact aT h1
theorem sG {e : TypeId} {i : TypeInfo} {d : TypeDesc} {p : Option Addr} {cap n q : Nat} {vy : Value} {l m : List α} (ht : P.underlying t = some (.slice e)) (ht' : P.underlying t' = some d) (hd : d = .string ∨ ∃ e', d = .slice e')
  (hi : P.info? e = some i) (hsz : i.size = Flat.sz α) (hn : l.length = n) (hq : m.length = q) (hl : Own w (.slice p n cap) l) (hm : Src α P w vy m) (hx : ev E x = .slice p n cap) (hy : ev E y = vy) (hc : n + q ≤ cap) :
  ∃ v' w', exec P E (.call { callee := .builtin .append, args := #[x, y], argTypes := #[t, t'] }) ty w = .ok (.value v') w' ∧ v' = .slice p (n + q) cap ∧ Own w' (.slice p (n + q) cap) (l ++ m) ∧ Chg (aq (.slice p n cap)) w w' ∧ w'.heap.size = w.heap.size := by
 subst hn hq
 obtain ⟨w', h1, h2⟩ := zR (ty := ty) ht ht' hd hi hsz hl hm hx hy hc
 exact ⟨_, w', h1, rfl, h2⟩
theorem kW {z : Value} {z0 : α} (hz : z.cells.toList = Flat.enc z0) (n : Nat) : (Builtin.zeroCells z.cells n).toList = aW (List.replicate n z0) := by
 have hs : z.cells.size = Flat.sz α := by have := congrArg List.length hz; rw [Flat.len] at this; simpa using this
 by_cases hp : 0 < z.cells.toList.length
 ·have h := tE hp n
  have e : z.cells.toList.toArray = z.cells := by simp
  rw [e] at h
  unfold Builtin.zeroCells
  rw [show n * z.cells.size = n * z.cells.toList.length by simp, h, hz, aW, List.flatMap_def, List.map_replicate]
 ·have h0 : Flat.sz α = 0 := by rw [← hs]; simp at hp; simpa using hp
  have h1 := aK (List.replicate n z0)
  rw [h0, Nat.mul_zero] at h1
  rw [List.eq_nil_of_length_eq_zero h1]
  unfold Builtin.zeroCells
  rw [hs, h0]; simp
theorem lW {e : TypeId} {i : TypeInfo} {z : Value} {k : IntKind} {p : Option Addr} {cap n : Nat} {l : List α} {j : Int} (m : Nat) (z0 : α) (ht : P.underlying t = some (.slice e)) (ht' : P.underlying t' = some (.int k)) (hi : P.info? e = some i) (hz : i.zero = some z) (hze : z.cells.toList = Flat.enc z0) (hsz : i.size = Flat.sz α)
  (hby : i.bytes ≤ 1024) (hn : l.length = n) (hl : Sl w (.slice p n cap) l) (hx : ev E x = .slice p n cap) (hy : ev E y = .int .i64 j) (hj : j = m) (hb : n + m ≤ 1073741824) (hc : cap < n + m) :
  ∃ v' w', exec P E (.call { callee := .builtin .append, args := #[x, y], argTypes := #[t, t'] }) ty w = .ok (.value v') w' ∧ Own w' v' (l ++ List.replicate m z0) ∧ Chg [] w w' ∧ In v' [] w.heap.size := by
 subst hj hn
 have hzs : z.cells.size = Flat.sz α := by have := congrArg List.length hze; rw [Flat.len] at this; simpa using this
 have key : ∃ v' w', (Builtin.append_ #[t, t'] ty #[.slice p l.length cap, .int .i64 m]).run P w = .ok v' w' ∧ Own w' v' (l ++ List.replicate m z0) ∧ Chg [] w w' ∧ In v' [] w.heap.size := by
  unfold Builtin.append_
  simp only [List.getElem?_toArray, List.getElem?_cons_zero, List.getElem?_cons_succ]
  rw [an (run_underlying ht w)]
  simp only []
  rw [an (bA hi w)]
  rw [an (run_underlying ht' w)]
  have happ : ∀ w' : World, (if m * i.size = 0 then (pure #[] : Sem (Array Value)) else do pure (Builtin.zeroCells (← zeroValue e).cells m)).run P w' = .ok (aW (List.replicate m z0)).toArray w' := fun w' => by
   by_cases h0 : m * i.size = 0
   ·rw [if_pos h0]
    have h1 := aK (List.replicate m z0)
    rw [List.length_replicate, ← hsz, h0] at h1
    rw [List.eq_nil_of_length_eq_zero h1]; rfl
   ·rw [if_neg h0, an (cA hi hz w'), ← kW hze m]; rfl
  simp only [pure_bind, bind_assoc, if_true, Bool.not_true, Bool.false_eq_true, if_false]
  have ha : (asInt (.int .i64 (m : Int))).run P w = .ok (m : Int) w := rfl
  rw [an ha, gJ (by omega)]
  rw [if_neg (by omega)]
  rw [an (cH hi w)]
  have hnb0 : ¬ ((m : Int) * (i.bytes : Int) > 2 ^ 48) := by
   have : m * i.bytes ≤ 1073741824 * 1024 := Nat.mul_le_mul (by omega) hby
   have h2 : ((m * i.bytes : Nat) : Int) ≤ 1073741824 * 1024 := by omega
   rw [Int.natCast_mul] at h2
   omega
  rw [if_neg hnb0]
  simp only [pure_bind, Int.toNat_natCast]
  rw [if_neg (by omega)]
  have hov : ¬ ((l.length + m : Nat) : Int) > IntKind.i64.max := by
   have : IntKind.i64.max = 9223372036854775807 := by decide
   omega
  rw [an (cH hi w), if_neg (by intro h; exact absurd h.1 hov), an (cH hi w)]
  have hnc := lz (l.length + m) cap (by omega)
  have hnb : ¬ Builtin.nextslicecap (l.length + m) cap * i.bytes > 2 ^ 48 := by
   have : Builtin.nextslicecap (l.length + m) cap * i.bytes ≤ (4 * 1073741824 + 2000) * 1024 := Nat.mul_le_mul (by omega) hby
   omega
  rw [if_neg hnb]
  obtain ⟨nc, hnc1, hch⟩ := jt (P := P) (w := w) (need := l.length + m) (cap := cap) (e := e)
  rw [an hch]
  rw [an (cH hi _), an iT]
  have hf1 := ((hl.heap (w' := { w with drawn := w.drawn + 1 }) rfl).first (P := P) l.length (Nat.le_refl _))
  rw [List.take_length, ← hsz] at hf1
  rw [an hf1]
  rw [an (happ _), an (cA hi hz _)]
  refine ⟨.slice (some ⟨w.heap.size, 0, none⟩) (l ++ List.replicate m z0).length nc, _, ?_, mA (w := { w with drawn := w.drawn + 1 }) (l := l ++ List.replicate m z0) (e := e) (rest := Builtin.zeroCells z.cells (nc - (l.length + m))) (cap := nc) (by simpa using hnc1) ?_, ?_, ?_⟩
  ·rw [List.length_append, List.length_replicate, cO]
   simp only [← List.append_toArray]
   rfl
  ·rw [ij, hzs, List.length_append, List.length_replicate]
  ·exact (Chg.push { w with drawn := w.drawn + 1 } _).mono (by simp)
  ·intro b hb; right; simp only [aq, List.mem_singleton] at hb; omega
 obtain ⟨v', w', h1, h2⟩ := key
 refine ⟨v', w', ?_, h2⟩
 rw [mV, hx, hy]
 exact aT h1
theorem oP {e : TypeId} {i : TypeInfo} {z : Value} {p : Option Addr} {cap q c' n : Nat} {l : List α} (z0 : α) (ht : P.underlying t = some (.slice e)) (hi : P.info? e = some i) (hz : i.zero = some z) (hze : z.cells.toList = Flat.enc z0) (hsz : i.size = Flat.sz α)
  (hn : l.length = n) (hl : Own w (.slice p n cap) l) (hx : ev E x = .slice (if cap = n then p else p.map (·.add (n * i.size))) q c') (hq : n + q ≤ cap) :
  ∃ w', exec P E (.call { callee := .builtin .clear, args := #[x], argTypes := #[t] }) ty w = .ok (.value (.tuple #[])) w' ∧ Own w' (.slice p n cap) l ∧ Chg (aq (.slice p n cap)) w w' ∧ w'.heap.size = w.heap.size := by
 subst hn
 have e_clear : exec P E (.call { callee := .builtin .clear, args := #[x], argTypes := #[t] }) ty w = (gL (Builtin.clear_ #[t] ty #[ev E x])).run P w := by
  rw [qf]; simp only [List.map_toArray, List.map_cons, List.map_nil]; rfl
 rw [e_clear, hx]
 by_cases h0 : q = 0
 ·subst h0
  refine ⟨w, aT ?_, hl, Chg.refl' _ _, rfl⟩
  unfold Builtin.clear_
  simp only [List.getElem?_toArray, List.getElem?_cons_zero]
  rw [an (run_underlying ht w)]
  by_cases hcl : cap = l.length
  ·rw [if_pos hcl]; cases p <;> rfl
  ·rw [if_neg hcl]; cases p <;> rfl
 ·obtain ⟨p', cap', he, hlc, hp⟩ := hl
  cases he
  cases p with
  | none => obtain ⟨rfl, rfl⟩ := hp; exact absurd hq (by simp; omega)
  | some a =>
   obtain ⟨b, off, sp⟩ := a
   obtain ⟨h1, c, ee, fr, h2, h3, h4, h5⟩ := hp
   simp only at h1 h2 h4 h5; subst h1
   have hlen := aK (List.replicate q z0)
   rw [List.length_replicate] at hlen
   have hroom : off + l.length * Flat.sz α + (aW (List.replicate q z0)).length ≤ c.size := by
    rw [hlen]
    have : l.length * Flat.sz α + q * Flat.sz α ≤ cap * Flat.sz α := by rw [← Nat.add_mul]; exact Nat.mul_le_mul_right _ hq
    omega
   have hst := dL (P := P) (aW (List.replicate q z0)) h2 hroom h3 (eO _)
   refine ⟨_, aT (w' := w.setB b (.cells (eM c (off + l.length * Flat.sz α) (aW (List.replicate q z0))) ee fr)) ?_, ⟨some ⟨b, off, none⟩, cap, rfl, hlc, rfl, _, ee, fr, di (bD h2), h3.size (bU _ _ _), by rw [bU]; exact h4, ?_⟩, (Chg.set _ _ _).mono (fun b hb _ => by simpa [aq] using hb), cR _ _ _⟩
   ·rw [if_neg (by omega)]
    unfold Builtin.clear_
    simp only [List.getElem?_toArray, List.getElem?_cons_zero, Option.map_some]
    rw [an (run_underlying ht w)]
    cases q with
    | zero => exact absurd rfl h0
    | succ q =>
     simp only [dt, hsz]
     rw [an (cA hi hz w), kW hze, an hst]
     rfl
   ·intro k x hk
    have := (List.getElem?_eq_some_iff.1 hk).1
    rw [aK] at this
    exact mq hroom (h5 k x hk) (by simp only; omega)
def Row (w : World) (b : Nat) (c : Array Value) : Prop := ∃ e fr, w.heap[b]? = some (.cells c e fr) ∧ Soft c fr
theorem kF {e : TypeId} {i : TypeInfo} {b doff dl dcap b2 soff sl sc : Nat} {c : Array Value} {m : List α} (ht : P.underlying t = some (.slice e)) (hi : P.info? e = some i) (hsz : i.size = Flat.sz α) (hx : ev E x = .slice (some ⟨b, doff, none⟩) dl dcap) (hy : ev E y = .slice (some ⟨b2, soff, none⟩) sl sc)
  (hm : min sl dl = m.length) (hs : At w b2 soff (aW m)) (hb : Row w b c) (hr : doff + m.length * Flat.sz α ≤ c.size) :
  ∃ w', exec P E (.call { callee := .builtin .copy, args := #[x, y], argTypes := #[t, t'] }) ty w = .ok (.value (.int .i64 m.length)) w' ∧ Row w' b (eM c doff (aW m)) ∧ Chg [b] w w' ∧ w'.heap.size = w.heap.size := by
 obtain ⟨be, fr, hb, hf⟩ := hb
 refine ⟨w.setB b (.cells (eM c doff (aW m)) be fr), ?_, ⟨be, fr, di (bD hb), hf.size (bU _ _ _)⟩, Chg.set _ _ _, cR _ _ _⟩
 rw [B6, hx, hy]
 refine aT ?_
 unfold Builtin.copy_
 simp only [List.getElem?_toArray, List.getElem?_cons_zero, List.getElem?_cons_succ]
 rw [an (run_underlying ht w)]
 simp only []
 have hmin : Nat.min sl dl = m.length := hm
 have hfst : (Builtin.firstCells i.size (Nat.min sl dl) (.slice (some ⟨b2, soff, none⟩) sl sc)).run P w = .ok (aW m).toArray w := by
  have := fO (P := P) hs
  rw [aK] at this
  rw [hmin, hsz]; exact this
 rw [an (yu (P := P) (w := w)), an (bA hi w), an hfst]
 rw [an (dL _ hb (by simp only [List.toList_toArray]; rw [aK]; exact hr) hf (by simpa using eO _)), hmin]
 rfl
theorem tc {b off cap : Nat} {l : List α} (h : Own w (.slice (some ⟨b, off, none⟩) l.length cap) l) : ∃ c, Row w b c ∧ off + cap * Flat.sz α ≤ c.size ∧ ∀ i x, (aW l)[i]? = some x → c[off + i]? = some x := by
 obtain ⟨p, cp, he, _, h⟩ := h
 cases he
 obtain ⟨_, c, e, fr, h2, h3, h4, h5⟩ := h
 exact ⟨c, ⟨e, fr, h2, h3⟩, h4, h5⟩
theorem Row.own {b off cap n : Nat} {c : Array Value} {l : List α} (h : Row w b c) (hn : n = l.length) (hc : l.length ≤ cap) (hs : off + cap * Flat.sz α ≤ c.size) (hl : ∀ i x, (aW l)[i]? = some x → c[off + i]? = some x) : Own w (.slice (some ⟨b, off, none⟩) n cap) l := by
 obtain ⟨e, fr, h2, h3⟩ := h
 subst hn
 exact ⟨_, cap, rfl, hc, rfl, c, e, fr, h2, h3, hs, hl⟩
theorem Row.at {b off : Nat} {c : Array Value} {l : List Value} (h : Row w b c) (hl : ∀ i x, l[i]? = some x → c[off + i]? = some x) : At w b off l := by
 obtain ⟨e, fr, h2, _⟩ := h
 exact ⟨c, e, fr, h2, hl⟩
theorem sY {c : Array Value} {off cap : Nat} {l : List α} {a : α} {i : Nat} (hi : i ≤ l.length) (hc : l.length + 1 ≤ cap) (hs : off + cap * Flat.sz α ≤ c.size) (hl : ∀ i x, (aW l)[i]? = some x → c[off + i]? = some x) :
  ∀ q x, (aW (l.take i ++ a :: l.drop i))[q]? = some x → (eM (eM c (off + (i + 1) * Flat.sz α) (aW (l.drop i))) (off + i * Flat.sz α) (Flat.enc a))[off + q]? = some x := by
 intro q x hq
 have hk : (i + 1) * Flat.sz α = i * Flat.sz α + Flat.sz α := Nat.succ_mul _ _
 have hdl : (aW (l.drop i)).length = (l.length - i) * Flat.sz α := by rw [aK, List.length_drop]
 have hsum : (i + 1) * Flat.sz α + (l.length - i) * Flat.sz α ≤ cap * Flat.sz α := by rw [← Nat.add_mul]; exact Nat.mul_le_mul_right _ (by omega)
 have htl : (aW (l.take i)).length = i * Flat.sz α := by rw [aK, List.length_take, Nat.min_eq_left hi]
 have hal : (Flat.enc a).length = Flat.sz α := Flat.len a
 rw [cO, ga] at hq
 rw [fQ _ _ _ _ (by rw [bU, hal]; omega), fQ _ _ _ _ (by rw [hdl]; omega), hal, hdl]
 by_cases h1 : q < i * Flat.sz α
 ·rw [List.getElem?_append_left (by omega)] at hq
  rw [if_neg (by omega), if_neg (by omega)]
  refine hl q x ?_
  rw [← fc, List.getElem?_take, if_pos h1] at hq
  exact hq
 ·rw [List.getElem?_append_right (by omega), htl] at hq
  by_cases h2 : q < (i + 1) * Flat.sz α
  ·rw [List.getElem?_append_left (by omega)] at hq
   rw [if_pos (by omega), show off + q - (off + i * Flat.sz α) = q - i * Flat.sz α by omega]; exact hq
  ·rw [List.getElem?_append_right (by omega), hal] at hq
   have := (List.getElem?_eq_some_iff.1 hq).1
   rw [if_neg (by omega), if_pos (by omega), show off + q - (off + (i + 1) * Flat.sz α) = q - i * Flat.sz α - Flat.sz α by omega]; exact hq
theorem pC {e : TypeId} {i : TypeInfo} {b b2 off la ca lb cb : Nat} {t2 : TypeId} {cs : List Value} (ht : P.underlying t = some (.slice e)) (hi : P.info? e = some i) (hB : Blk w b cs) (hb : b < w.heap.size) (hne : b ≠ b2) {c2 : Array Value} (hR : Row w b2 c2) (h2 : 0 < c2.size) :
  (Extern.SlicesOverlaps.overlaps #[t, t] #[t2] #[.slice (some ⟨b, 0, none⟩) la ca, .slice (some ⟨b2, off, none⟩) lb cb]).run P w = .ok (.bool false) w := by
 obtain ⟨e1, hB⟩ := hB
 obtain ⟨e2, fr, hR, _⟩ := hR
 obtain ⟨kB, hkB⟩ : ∃ kB, c2.size = kB + 1 := ⟨c2.size - 1, by omega⟩
 have hsa : w.shape? b = some (e1, cs.length) := by unfold World.shape?; rw [hB]; simp
 have hsb : w.shape? b2 = some (e2, kB + 1) := by unfold World.shape?; rw [hR, ← hkB]
 have hfr : ∀ o, w.frozen? ⟨b, o, none⟩ = false := fun o => by unfold World.frozen?; simp only [hB]; simp
 have hz : (Go.sizeOf e).run P w = .ok i.size w := bA hi w
 have hnb : (b != b2) = true := by simpa using hne
 have hnb' : (b == b2) = false := by simpa using hne
 change Sem.run P (α := Value) (do
  let some t := (#[t, t] : Array TypeId)[0]? | stuck "slices.overlaps: no parameter types"
  let .slice elem ← underlying t | stuck "slices.overlaps: slice type expected"
  let size ← sizeOf elem
  match (some ⟨b, 0, none⟩ : Option Addr), (some ⟨b2, off, none⟩ : Option Addr) with
  | some a, some b =>
   if la = 0 ∨ lb = 0 ∨ size = 0 then pure (Value.bool false)
   else if a.block != b.block && (← frozen a) && (← frozen b) then unsupported .addressObserved
   else do
    if a.block != b.block then do
     noView a; noView b
     if ← mayBeOne a b then return Value.bool ((← choose (.extern "sameAddr.stringBytes" 2)) == 1)
    pure (Value.bool (a.block == b.block && a.off < b.off + lb * size && b.off < a.off + la * size))
  | _, _ => pure (Value.bool false)) w = _
 by_cases h0 : la = 0 ∨ lb = 0 ∨ i.size = 0
 ·simp [Go.run_underlying ht, hz, h0]
 ·simp [Go.run_underlying ht, hz, h0, hnb, hnb', frozen, noView, viewAt, mayBeOne, stringish, shape, Sem.run, hsa, hsb, hfr]
end
end Go.Sac

end
section
namespace Go.Sac
open Go Go.ChangeShapes
theorem qx {H : Type} {enc : TypeId × Value → H} {P : Program} (hl : laidOutB P = true) {W W' : World} (hc : Chg [] W W') :
  ∀ (ts : List TypeId) (vs : List Value) (ds : List (DataW H)) (ps : List MemPlace), ts.all (fun t => P.readableRec t && decide (t < P.types.size)) = true →
   DataW.TrodAll enc P W 0 (fun _ => true) true ts vs ds ps → (∀ p ∈ ps, p.block < W.heap.size) → DataW.TrodAll enc P W' 0 (fun b => decide (b < W.heap.size)) true ts vs ds ps := by
 intro ts
 induction ts with
 | nil => intro vs ds ps _ h _; cases vs <;> cases ds <;> first | exact h | exact h.elim
 | cons t ts ih =>
  intro vs ds ps hr h hlt
  obtain ⟨v, vs', d, ds', p, q, rfl, rfl, rfl, h1, h2⟩ := trodAll_cons h
  simp only [List.all_cons, Bool.and_eq_true, decide_eq_true_eq] at hr
  have hp : ∀ x ∈ p, x.block < W.heap.size := fun x hx => hlt x (by simp [hx])
  refine ⟨p, q, WideElems.Trod_stays hl hr.1.1 hr.1.2 h1 (fun x hx => ?_) (fun x hx => by simpa using hp x hx), ih _ _ _ (by simpa using hr.2) h2 (fun x hx => hlt x (by simp [hx])), rfl⟩
  have hb := hp x hx
  cases x with
  | cell b o => exact World.cell?_of_block (w := W) (hc.2.1 b hb (by simp))
  | map b => exact hc.2.1 b hb (by simp)
theorem Chg.keptBut {W W' : World} (hc : Chg [] W W') (may : MemPlace → Prop) : W.keptBut W' may := by
 refine ⟨hc.2.2.1, hc.2.2.2, fun i hi => ?_⟩
 have h := hc.2.1 i hi (by simp)
 rw [h]
 split
 ·rename_i h1 h2
  rw [h1] at h2
  simp only [Option.some.injEq, Obj.cells.injEq] at h2
  obtain ⟨rfl, rfl, rfl⟩ := h2
  exact ⟨rfl, rfl, rfl, fun _ _ => rfl⟩
 ·rename_i h1 h2
  rw [h1] at h2
  simp only [Option.some.injEq, Obj.map.injEq] at h2
  exact .inr ⟨h2.1.symm, h2.2.symm⟩
 ·rfl
theorem yQ {H : Type} {enc : TypeId × Value → H} {P : Program} {f : FuncId} {fn : Func} {s : ChangeSpec} {apart : Bool} {W : World} {args : Array Value} {ds gs : List (DataW H)} {before : List MemPlace} {bt : TypeId}
  (hl : laidOutB P = true) (hr : fn.params.toList.all (fun t => P.readableRec t && decide (t < P.types.size)) = true) (hrt : fn.resultTypes = #[bt]) (hbt : P.underlying bt = some .bool) (hv : s.vars = [])
  (hs : s.fn H (ds ++ gs) = { results := [.lit (.bool true)], args := ds }) (hW : DataW.Whole enc P fn.params.toList s.vars apart W args.toList ds gs before)
  (hc : Ret P f args W fun v W' => v = .bool true ∧ Chg [] W W') :
  Calls P f args W fun e W' => ∃ v, e = .returned v ∧ s.post enc P fn apart true false false W args v W' := by
 refine Calls.mono hc ?_
 rintro e W' ⟨v, rfl, rfl, hch⟩
 have hlt := hW.lt
 obtain ⟨p, q, hA, hV, rfl, hz, hn⟩ := id hW
 rw [hv] at hV
 obtain ⟨rfl, rfl⟩ := trodVars_none hV
 have hA' := qx hl hch _ _ _ _ hr hA (fun x hx => hlt x (by simp [hx]))
 refine ⟨_, rfl, ds, [], p ++ [], [], p, [], hW, ?_, ?_, ?_, hch.keptBut _, fun h => by cases h⟩
 ·rw [hs, hrt]
  refine ⟨[], [], ⟨1, ?_⟩, rfl, rfl⟩
  simp [Value.cells, DataW.trod, hbt]
 ·rw [hs]; exact hA'
 ·rw [hs, hv]; rfl
def RdF (P : Program) (t : TypeId) (α : Type) [Flat α] (ok : World → α → Prop) : Prop :=
 ∀ {H : Type} {enc : TypeId × Value → H} {w : World} {base : Nat} {sp : Nat → Bool} {held : Bool} {fuel : Nat} {cs : List Value} {x : DataW H × List MemPlace},
  DataW.trod enc P w base sp held fuel t cs = some x → ∃ a : α, cs = Flat.enc a ∧ ok w a
def okI (_ : World) (n : Int) : Prop := -9223372036854775808 ≤ n ∧ n < 9223372036854775808
def okT {α : Type} (_ : World) (_ : α) : Prop := True
theorem rd_bool {P : Program} {t : TypeId} (ht : P.underlying t = some .bool) : RdF P t Bool okT := by
 intro H enc w base sp held fuel cs x h
 obtain ⟨b, rfl, _⟩ := DataW.trod_bool ht h
 exact ⟨b, rfl, trivial⟩
theorem uF {α : Type} (p : Nat → α → Prop) : ∀ n : Nat, (∀ i, i < n → ∃ a, p i a) → ∃ l : List α, l.length = n ∧ ∀ i a, l[i]? = some a → p i a := by
 intro n
 induction n with
 | zero => intro _; exact ⟨[], rfl, by simp⟩
 | succ n ih =>
  intro h
  obtain ⟨l, hl, hp⟩ := ih (fun i hi => h i (by omega))
  obtain ⟨a, ha⟩ := h n (by omega)
  refine ⟨l ++ [a], by simp [hl], fun i b hb => ?_⟩
  by_cases hi : i < n
  ·rw [List.getElem?_append_left (by omega)] at hb; exact hp i b hb
  ·rw [List.getElem?_append_right (by omega)] at hb
   have : i - l.length = 0 := by
    cases hk : i - l.length with
    | zero => rfl
    | succ k => rw [hk] at hb; simp at hb
   rw [this] at hb
   simp at hb
   subst hb
   obtain rfl : i = n := by omega
   exact ha
theorem xB {α : Type} [Flat α] {ok : World → α → Prop} {P : Program} {H : Type} {enc : TypeId × Value → H} {W : World} {base b0 : Nat} {r : Reach} {t te : TypeId} {v : Value} {d : DataW H} {ps : List MemPlace} {sp : Nat → Bool} {held : Bool}
  (R : RdF P te α ok) (ht : P.underlying t = some (.slice te)) (hc : P.cellsOf te = Flat.sz α) (hval : Value.okWide P W r b0 t v) (hd : DataW.Trod enc P W base sp held t v d ps) :
  ∃ l : List α, Sl W v l ∧ ∀ a ∈ l, ok W a := by
 obtain ⟨p0, len0, cap0, rfl⟩ := WideShapes.okWide_slice ht hval
 obtain ⟨fuel, hf⟩ := hd
 rcases DataW.trod_slice ht hf with ⟨hcs, _⟩ | ⟨a, len, cap, elems, rest, n, _, hcs, _, hb, hlc, _, hlen, hel, _, _⟩
 ·simp only [Value.cells, List.cons.injEq, Value.slice.injEq, and_true] at hcs
  obtain ⟨rfl, rfl, rfl⟩ := hcs
  exact ⟨[], Sl.nil W 0, by simp⟩
 ·simp only [Value.cells, List.cons.injEq, Value.slice.injEq, and_true] at hcs
  obtain ⟨rfl, rfl, rfl⟩ := hcs
  have hok : W.has P r b0 a te cap0 := by
   unfold Value.okWide at hval
   rw [ht] at hval
   simp only [Cell.okWide, Cell.ok, ht] at hval
   exact hval.2.2
  obtain ⟨_, hspot, row, cells, hshape, _⟩ := hok
  obtain ⟨ab, ao, asp⟩ := a
  simp only at hspot hshape
  subst hspot
  obtain ⟨c, fr, hblk⟩ : ∃ c fr, W.heap[ab]? = some (.cells c row fr) := by
   unfold World.shape? at hshape
   split at hshape
   ·rename_i c elem fr hb'
    simp only [Option.some.injEq, Prod.mk.injEq] at hshape
    exact ⟨c, fr, by rw [hb', hshape.1]⟩
   ·cases hshape
  obtain ⟨l, hl, hp⟩ := uF (α := α) (fun i a => W.cells? base ((⟨ab, ao, none⟩ : Addr).add (i * P.cellsOf te)) (P.cellsOf te) = some (Flat.enc a) ∧ ok W a) len0 (fun i hi => by
   have h := hel i hi
   obtain ⟨y, hy⟩ : ∃ y, elems[i]? = some y := ⟨elems[i], List.getElem?_eq_getElem (by omega)⟩
   rw [hy] at h
   obtain ⟨cs, h1, h2⟩ := Option.bind_eq_some_iff.1 h
   obtain ⟨a, rfl, ha⟩ := R h2
   exact ⟨a, h1, ha⟩)
  refine ⟨l, ⟨some ⟨ab, ao, none⟩, cap0, by rw [hl], by omega, ⟨rfl, c, row, fr, hblk, ?_⟩⟩, fun a ha => ?_⟩
  ·intro j x hx
   have hpos : 0 < Flat.sz α := by
    rcases Nat.eq_zero_or_pos (Flat.sz α) with h0 | h0
    ·have hj := (List.getElem?_eq_some_iff.1 hx).1
     rw [aK, h0] at hj; omega
    ·exact h0
   have hj := (List.getElem?_eq_some_iff.1 hx).1
   rw [aK] at hj
   have hjd : j = j / Flat.sz α * Flat.sz α + j % Flat.sz α := by rw [Nat.mul_comm]; exact (Nat.div_add_mod j _).symm
   have hi : j / Flat.sz α < l.length := Nat.div_lt_of_lt_mul (by rw [Nat.mul_comm]; exact hj)
   have hm : j % Flat.sz α < Flat.sz α := Nat.mod_lt _ hpos
   have hli : l[j / Flat.sz α]? = some l[j / Flat.sz α] := List.getElem?_eq_getElem hi
   rw [hjd, oF l hli _ hm] at hx
   obtain ⟨h1, _⟩ := hp _ _ hli
   rw [hc] at h1
   obtain ⟨_, _, hcell⟩ := World.cells?_some h1
   have := (hcell (j % Flat.sz α) hm).trans hx
   rw [dt, dt] at this
   simp only [World.cell?, hblk] at this
   rw [hjd]
   simpa [Nat.add_assoc] using this
  ·obtain ⟨i, hi, rfl⟩ := List.mem_iff_getElem.1 ha
   exact (hp i _ (List.getElem?_eq_getElem hi)).2
end Go.Sac

end
section
namespace Go.Sac
open Go Go.ChangeShapes
abbrev ff := { v : Value // ∃ p n c, v = .slice p n c }
instance : Flat ff := ⟨1, fun v => [v.1], fun _ => rfl, fun v x h => by
 simp only [List.mem_singleton] at h; subst h
 obtain ⟨v, p, n, c, rfl⟩ := v; rfl⟩
structure StepV where
 what : Int
 i : Int
 kek : UInt8
 key : UInt8
 power : Int
 ch : ff
instance : Flat StepV := ⟨6, fun s => [.int .i64 s.what, .int .i64 s.i, .int .u8 s.kek.toNat, .int .u8 s.key.toNat, .int .i64 s.power, s.ch.1], fun _ => rfl, fun s x h => by
 obtain ⟨a, b, c, d, e, v, p, n, c', rfl⟩ := s
 simp only [List.mem_cons, List.not_mem_nil, or_false] at h
 rcases h with rfl | rfl | rfl | rfl | rfl | rfl <;> rfl⟩
def step0 : StepV := ⟨0, 0, 0, 0, 0, ⟨.slice none 0 0, _, _, _, rfl⟩⟩
def okStep (w : World) (s : StepV) : Prop := okI w s.what ∧ okI w s.i ∧ okI w s.power ∧ ∃ l : List UInt8, SlE w s.ch.1 l
theorem arr_of {args : Array Value} {l : List Value} (h : args.toList = l) : args = l.toArray := by subst h; rfl
end Go.Sac

end
section
namespace Go.Sac
open Go
structure MPg where
 used : Bool
 fresh : Bool
 written : Bool
 was : Bool
 b : List UInt8
deriving DecidableEq
instance : Flat MPg := ⟨5, fun p => [.bool p.used, .bool p.fresh, .bool p.written, .bool p.was, str p.b], fun _ => rfl, fun s x h => by
 simp only [List.mem_cons, List.not_mem_nil, or_false] at h
 rcases h with rfl | rfl | rfl | rfl | rfl <;> rfl⟩
def pg0 : MPg := ⟨false, false, false, false, []⟩
structure Mdl where
 p : List MPg
 old : List MPg
 root : UInt32
 oldRoot : UInt32
 txt : List UInt8
 oldTxt : List UInt8
def Mdl.zero (n : Nat) : Mdl := ⟨List.replicate n pg0, List.replicate n pg0, 0, 0, [], []⟩
def mdC (M : Mdl) (pv ov : Value) : List Value := [pv, ov, .int .u32 M.root.toNat, .int .u32 M.oldRoot.toNat, str M.txt, str M.oldTxt]
def MF (mb : Nat) (pv ov : Value) : List Nat := mb :: (aq pv ++ aq ov)
structure MAt (w : World) (mb : Nat) (pv ov : Value) (M : Mdl) : Prop where
 blk : Blk w mb (mdC M pv ov)
 p : Own w pv M.p
 old : Own w ov M.old
 np : mb ∉ aq pv
 no : mb ∉ aq ov
 apart : ∀ x ∈ aq pv, x ∉ aq ov
section
variable {w w' : World} {mb : Nat} {pv ov : Value} {M : Mdl}
theorem MAt.chg {S : List Nat} (h : MAt w mb pv ov M) (hm : Chg S w w') (hn : ∀ x ∈ MF mb pv ov, x ∉ S) : MAt w' mb pv ov M :=
 ⟨h.blk.chg hm (hn mb (by simp [MF])), h.p.mod hm (fun x hx => hn x (by simp [MF, hx])), h.old.mod hm (fun x hx => hn x (by simp [MF, hx])), h.np, h.no, h.apart⟩
theorem MAt.chg0 (h : MAt w mb pv ov M) (hm : Chg [] w w') : MAt w' mb pv ov M := h.chg hm (by simp)
theorem MAt.lt (h : MAt w mb pv ov M) : ∀ x ∈ MF mb pv ov, x < w.heap.size := by
 intro x hx
 simp only [MF, List.mem_cons, List.mem_append] at hx
 rcases hx with rfl | hx | hx
 ·exact h.blk.lt
 ·exact h.p.sl.lt x hx
 ·exact h.old.sl.lt x hx
end
def k39 : List UInt8 := 0 :: 0 :: 0 :: 9 :: List.replicate 28 0
end Go.Sac

end
section
namespace Go.Sac
open Go
def upU (i : Nat) : PgF := fun j => decide (j.toNat < i)
end Go.Sac

end
section
namespace Go.Sac
open Go
theorem nr {α : Type} [DecidableEq α] : ∀ l m : List α, l.Nodup → (∀ x ∈ l, x ∈ m) → l.length ≤ m.length
 | [], _, _, _ => Nat.zero_le _
 | a :: l, m, hn, h => by
  have hn' := List.nodup_cons.1 hn
  have h1 := nr l (m.erase a) hn'.2 (fun x hx => (List.mem_erase_of_ne (fun e => by subst e; exact hn'.1 hx)).2 (h x (List.mem_cons_of_mem _ hx)))
  have hm := h a List.mem_cons_self
  have h2 := List.length_pos_of_mem hm
  rw [List.length_erase_of_mem hm] at h1
  rw [List.length_cons]; omega
structure Ext (n : Nat) (P P' : Pg) (V V' : UInt32 → Bs) (made : List UInt32) : Prop where
 used : P'.now.used = fun x => made.elem x || P.now.used x
 writ : P'.now.written = fun x => made.elem x || P.now.written x
 new : ∀ x ∈ made, P.free x = true ∧ x.toNat < n
 nodup : made.Nodup
 kept : P'.kept = P.kept
 at_ : P'.at_ = P.at_
 old : ∀ x, P.now.written x = true → V' x = V x
section
variable {n : Nat} {P P' P'' : Pg} {V V' V'' : UInt32 → Bs} {made more : List UInt32}
theorem Ext.refl (n : Nat) (P : Pg) (V : UInt32 → Bs) : Ext n P P V V [] :=
 ⟨by funext x; rfl, by funext x; rfl, fun x h => by simp at h, List.nodup_nil, rfl, rfl, fun _ _ => rfl⟩
theorem Ext.trans (h : Ext n P P' V V' made) (h' : Ext n P' P'' V' V'' more) : Ext n P P'' V V'' (made ++ more) := by
 have hfree : ∀ x, P'.free x = true → P.free x = true ∧ x ∉ made := fun x hx => by
  unfold Pg.free at hx ⊢
  rw [h.used, h.kept] at hx
  simp only [Bool.and_eq_true, Bool.not_eq_true', Bool.or_eq_false_iff] at hx
  refine ⟨by rw [hx.1.2, hx.2]; rfl, fun hm => ?_⟩
  rw [List.elem_eq_true_of_mem hm] at hx; exact absurd hx.1.1 (by simp)
 refine ⟨?_, ?_, fun x hx => ?_, ?_, h'.kept.trans h.kept, h'.at_.trans h.at_, fun x hx => ?_⟩
 ·rw [h'.used, h.used]; funext x
  have : (made ++ more).elem x = (made.elem x || more.elem x) := by simp [List.elem_eq_mem]
  show (more.elem x || (made.elem x || _)) = _
  rw [this, Bool.or_assoc, Bool.or_left_comm]
 ·rw [h'.writ, h.writ]; funext x
  have : (made ++ more).elem x = (made.elem x || more.elem x) := by simp [List.elem_eq_mem]
  show (more.elem x || (made.elem x || _)) = _
  rw [this, Bool.or_assoc, Bool.or_left_comm]
 ·rcases List.mem_append.1 hx with hx | hx
  ·exact h.new x hx
  ·exact ⟨(hfree x (h'.new x hx).1).1, (h'.new x hx).2⟩
 ·rw [List.nodup_append]
  exact ⟨h.nodup, h'.nodup, fun a ha b hb e => by subst e; exact (hfree a (h'.new a hb).1).2 ha⟩
 ·rw [h'.old x (by rw [h.writ]; simp only [hx, Bool.or_true]), h.old x hx]
theorem Ext.one {i : UInt32} {l : Bs} {cnt : UInt32} {g : UInt32 → Option UInt64} (hf : P.free i = true) (hi : i.toNat < n) (hw : P.now.written i = false) :
  Ext n P { P with count := cnt, now := { P.now with used := dn P.now.used i, written := dn P.now.written i }, gens := g } V (qz V i l) [i] := by
 refine ⟨?_, ?_, fun x hx => ?_, List.nodup_cons.2 ⟨by simp, List.nodup_nil⟩, rfl, rfl, fun x hx => ?_⟩
 ·funext x
  show (decide (x = i) || P.now.used x) = _
  simp [List.elem_eq_mem]
 ·funext x
  show (decide (x = i) || P.now.written x) = _
  simp [List.elem_eq_mem]
 ·rw [List.mem_singleton] at hx; subst hx; exact ⟨hf, hi⟩
 ·unfold qz
  rw [if_neg (fun e => by subst e; rw [hw] at hx; cases hx)]
theorem Ext.mem (h : Ext n P P' V V' made) {x : UInt32} (hx : x ∈ made) : P'.now.used x = true ∧ P'.now.written x = true := by
 rw [h.used, h.writ]
 have h0 := List.elem_eq_true_of_mem hx
 exact ⟨by show (made.elem x || _) = true; rw [h0]; rfl, by show (made.elem x || _) = true; rw [h0]; rfl⟩
theorem Ext.wr (h : Ext n P P' V V' made) {x : UInt32} (hx : P.now.written x = true) : P'.now.written x = true := by rw [h.writ]; simp [hx]
theorem Ext.us (h : Ext n P P' V V' made) {x : UInt32} (hx : P.now.used x = true) : P'.now.used x = true := by rw [h.used]; simp [hx]
theorem Ext.free (h : Ext n P P' V V' made) {x : UInt32} : P'.free x = true ↔ P.free x = true ∧ x ∉ made := by
 rw [free_iff, free_iff, h.used, h.kept]
 simp only [Bool.or_eq_false_iff]
 constructor
 ·rintro ⟨⟨h1, h2⟩, h3⟩
  exact ⟨⟨h2, h3⟩, fun hm => by rw [List.elem_eq_true_of_mem hm] at h1; cases h1⟩
 ·rintro ⟨⟨h1, h2⟩, h3⟩
  exact ⟨⟨by simpa [List.elem_eq_mem] using h3, h1⟩, h2⟩
theorem Ext.fresh (h : Ext n P P' V V' made) {x : UInt32} : P'.fresh x = true ↔ x ∈ made ∨ P.fresh x = true := by
 rw [fresh_iff, fresh_iff, h.used, h.kept]
 constructor
 ·rintro ⟨h1, h2⟩
  simp only [Bool.or_eq_true] at h1
  rcases h1 with h1 | h1
  ·exact .inl (List.mem_of_elem_eq_true h1)
  ·exact .inr ⟨h1, h2⟩
 ·rintro (h1 | ⟨h1, h2⟩)
  ·exact ⟨by show (made.elem x || _) = true; rw [List.elem_eq_true_of_mem h1]; rfl, (free_iff.1 (h.new x h1).1).2⟩
  ·exact ⟨by simp [h1], h2⟩
theorem Ext.undo (h : Ext n P P' V V' made) (hw : ∀ x, P.now.written x = true → P.now.used x = true) (hu : P''.now.used = fun x => !made.elem x && P'.now.used x) (hwr : P''.now.written = fun x => !made.elem x && P'.now.written x) (hk : P''.kept = P'.kept) (ha : P''.at_ = P'.at_) : Ext n P P'' V V' [] := by
 have hm : ∀ x, made.elem x = true → P.now.used x = false := fun x hx => (free_iff.1 (h.new x (List.mem_of_elem_eq_true hx)).1).1
 refine ⟨?_, ?_, fun x hx => by simp at hx, List.nodup_nil, hk.trans h.kept, ha.trans h.at_, h.old⟩
 ·rw [hu, h.used]; funext x
  show (!made.elem x && (made.elem x || P.now.used x)) = P.now.used x
  cases hx : made.elem x with
  | false => rfl
  | true => rw [hm x hx]; rfl
 ·rw [hwr, h.writ]; funext x
  show (!made.elem x && (made.elem x || P.now.written x)) = P.now.written x
  cases hx : made.elem x with
  | false => rfl
  | true =>
   cases hq : P.now.written x with
   | false => rfl
   | true => have h1 := hm x hx; rw [hw x hq] at h1; cases h1
theorem Ext.room (h : Ext n P P' V V' made) (hn : n ≤ 400) (h0 : ∀ j, j < n → P'.free (UInt32.ofNat j) = false) : dR P n ≤ made.length := by
 have hsub : ∀ i ∈ (List.range n).filter (fun i => P.free (UInt32.ofNat i)), i ∈ made.map (·.toNat) := fun i hi => by
  rw [List.mem_filter, List.mem_range] at hi
  have h1 := h0 i hi.1
  by_cases hm : UInt32.ofNat i ∈ made
  ·refine List.mem_map.2 ⟨_, hm, ?_⟩
   rw [UInt32.toNat_ofNat']; omega
  ·rw [h.free.2 ⟨hi.2, hm⟩] at h1; cases h1
 have hnd : ((List.range n).filter fun i => P.free (UInt32.ofNat i)).Nodup := List.nodup_range.filter _
 have := nr _ _ hnd hsub
 rwa [List.length_map] at this
end
end Go.Sac

end
section
namespace Go.Sac
open Go
structure Sp where
 lo : Bs
 hi : Bs
 fin : Bool
def Sp.has (s : Sp) (k : Bs) : Bool := !ltB k s.lo && (!s.fin || ltB k s.hi)
def Sp.emp (s : Sp) : Bool := s.fin && !ltB s.lo s.hi
def Sp.kid (s : Sp) (ks : List Bs) (i : Nat) : Sp :=
 let lo := if 0 < i then uC s.lo (ks.getD (i - 1) []) else s.lo
 if i < ks.length ∧ (s.fin = false ∨ ltB (ks.getD i []) s.hi = true) then ⟨lo, ks.getD i [], true⟩ else ⟨lo, s.hi, s.fin⟩
def eo (s : Sp) (m : List Pr) : List Pr := m.filter fun p => s.has p.1
theorem maxB_le {a b k : Bs} (h1 : ltB k a = false) (h2 : ltB k b = false) : ltB k (uC a b) = false := by
 unfold uC; split <;> assumption
theorem Sp.kid_has {s : Sp} {ks : List Bs} {i : Nat} {k : Bs} (h : s.has k = true) (h1 : 0 < i → ltB k (ks.getD (i - 1) []) = false) (h2 : i < ks.length → ltB k (ks.getD i []) = true) : (s.kid ks i).has k = true := by
 unfold Sp.has at h
 simp only [Bool.and_eq_true, Bool.not_eq_true', Bool.or_eq_true] at h
 have hlo : ltB k (if 0 < i then uC s.lo (ks.getD (i - 1) []) else s.lo) = false := by
  split
  ·rename_i hi; exact maxB_le h.1 (h1 hi)
  ·exact h.1
 unfold Sp.kid
 simp only
 split
 ·rename_i hc
  unfold Sp.has
  simp only [hlo, h2 hc.1, Bool.not_false, Bool.true_and, Bool.or_true]
 ·unfold Sp.has
  simp only [hlo, Bool.not_false, Bool.true_and, Bool.or_eq_true, Bool.not_eq_true']
  exact h.2
theorem Sp.emp_has {s : Sp} {k : Bs} (h : s.emp = true) : s.has k = false := by
 unfold Sp.emp at h
 simp only [Bool.and_eq_true, Bool.not_eq_true'] at h
 cases hh : s.has k with
 | false => rfl
 | true =>
  unfold Sp.has at hh
  rw [h.1] at hh
  simp only [Bool.and_eq_true, Bool.not_eq_true', Bool.not_true, Bool.false_or] at hh
  rw [kj hh.1 hh.2] at h; cases h.2
theorem Af {s : Sp} {m : List Pr} (h : ∀ p ∈ m, s.has p.1 = false) : eo s m = [] := gP h
theorem mi (s : Sp) (a b : List Pr) : eo s (a ++ b) = eo s a ++ eo s b := List.filter_append ..
theorem rC {α : Type} (o a b : List α) (k : Nat) : o ++ a.take (k - o.length) ++ b.take (k - (o ++ a.take (k - o.length)).length) = o ++ (a ++ b).take (k - o.length) := by
 rw [List.append_assoc, List.take_append, List.length_append, List.length_take]
 congr 2
 congr 1
 omega
theorem rD {α : Type} (o a : List α) (k : Nat) (h : k ≤ o.length) : o ++ a.take (k - o.length) = o := by
 rw [Nat.sub_eq_zero_of_le h, List.take_zero, List.append_nil]
theorem Seps.kid {x : List Pr} : ∀ {ks : List Bs} {ms : List (List Pr)} {i : Nat}, Seps ks ms → ms[i]? = some x → (∀ j, j < i → ∀ p ∈ x, ltB p.1 (ks.getD j []) = false) ∧ (i < ks.length → ∀ p ∈ x, ltB p.1 (ks.getD i []) = true)
 | [], [m], i, _, hx => by
  cases i with
  | zero => exact ⟨fun j hj => by omega, fun h => by simp at h⟩
  | succ i => simp at hx
 | [], [], _, h, _ => h.elim
 | [], _ :: _ :: _, _, h, _ => h.elim
 | _ :: _, [], _, h, _ => h.elim
 | k :: ks, m :: ms, 0, h, hx => by
  have hx : m = x := Option.some.inj hx
  subst hx
  exact ⟨fun j hj => by omega, fun _ p hp => h.1 p hp⟩
 | k :: ks, m :: ms, i + 1, h, hx => by
  have hx : ms[i]? = some x := hx
  obtain ⟨q1, q2⟩ := Seps.kid h.2.2 hx
  refine ⟨fun j hj p hp => ?_, fun hi p hp => q2 (by simpa using hi) p hp⟩
  cases j with
  | zero => exact h.2.1 p (List.mem_flatten.2 ⟨x, List.mem_of_getElem? hx, hp⟩)
  | succ j => exact q1 j (by omega) p hp
theorem Seps.key_has {s : Sp} : ∀ {ks : List Bs} {ms : List (List Pr)}, Seps ks ms → (∀ m ∈ ms, m ≠ []) → (∀ p ∈ ms.flatten, s.has p.1 = true) → ∀ k ∈ ks, s.has k = true
 | [], _, _, _, _ => fun k hk => by simp at hk
 | _ :: _, [], h, _, _ => h.elim
 | k :: ks, m :: ms, h, hn, hp => fun c hc => by
  have hp' : ∀ p ∈ ms.flatten, s.has p.1 = true := fun p hq => hp p (by rw [List.flatten_cons]; exact List.mem_append_right _ hq)
  rcases List.mem_cons.1 hc with rfl | hc
  ·obtain ⟨p1, h1⟩ := List.exists_mem_of_ne_nil _ (hn m List.mem_cons_self)
   have hl := h.2.2.len
   obtain ⟨m2, ms', rfl⟩ : ∃ m2 ms', ms = m2 :: ms' := by
    cases ms with
    | nil => simp at hl
    | cons a b => exact ⟨a, b, rfl⟩
   obtain ⟨p2, h2⟩ := List.exists_mem_of_ne_nil _ (hn m2 (by simp))
   have q1 := hp p1 (by rw [List.flatten_cons]; exact List.mem_append_left _ h1)
   have q2 := hp' p2 (by rw [List.flatten_cons]; exact List.mem_append_left _ h2)
   have r1 := h.1 p1 h1
   have r2 := h.2.1 p2 (by rw [List.flatten_cons]; exact List.mem_append_left _ h2)
   unfold Sp.has at q1 q2 ⊢
   simp only [Bool.and_eq_true, Bool.not_eq_true', Bool.or_eq_true] at q1 q2 ⊢
   refine ⟨?_, q2.2.imp id (fun q => kj r2 q)⟩
   cases hh : ltB c s.lo with
   | false => rfl
   | true => rw [dy r1 hh] at q1; cases q1.1
  ·exact Seps.key_has h.2.2 (fun x hx => hn x (List.mem_cons_of_mem _ hx)) hp' c hc
end Go.Sac

end
section
namespace Go.Sac
open Go
theorem Seps.keys_lo {k : Bs} : ∀ {ks : List Bs} {ms : List (List Pr)}, Seps ks ms → (∀ m ∈ ms, m ≠ []) → Below ms.flatten k → ∀ c ∈ ks, ltB c k = true
 | [], _, _, _, _ => fun c hc => by simp at hc
 | _ :: _, [], h, _, _ => h.elim
 | c :: ks, m :: ms, h, hn, hb => fun x hx => by
  rw [List.flatten_cons, Below.app] at hb
  have hn' : ∀ m ∈ ms, m ≠ [] := fun m hm => hn m (List.mem_cons_of_mem _ hm)
  rcases List.mem_cons.1 hx with rfl | hx
  ·cases ms with
   | nil => exact absurd h.2.2.len (by simp)
   | cons m' ms =>
    obtain ⟨p, hp⟩ := List.exists_mem_of_ne_nil _ (hn' m' List.mem_cons_self)
    have hp' : p ∈ (m' :: ms).flatten := by rw [List.flatten_cons]; exact List.mem_append_left _ hp
    exact kj (h.2.1 p hp') (hb.2 p hp')
  ·exact Seps.keys_lo h.2.2 hn' hb.2 x hx
theorem Seps.keys_hi {k : Bs} : ∀ {ks : List Bs} {ms : List (List Pr)}, Seps ks ms → (∀ m ∈ ms, m ≠ []) → Above ms.flatten k → ∀ c ∈ ks, ltB k c = true
 | [], _, _, _, _ => fun c hc => by simp at hc
 | _ :: _, [], h, _, _ => h.elim
 | c :: ks, m :: ms, h, hn, hb => fun x hx => by
  rw [List.flatten_cons, Above.app] at hb
  rcases List.mem_cons.1 hx with rfl | hx
  ·obtain ⟨p, hp⟩ := List.exists_mem_of_ne_nil _ (hn m List.mem_cons_self)
   exact kj (hb.1 p hp) (h.1 p hp)
  ·exact Seps.keys_hi h.2.2 (fun m hm => hn m (List.mem_cons_of_mem _ hm)) hb.2 x hx
theorem KidsT.some {V : UInt32 → Bs} {d : Nat} {ts : List Kd} (h : KidsT V d ts) : ∀ m ∈ msT ts, m ≠ [] := fun m hm => by
 obtain ⟨t, ht, rfl⟩ := List.mem_map.1 hm
 exact (h t ht).2
theorem CT.join {V : UInt32 → Bs} {d : Nat} {k1 k2 : List Bs} {i1 i2 p1 p2 : List UInt32} {m1 m2 : List Pr} {k : Bs} (h1 : CT V (d + 1) (.br k1 i1) p1 m1) (h2 : CT V (d + 1) (.br k2 i2) p2 m2) (hb : Below m1 k) (ha : Above m2 k) (hk : ji k) :
  CT V (d + 1) (.br (k1 ++ k :: k2) (i1 ++ i2)) (p1 ++ p2) (m1 ++ m2) := by
 obtain ⟨t1, rfl, o1, rfl, rfl, s1, q1⟩ := h1
 obtain ⟨t2, rfl, o2, rfl, rfl, s2, q2⟩ := h2
 have hb' : Below (msT t1).flatten k := by rw [gN]; exact hb
 have ha' : Above (msT t2).flatten k := by rw [gN]; exact ha
 have hlo := s1.keys_lo q1.some hb'
 have hhi := s2.keys_hi q2.some ha'
 refine ⟨t1 ++ t2, (fw _ _).symm, ⟨fun c hc => ?_, ?_⟩, (dw _ _).symm, (eC _ _).symm, by rw [eU]; exact Seps.join s2 ha' s1 hb' hlo, KidsT.app.2 ⟨q1, q2⟩⟩
 ·rcases List.mem_append.1 hc with hc | hc
  ·exact o1.1 c hc
  ·rcases List.mem_cons.1 hc with rfl | hc
   ·exact hk
   ·exact o2.1 c hc
 ·unfold gW
  rw [List.pairwise_append]
  refine ⟨o1.2, List.pairwise_cons.2 ⟨hhi, o2.2⟩, fun a hA b hB => ?_⟩
  rcases List.mem_cons.1 hB with rfl | hB
  ·exact hlo a hA
  ·exact dy (hlo a hA) (hhi b hB)
theorem Hole.nbr {V : UInt32 → Bs} {d : Nat} {K1 K2 : List Bs} {A B : List Kd} {m : List Pr} (h : Hole V (d + 1) K1 K2 A B m) (hne : K1 ++ K2 ≠ []) :
  ∃ (z : Bool) (L1 : List Bs) (k : Bs) (L2 : List Bs) (C D : List Kd) (t : Kd), K1 ++ K2 = L1 ++ k :: L2 ∧ C.length = L1.length ∧ ji k ∧ isT V (d + 1) t.1 t.2.1 t.2.2 ∧ t.2.2 ≠ [] ∧ (∀ x ∈ t.2.1, x ∈ pgT A ++ pgT B) ∧ (A.length = 0 ↔ z = true) ∧ A.length = C.length + (!z).toNat ∧
   (∀ i0 : UInt32, ∃ l r, aS A ++ i0 :: aS B = aS C ++ l :: r :: aS D ∧ (bif z then r else l) = t.1) ∧
   ∀ (kk : List Bs) (ik pk : List UInt32) (ky : List Bs) (iy py : List UInt32), CT V (d + 1) (.br kk ik) pk m → CT V (d + 1) (.br ky iy) py t.2.2 → t.2.1 = t.1 :: py → ∃ mm pp,
    CT V (d + 1) (.br ((bif z then kk else ky) ++ k :: (bif z then ky else kk)) ((bif z then ik else iy) ++ (bif z then iy else ik))) pp mm ∧ Hole V (d + 1) L1 L2 C D mm ∧ prT C ++ (mm ++ prT D) = prT A ++ (m ++ prT B) ∧ (pgT C ++ (pp ++ pgT D) ++ [t.1]).Perm (pgT A ++ (pk ++ pgT B)) := by
 have hA : A = [] ∨ ∃ C t, A = C ++ [t] := by
  cases hA : A with
  | nil => exact .inl rfl
  | cons a l => exact .inr ⟨_, _, (List.dropLast_concat_getLast (List.cons_ne_nil a l)).symm⟩
 rcases hA with rfl | ⟨C, t, rfl⟩
 ·have hl := h.la
  cases K1 with
  | cons => simp at hl
  | nil =>
   cases K2 with
   | nil => exact absurd rfl hne
   | cons k L2 =>
    have hb := h.lb
    cases B with
    | nil => simp at hb
    | cons t D =>
     have hs : Seps (k :: L2) (m :: t.2.2 :: msT D) := h.seps
     have hk := h.keys.1 k (by simp)
     have hq := KidsT.cons.1 h.kb
     have hab : Above t.2.2 k := fun p hp => hs.2.1 p (by rw [List.flatten_cons]; exact List.mem_append_left _ hp)
     refine ⟨true, [], k, L2, [], D, t, rfl, rfl, hk, hq.1.1, hq.1.2, fun x hx => by rw [ey]; simp [hx], by simp, rfl, fun i0 => ⟨i0, t.1, rfl, rfl⟩, fun kk ik pk ky iy py h1 h2 hp => ⟨m ++ t.2.2, pk ++ py, h1.join h2 hs.1 hab hk, h.mergeR, by rw [eY]; simp, ?_⟩⟩
     rw [ey, hp, List.perm_iff_count]
     intro x
     simp only [List.count_append, List.count_cons, List.count_nil]
     omega
 ·have hl := h.la
  rw [List.length_append, List.length_singleton] at hl
  have hn1 : K1 ≠ [] := fun e => by rw [e] at hl; simp at hl
  obtain ⟨L1, k, rfl⟩ : ∃ L1 k, K1 = L1 ++ [k] := ⟨K1.dropLast, K1.getLast hn1, (List.dropLast_concat_getLast hn1).symm⟩
  rw [List.length_append, List.length_singleton] at hl
  have hs := h.seps
  rw [eU, List.append_assoc, List.append_assoc, List.singleton_append] at hs
  have hs2 : Seps (k :: K2) (t.2.2 :: m :: msT B) := Seps.drop (by rw [msT, List.length_map]; omega) hs
  have hk := h.keys.1 k (by simp)
  have hq := KidsT.cons.1 (KidsT.app.1 h.ka).2
  have hab : Above m k := fun p hp => hs2.2.1 p (by rw [List.flatten_cons]; exact List.mem_append_left _ hp)
  refine ⟨false, L1, k, K2, C, B, t, by simp, by omega, hk, hq.1.1, hq.1.2, fun x hx => by rw [dw, ey]; simp [hx], by simp, by simp, fun i0 => ⟨t.1, i0, by rw [fw]; simp [aS], rfl⟩, fun kk ik pk ky iy py h1 h2 hp => ⟨t.2.2 ++ m, py ++ pk, h2.join h1 hs2.1 hab hk, h.mergeL, by rw [eC, eY]; simp [prT], ?_⟩⟩
  rw [dw, ey, hp, List.perm_iff_count]
  intro x
  simp only [List.count_append, List.count_cons, List.count_nil, pgT, List.flatMap_nil]
  omega
end Go.Sac

end
section
namespace Go.Sac
set_option maxRecDepth 100000
def kA : List UInt8 := 0 :: 1 :: List.replicate 30 0
def kB : List UInt8 := 0 :: 2 :: List.replicate 30 0
def zB : PgF := dn j4 0
def supK (c : UInt64) (e : UInt32) : Sup := ⟨7, [109], zB, zB, c, e⟩
def AM : List UInt8 := 1 :: List.replicate 49 0
def bytK (c e : Nat) : List UInt8 := be 8 c ++ be 4 e ++ be 4 7 ++ (be 2 1 ++ [109]) ++ AM ++ AM
end Go.Sac

end
section
namespace Go.Sac
open Go
theorem Ext.count {n : Nat} {P P' : Pg} {V V' : UInt32 → Bs} {made : List UInt32} (h : Ext n P P' V V' made) (hn : n ≤ 400) : dR P n ≤ dR P' n + made.length := by
 have hsub : ∀ i ∈ (List.range n).filter (fun i => P.free (UInt32.ofNat i)), i ∈ (List.range n).filter (fun i => P'.free (UInt32.ofNat i)) ++ made.map (·.toNat) := fun i hi => by
  rw [List.mem_filter, List.mem_range] at hi
  rw [List.mem_append, List.mem_filter, List.mem_range]
  by_cases hm : UInt32.ofNat i ∈ made
  ·refine .inr (List.mem_map.2 ⟨_, hm, ?_⟩)
   rw [UInt32.toNat_ofNat']; omega
  ·exact .inl ⟨hi.1, h.free.2 ⟨hi.2, hm⟩⟩
 have hnd : ((List.range n).filter fun i => P.free (UInt32.ofNat i)).Nodup := List.nodup_range.filter _
 have := nr _ _ hnd hsub
 rwa [List.length_append, List.length_map] at this
end Go.Sac

end
section
namespace Go.Sac
open Go
def kv (x : Bs) : Pr := (x, 118 :: x)
theorem Ar {l : List Pr} (p : Pr) (hs : dK l) : (eL l p).length = l.length + (!dN l p.1).toNat := by
 cases h : dN l p.1 with
 | true => rw [pJ hs h, List.length_set]; rfl
 | false =>
  have := oC l p.1
  rw [jX hs h, List.length_append, List.length_cons, List.length_take, List.length_drop]
  show _ = l.length + 1
  omega
theorem yA {l : List Pr} (p : Pr) (hs : dK l) : (eL l p).length ≤ l.length + 1 := by
 have h := Ar p hs
 have : (!dN l p.1).toNat ≤ 1 := Bool.toNat_le _
 omega
theorem rS : ∀ {l : List Pr}, (∀ p ∈ l, p.1.length + p.2.length ≤ 7) → bK l ≤ 3 + 11 * l.length
 | [], _ => by simp [bK]
 | p :: l, h => by
  have h1 := rS (l := l) (fun q hq => h q (List.mem_cons_of_mem _ hq))
  have h2 := h p List.mem_cons_self
  have h3 := dk [p] l
  rw [g0, List.singleton_append] at h3
  rw [List.length_cons]; omega
def u9 (m : List Pr) (lo hi : Bs) (most : Nat) : List Pr := (eo ⟨lo, hi, decide (hi ≠ [])⟩ m).take most
theorem yt (m : List Pr) (n : Nat) : u9 m [] [] n = m.take n := by
 unfold u9
 congr 1
 exact ec (fun p _ => by simp [Sp.has, mG])
theorem nP {m : List Pr} {n : Nat} (h : m.length ≤ n) : u9 m [] [] n = m := by
 rw [yt, List.take_of_length_le h]
end Go.Sac

end
section
namespace Go.Sac
open Go
section
variable {P : Program} {E : Env} {w : World} {ty t u : TypeId} {x y : Operand} {a b : Pr}
theorem sT {f g : Field} (hu : P.underlying t = some (.struct #[f, g])) (hp : P.stoodInHeld t = false) (hn1 : f.name ≠ "_") (hn2 : g.name ≠ "_") (ho1 : f.offset = 0) (ho2 : g.offset = 1) (h1 : P.underlying f.type = some .string) (h2 : P.underlying g.type = some .string) :
  (Op.equalIn 10000 t (.agg #[str a.1, str a.2]) (.agg #[str b.1, str b.2])).run P w = .ok (decide (a = b)) w := by
 have hfs : P.fieldsOf t = #[f, g] := by unfold Program.fieldsOf; rw [hu]
 have hf : (P.fieldsOf t).toList = [f, g] := by rw [hfs]
 rw [run_equalIn_agg w 9999 t _ _ (by rw [hfs]; exact hu) hp, hf]
 unfold Op.eqFields
 rw [if_pos hn1, ho1, an (gu (v := str a.1) h1 rfl rfl), an (gu (v := str b.1) h1 rfl rfl), an (run_equalIn_string w 9998 f.type _ _ h1)]
 rw [sg]
 unfold Op.eqFields
 by_cases e1 : a.1 = b.1
 ·rw [if_neg (by simp [e1]), if_pos hn2, ho2, an (gu (v := str a.2) h2 rfl rfl), an (gu (v := str b.2) h2 rfl rfl), an (run_equalIn_string w 9998 g.type _ _ h2)]
  rw [sg]
  by_cases e2 : a.2 = b.2
  ·rw [if_neg (by simp [e2])]
   have : a = b := Prod.ext e1 e2
   rw [decide_eq_true this]; rfl
  ·rw [if_pos (by simp [e2])]
   have : a ≠ b := fun h => e2 (by rw [h])
   rw [decide_eq_false this]; rfl
 ·rw [if_pos (by simp [e1])]
  have : a ≠ b := fun h => e1 (by rw [h])
  rw [decide_eq_false this]; rfl
theorem x_nePr {f g : Field} (hx : ev E x = .agg #[str a.1, str a.2]) (hy : ev E y = .agg #[str b.1, str b.2]) (hg : P.eqGuardType P.depth t = false) (hu : P.underlying t = some (.struct #[f, g])) (hp : P.stoodInHeld t = false) (hn1 : f.name ≠ "_") (hn2 : g.name ≠ "_") (ho1 : f.offset = 0) (ho2 : g.offset = 1) (h1 : P.underlying f.type = some .string) (h2 : P.underlying g.type = some .string) :
  exec P E (.binOp .neq t x y u) ty w = .ok (.value (.bool (decide (a ≠ b)))) w := by
 rw [kq, hx, hy]
 refine aT ?_
 rw [an (run_eqGuard_agg w .neq t x y _ _ hg)]
 rw [run_neq_struct, sT hu hp hn1 hn2 ho1 ho2 h1 h2]
 simp
end
end Go.Sac

end
section
namespace Go.Sac
open Go
instance : Flat UInt16 := ⟨1, fun b => [.int .u16 b.toNat], fun _ => rfl, fun _ v h => by simp at h; subst h; rfl⟩
section
variable {P : Program} {E : Env} {w : World} {ty t u : TypeId} {x y : Operand} {k : IntKind} {a b : UInt16}
theorem x_rem16 (hx : ev E x = .int .u16 a.toNat) (hy : ev E y = .int .u16 b.toNat) (h : b ≠ 0) : exec P E (.binOp .rem t x y u) ty w = .ok (.value (.int .u16 (a % b).toNat)) w := by
 have hb : (b.toNat : Int) ≠ 0 := fun hh => h (UInt16.toNat_inj.1 (by rw [UInt16.toNat_zero]; omega))
 rw [zE hx hy hb, Int.tmod_eq_emod_of_nonneg (by omega), UInt16.toNat_mod]; congr 3
end
end Go.Sac

end
section
namespace Go.Sac
open Go Go.ChangeShapes
theorem rd_u16 {P : Program} {t : TypeId} (ht : P.underlying t = some (.int .u16)) : RdF P t UInt16 okT := by
 intro H enc w base sp held fuel cs x h
 obtain ⟨n, rfl, _, hw⟩ := DataW.trod_int ht h
 have hw : 0 ≤ n ∧ n ≤ 65535 := by
  simp only [Lit.wf, Bool.and_eq_true, decide_eq_true_eq] at hw
  exact hw
 refine ⟨UInt16.ofNat n.toNat, ?_, trivial⟩
 show [Value.int .u16 n] = [.int .u16 ((UInt16.ofNat n.toNat).toNat : Int)]
 rw [UInt16.toNat_ofNat']
 congr 2
 omega
end Go.Sac

end
