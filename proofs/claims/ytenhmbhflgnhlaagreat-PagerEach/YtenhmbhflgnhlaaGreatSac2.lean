/- Pages each with their own bytes tell them, in whatever order they were written. It holds for every input; there are no conditions. -/
import Derived.Test.YtenhmbhflgnhlaaGreatSac1
import Derived.OpenShut
namespace Go.Sac
open Go Go.ChangeShapes
abbrev SliceV := { v : Value // ∃ p n c, v = .slice p n c }
instance : Flat SliceV := ⟨1, fun v => [v.1], fun _ => rfl, fun v x h => by
  simp only [List.mem_singleton] at h; subst h
  obtain ⟨v, p, n, c, rfl⟩ := v; rfl⟩
theorem rd_sl {α : Type} [Flat α] {ok : World → α → Prop} {P : Program} {t te : TypeId} (R : RdF P te α ok) (ht : P.underlying t = some (.slice te)) (hc : P.cellsOf te = Flat.sz α) (hpos : 0 < Flat.sz α) :
    RdF P t SliceV (fun w v => ∃ l : List α, SlE w v.1 l ∧ ∀ a ∈ l, ok w a) := by
  intro H enc W base sp held fuel cs x h
  rcases DataW.trod_slice ht h with ⟨hcs, _⟩ | ⟨a, len, cap, elems, rest, n, _, hcs, _, hb, hlc, _, hlen, hel, _, _⟩
  · exact ⟨⟨.slice none 0 0, _, _, _, rfl⟩, hcs, [], .inl (Sl.nil W 0), by simp⟩
  · refine ⟨⟨.slice (some a) len cap, _, _, _, rfl⟩, hcs, ?_⟩
    obtain ⟨l, hl, hp⟩ := list_of_fun (α := α) (fun i x => W.cells? base (a.add (i * P.cellsOf te)) (P.cellsOf te) = some (Flat.enc x) ∧ ok W x) len (fun i hi => by
      have h := hel i hi
      obtain ⟨y, hy⟩ : ∃ y, elems[i]? = some y := ⟨elems[i], List.getElem?_eq_getElem (by omega)⟩
      rw [hy] at h
      obtain ⟨cs, h1, h2⟩ := Option.bind_eq_some_iff.1 h
      obtain ⟨a, rfl, ha⟩ := R h2
      exact ⟨a, h1, ha⟩)
    refine ⟨l, ?_, fun x hx => ?_⟩
    · by_cases h0 : len = 0
      · subst h0
        exact .inr ⟨List.eq_nil_of_length_eq_zero hl, _, _, rfl⟩
      · left
        obtain ⟨ab, ao, asp⟩ := a
        have hl0 : l[0]? = some l[0] := List.getElem?_eq_getElem (by omega)
        obtain ⟨h1, _⟩ := hp 0 _ hl0
        obtain ⟨_, hle, hcell⟩ := World.cells?_some h1
        have hc0 := hcell 0 (by rw [hc]; exact hpos)
        have hex : ∃ x, (Flat.enc l[0])[0]? = some x := ⟨(Flat.enc l[0])[0]'(by rw [Flat.len]; exact hpos), List.getElem?_eq_getElem _⟩
        obtain ⟨x0, hx0⟩ := hex
        rw [hx0] at hc0
        have hz : ((⟨ab, ao, asp⟩ : Addr).add (0 * P.cellsOf te)).add 0 = ⟨ab, ao, asp⟩ := by simp [Addr.add]
        rw [hz] at hc0
        have hsp : asp = none := by
          cases asp with
          | none => rfl
          | some s =>
            unfold World.cell? at hc0
            simp only at hc0
            split at hc0
            · simp at hc0
            · cases hc0
        subst hsp
        obtain ⟨c, row, fr, hblk⟩ : ∃ c row fr, W.heap[ab]? = some (.cells c row fr) := by
          unfold World.cell? at hc0
          simp only at hc0
          split at hc0
          · rename_i c e fr hb'; exact ⟨c, e, fr, hb'⟩
          · cases hc0
        refine ⟨some ⟨ab, ao, none⟩, cap, by rw [hl], by omega, ⟨rfl, c, row, fr, hblk, ?_⟩⟩
        intro j x hx
        have hj := (List.getElem?_eq_some_iff.1 hx).1
        rw [encL_length] at hj
        have hjd : j = j / Flat.sz α * Flat.sz α + j % Flat.sz α := by rw [Nat.mul_comm]; exact (Nat.div_add_mod j _).symm
        have hi : j / Flat.sz α < l.length := Nat.div_lt_of_lt_mul (by rw [Nat.mul_comm]; exact hj)
        have hm : j % Flat.sz α < Flat.sz α := Nat.mod_lt _ hpos
        have hli : l[j / Flat.sz α]? = some l[j / Flat.sz α] := List.getElem?_eq_getElem hi
        rw [hjd, encL_at l hli _ hm] at hx
        obtain ⟨h1, _⟩ := hp _ _ hli
        rw [hc] at h1
        obtain ⟨_, _, hcell⟩ := World.cells?_some h1
        have := (hcell (j % Flat.sz α) hm).trans hx
        rw [addr_add, addr_add] at this
        simp only [World.cell?, hblk] at this
        rw [hjd]
        simpa [Nat.add_assoc] using this
    · obtain ⟨i, hi, rfl⟩ := List.mem_iff_getElem.1 hx
      exact (hp i _ (List.getElem?_eq_getElem hi)).2
structure StepV where
  what : Int
  i : Int
  kek : UInt8
  key : UInt8
  power : Int
  ch : SliceV
instance : Flat StepV := ⟨6, fun s => [.int .i64 s.what, .int .i64 s.i, .int .u8 s.kek.toNat, .int .u8 s.key.toNat, .int .i64 s.power, s.ch.1], fun _ => rfl, fun s x h => by
  obtain ⟨a, b, c, d, e, v, p, n, c', rfl⟩ := s
  simp only [List.mem_cons, List.not_mem_nil, or_false] at h
  rcases h with rfl | rfl | rfl | rfl | rfl | rfl <;> rfl⟩
def step0 : StepV := ⟨0, 0, 0, 0, 0, ⟨.slice none 0 0, _, _, _, rfl⟩⟩
def okStep (w : World) (s : StepV) : Prop := okI w s.what ∧ okI w s.i ∧ okI w s.power ∧ ∃ l : List UInt8, SlE w s.ch.1 l
theorem rd_step {P : Program} {t ti tb tc : TypeId} {f0 f1 f2 f3 f4 f5 : Field} (ht : P.underlying t = some (.struct #[f0, f1, f2, f3, f4, f5])) (hn : P.cellsOf t = 6)
    (h0 : f0.type = ti) (h1 : f1.type = ti) (h2 : f2.type = tb) (h3 : f3.type = tb) (h4 : f4.type = ti) (h5 : f5.type = tc)
    (o0 : f0.offset = 0) (o1 : f1.offset = 1) (o2 : f2.offset = 2) (o3 : f3.offset = 3) (o4 : f4.offset = 4) (o5 : f5.offset = 5)
    (ci : P.cellsOf ti = 1) (cb : P.cellsOf tb = 1) (cc : P.cellsOf tc = 1) (hi : P.underlying ti = some (.int .i64)) (hb : P.underlying tb = some (.int .u8)) (hc : P.underlying tc = some (.slice tb)) :
    RdF P t StepV okStep := by
  intro H enc w base sp held fuel cs x h
  obtain ⟨xs, n, rfl, _, hlen, hxl, hf⟩ := DataW.trod_struct ht h
  rw [hn] at hlen
  obtain ⟨a, cs, rfl⟩ := List.exists_cons_of_length_eq_add_one (l := cs) (n := 5) hlen
  obtain ⟨b, cs, rfl⟩ := List.exists_cons_of_length_eq_add_one (l := cs) (by simpa using hlen)
  obtain ⟨c, cs, rfl⟩ := List.exists_cons_of_length_eq_add_one (l := cs) (by simpa using hlen)
  obtain ⟨d, cs, rfl⟩ := List.exists_cons_of_length_eq_add_one (l := cs) (by simpa using hlen)
  obtain ⟨e, cs, rfl⟩ := List.exists_cons_of_length_eq_add_one (l := cs) (by simpa using hlen)
  obtain ⟨f, cs, rfl⟩ := List.exists_cons_of_length_eq_add_one (l := cs) (by simpa using hlen)
  obtain rfl : cs = [] := List.eq_nil_of_length_eq_zero (by simpa using hlen)
  have hx : ∀ i, i < 6 → ∃ y, xs[i]? = some y := fun i hi => ⟨xs[i]'(by rw [hxl]; exact hi), List.getElem?_eq_getElem _⟩
  have e0 := hf 0 f0 rfl
  have e1 := hf 1 f1 rfl
  have e2 := hf 2 f2 rfl
  have e3 := hf 3 f3 rfl
  have e4 := hf 4 f4 rfl
  have e5 := hf 5 f5 rfl
  rw [h0, o0, ci] at e0
  rw [h1, o1, ci] at e1
  rw [h2, o2, cb] at e2
  rw [h3, o3, cb] at e3
  rw [h4, o4, ci] at e4
  rw [h5, o5, cc] at e5
  obtain ⟨y0, hy0⟩ := hx 0 (by decide)
  obtain ⟨y1, hy1⟩ := hx 1 (by decide)
  obtain ⟨y2, hy2⟩ := hx 2 (by decide)
  obtain ⟨y3, hy3⟩ := hx 3 (by decide)
  obtain ⟨y4, hy4⟩ := hx 4 (by decide)
  obtain ⟨y5, hy5⟩ := hx 5 (by decide)
  obtain ⟨v0, k0, ok0⟩ := rd_i64 hi (e0.trans hy0)
  obtain ⟨v1, k1, ok1⟩ := rd_i64 hi (e1.trans hy1)
  obtain ⟨v2, k2, _⟩ := rd_u8 hb (e2.trans hy2)
  obtain ⟨v3, k3, _⟩ := rd_u8 hb (e3.trans hy3)
  obtain ⟨v4, k4, ok4⟩ := rd_i64 hi (e4.trans hy4)
  obtain ⟨v5, k5, l, hl, _⟩ := rd_sl (rd_u8 hb) hc (by rw [cb]; rfl) (by decide) (e5.trans hy5)
  refine ⟨⟨v0, v1, v2, v3, v4, v5⟩, ?_, ok0, ok1, ok4, l, hl⟩
  have q0 : a = .int .i64 v0 := by injection k0
  have q1 : b = .int .i64 v1 := by injection k1
  have q2 : c = .int .u8 v2.toNat := by injection k2
  have q3 : d = .int .u8 v3.toNat := by injection k3
  have q4 : e = .int .i64 v4 := by injection k4
  have q5 : f = v5.1 := by injection k5
  rw [q0, q1, q2, q3, q4, q5]
  rfl
theorem open_arr {α : Type} [Flat α] {ok : World → α → Prop} {P : Program} {H : Type} {enc : TypeId × Value → H} {W : World} {base b0 n : Nat} {r : Reach} {t te : TypeId} {v : Value} {d : DataW H} {ps : List MemPlace} {sp : Nat → Bool} {held : Bool}
    (R : RdF P te α ok) (ht : P.underlying t = some (.array n te)) (hc : P.cellsOf te = Flat.sz α) (hn : P.cellsOf t = n * Flat.sz α) (hval : Value.okWide P W r b0 t v) (hd : DataW.Trod enc P W base sp held t v d ps) :
    ∃ l : List α, v = arrV l ∧ l.length = n := by
  have hv : ∃ cs, v = .agg cs ∧ cs.size = P.cellsOf t := by
    unfold Value.okWide at hval
    rw [ht] at hval
    obtain ⟨cs, h1, h2, _⟩ := hval
    exact ⟨cs, h1, h2⟩
  obtain ⟨cs, rfl, hcs⟩ := hv
  obtain ⟨fuel, hf⟩ := hd
  obtain ⟨xs, m, rfl, _, hlen, hxl, hel⟩ := DataW.trod_array ht hf
  simp only [Value.cells] at hlen hel
  obtain ⟨l, hl, hp⟩ := list_of_fun (α := α) (fun i a => (cs.toList.drop (i * Flat.sz α)).take (Flat.sz α) = Flat.enc a) n (fun i hi => by
    have h := hel i hi
    obtain ⟨y, hy⟩ : ∃ y, xs[i]? = some y := ⟨xs[i], List.getElem?_eq_getElem (by omega)⟩
    rw [hy, hc] at h
    obtain ⟨a, ha, _⟩ := R h
    exact ⟨a, ha⟩)
  refine ⟨l, ?_, hl⟩
  show Value.agg cs = .agg (encL l).toArray
  congr 1
  apply Array.ext'
  simp only
  apply List.ext_getElem?
  intro j
  rcases Nat.eq_zero_or_pos (Flat.sz α) with h0 | hpos
  · rw [List.getElem?_eq_none (by rw [hlen, hn, h0]; omega), List.getElem?_eq_none (by rw [encL_length, h0]; omega)]
  · by_cases hj : j < n * Flat.sz α
    · have hjd : j = j / Flat.sz α * Flat.sz α + j % Flat.sz α := by rw [Nat.mul_comm]; exact (Nat.div_add_mod j _).symm
      have hi : j / Flat.sz α < l.length := Nat.div_lt_of_lt_mul (by rw [Nat.mul_comm, hl]; exact hj)
      have hm : j % Flat.sz α < Flat.sz α := Nat.mod_lt _ hpos
      have hli : l[j / Flat.sz α]? = some l[j / Flat.sz α] := List.getElem?_eq_getElem hi
      rw [hjd, encL_at l hli _ hm, ← hp _ _ hli, List.getElem?_take, if_pos hm, List.getElem?_drop]
    · rw [List.getElem?_eq_none (by rw [hlen, hn]; omega), List.getElem?_eq_none (by rw [encL_length, hl]; omega)]
theorem open_u8 {P : Program} {H : Type} {enc : TypeId × Value → H} {W : World} {base b0 : Nat} {r : Reach} {t : TypeId} {v : Value} {d : DataW H} {ps : List MemPlace} {sp : Nat → Bool} {held : Bool}
    (ht : P.underlying t = some (.int .u8)) (hval : Value.okWide P W r b0 t v) (hd : DataW.Trod enc P W base sp held t v d ps) : ∃ a : UInt8, v = .int .u8 a.toNat := by
  obtain ⟨n, rfl, _, _, hw⟩ := open_int ht hval hd
  have hw : 0 ≤ n ∧ n ≤ 255 := by
    simp only [Lit.wf, Bool.and_eq_true, decide_eq_true_eq] at hw
    exact hw
  refine ⟨UInt8.ofNat n.toNat, ?_⟩
  rw [UInt8.toNat_ofNat']
  congr 1
  omega
theorem open_i64 {P : Program} {H : Type} {enc : TypeId × Value → H} {W : World} {base b0 : Nat} {r : Reach} {t : TypeId} {v : Value} {d : DataW H} {ps : List MemPlace} {sp : Nat → Bool} {held : Bool}
    (ht : P.underlying t = some (.int .i64)) (hval : Value.okWide P W r b0 t v) (hd : DataW.Trod enc P W base sp held t v d ps) : ∃ n : Int, v = .int .i64 n ∧ okI W n := by
  obtain ⟨n, rfl, _, _, hw⟩ := open_int ht hval hd
  have hw : -9223372036854775808 ≤ n ∧ n ≤ 9223372036854775807 := by
    simp only [Lit.wf, Bool.and_eq_true, decide_eq_true_eq] at hw
    exact hw
  exact ⟨n, rfl, by unfold okI; omega⟩
theorem open_b {P : Program} {W : World} {b0 : Nat} {r : Reach} {t : TypeId} {v : Value}
    (ht : P.underlying t = some .bool) (hval : Value.okWide P W r b0 t v) : ∃ a : Bool, v = .bool a := WideShapes.okWide_bool ht hval
theorem arr_of {args : Array Value} {l : List Value} (h : args.toList = l) : args = l.toArray := by subst h; rfl
end Go.Sac
