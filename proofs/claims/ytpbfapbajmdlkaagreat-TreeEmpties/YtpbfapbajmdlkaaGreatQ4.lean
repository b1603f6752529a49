/- All pairs put, all taken away, in whatever order: an empty tree of one page; each on the way is one. It holds for every input; there are no conditions. -/
import Derived.Test.YtpbfapbajmdlkaaGreatQ3
import Derived.Test.YtpbfapbajmdlkaaGreatSac2
import Derived.RangeFuncGives
import Derived.Maps.AppendAt
import Derived.Sort.MapsRangeIn
import Derived.WalkKit
import Derived.OwnWalkIn
import Derived.TacticsInMore
import Derived.RegionIn
import Derived.LoopNIn
import Derived.LoopIn
section
namespace Go.Proofs.YtpbfapbajmdlkaaGreat
open Go Go.Sac Go.RowKit Go.Maps Go.Sort
set_option maxRecDepth 100000 in
set_option maxHeartbeats 1000000 in
theorem rQ {H : Type} (F : Fence) (n : Nat) (h10 : F.fn 116) (hro : F.round = none) (hn : 1 ≤ n) (l Bm b nn : Nat) (D0 : DataW H) {R : Value → Option (DataW H × List MemPlace)} (J : List Int → World → Prop)
    (hY : ∀ pre x W, J pre W → pre.length < Maps.size D0 → YieldAt F (n - 1) Tryz.prog l #[(jA .u32) x] W fun e W' => e = .returned (.bool true) ∧ J (pre ++ [x]) W' ∧ KeepsWalks W W')
    (W : World) (hJ : AbidesFrom W.heap.size J) (hm : W.cell? ⟨Bm, 0, none⟩ = some (.map (some b))) (hown : W.ownsMap Tryz.prog 25 R b nn D0) (h0 : J [] W) :
    CallsIn F n Tryz.prog 116 #[.func (.yield l) #[] #[], .pointer (some ⟨Bm, 0, none⟩)] W fun e W' => (∃ v, e = .returned v) ∧ ∃ ss : List Int, ss.Perm (intKeys D0) ∧ J ss W' := by
  refine callsIn_of_wp Tryz.func116 rfl h10 ?_ hro
  simp only [Tryz.ntmps116, List.size_toArray, List.length_cons, List.length_nil, Nat.reduceAdd, Nat.reduceSub, Array.replicate_succ, Array.replicate_zero, List.push_toArray, List.append_toArray, List.nil_append, List.cons_append]
  gi_wp2_with (first
    | (gi_at_range; refine wpListIn_range_own _ rfl _ 114 rfl 25 4 (int_keyed bK) kn _ b nn _ rfl hown ?_; intro w0 hrg0 hg0 hs0)
    | gi_in)
  go_frame
  gi_loopw [3] (fun _ wr => ∃ (left : Lit → Bool) (cnt : Nat) (ss : List Int), wr.ranges Tryz.prog 25 R b W.heap.size nn D0 left cnt ∧ ss.length + cnt ≤ Maps.size D0 ∧ Came .u32 D0 left ss ∧ J ss wr)
    (fun _ wr => wr.rangeLeft b W.heap.size)
  case atStart =>
    exact ⟨_, _, [], hrg0, by simp, Came.start .u32 D0, hJ [] W w0 none h0 hg0 (fun r e => by cases e)⟩
  case round =>
    obtain ⟨left, cnt, ss, hrg, hcs, hC, hJs⟩ := hrel
    gi_wp2_with (first
      | (gi_at_next; refine wpListIn_next_ranges _ rfl _ rfl 25 (int_keyed bK) R (jA .u32) id (fun key kl hk => by obtain ⟨x, hx, _⟩ := Maps.keyOf_int_inv bK hk; exact ⟨x, hx⟩) (fun v _ _ => ⟨v, rfl⟩) b W.heap.size nn _ _ _ rfl hrg ?_ ?_)
      | gi_in)
    ·
      intro hc0 hl0
      gi_wp2
      go_end0
      exact ⟨⟨_, rfl⟩, ss, hC.perm hown (int_keyed bK) bK hl0, hJs⟩
    ·
      intro x c kl yd yp w2 cnt2 hkey hlk hv hat hrg2 hlt hg2 hs2 hen
      obtain ⟨x', ex, rfl, _⟩ := Maps.keyOf_int_inv bK hkey
      obtain rfl : x = x' := Cj ex
      have hJ2 : J ss w2 := hJ ss wr w2 (some W.heap.size) hJs hg2 (fun r e => by cases e; exact ⟨Nat.le_refl _, hrg.iter_walk⟩)
      obtain ⟨fn, tmps, assign, body, hy, hR⟩ := hY ss x w2 hJ2 (by omega)
      clear hs2
      gi_wp2
      refine hR.mono ?_
      rintro e W3 ⟨rfl, hJ3, hk3⟩
      gi_wp2
      have hrg3 := hrg2.of_walks hk3
      go_roundw
      case rel => exact ⟨_, cnt2, ss ++ [x], hrg3, by simp; omega, hC.step hlk hat, hJ3⟩
      case measure => rw [hrg3.left_eq, hrg.left_eq]; exact hlt
theorem qU {H : Type} (F : Fence) (n : Nat) (h10 : F.fn 116) (hro : F.round = none) (hn : 1 ≤ n) (Bm b nn : Nat) (D0 : DataW H) {R : Value → Option (DataW H × List MemPlace)} (w : World) (hBm : Bm < w.heap.size)
    (hm : w.cell? ⟨Bm, 0, none⟩ = some (.map (some b))) (hown : w.ownsMap Tryz.prog 25 R b nn D0) :
    SeqGives F n Tryz.prog 116 #[.pointer (some ⟨Bm, 0, none⟩)] (jA .u32) (fun ss => ss.Perm (intKeys D0)) (Maps.size D0) w := fun l J W hW hJ hY h0 => by
  have hown' : W.ownsMap Tryz.prog 25 R b nn D0 := by
    have hbl := hown.lt
    obtain ⟨es, clock, hb, Ft, hs, hD⟩ := hown
    exact ⟨es, clock, (hW.block b hbl).trans hb, Ft, hs, hD⟩
  exact rQ F n h10 hro hn l Bm b nn D0 J hY W hJ ((hW.cell (p := ⟨Bm, 0, none⟩) hBm).trans hm) hown' h0
def jN : Code := (Code.region 2 #[{ dst := some 5, op := Op.assign (Operand.tmp 7), type := 25, pos := "iter.go:51", after := #[], guard := none }] false)
def lX : Code := (Code.block 1 (Code.region 3 #[{ dst := some 8, op := Op.load 41 (Operand.tmp 2), type := 41, pos := "iter.go:52", after := #[], guard := none }, { dst := some 9, op := Op.move (Operand.tmp 5), type := 25, pos := "iter.go:52", after := #[], guard := none }, { dst := some 10, op := Op.buildSlice 41 1 #[(0, Operand.tmp 9)], type := 41, pos := "iter.go:52", after := #[{ on := 1, ground := Ground.data }], guard := none }, { dst := some 11, op := Op.call { callee := Callee.builtin Builtin.append, args := #[Operand.tmp 8, Operand.tmp 10], argTypes := #[41, 41] }, type := 41, pos := "iter.go:52", after := #[{ on := 0, ground := Ground.data }, { on := 2, ground := Ground.data }], guard := none }, { dst := none, op := Op.store 41 (Operand.tmp 2) (Operand.tmp 11), type := 0, pos := "iter.go:52", after := #[{ on := 3, ground := Ground.data }, { on := 3, ground := Ground.chain }, { on := 0, ground := Ground.phase }, { on := 1, ground := Ground.phase }, { on := 2, ground := Ground.phase }, { on := 3, ground := Ground.phase }], guard := none }] false))
def eR (fn : FuncId) (sv : Value) (Bs D : Nat) (st : LoopState) (pend : Option Code) : Loop :=
  { state := st, pending := pend, fn, tmps := #[.slice none 0 0, sv, .pointer (some ⟨Bs, 0, none⟩), undef, .slice none 0 0, undef, sv, undef, undef, undef, undef, undef, undef], params := #[7], assign := jN, body := lX, defers := D }
structure k32_ApAt (w0 : World) (fn : FuncId) (sv : Value) (Bs l D : Nat) (ss : List Int) (W : World) : Prop where
  box : ∃ v, W.heap[Bs]? = some (.cells #[v] 41 (0, 0)) ∧ W.ownsRow w0.heap.size 25 1 v ss.length (ss.map (jA .u32)) ∧ (v = .slice none 0 0 ↔ ss = [])
  L : W.heap[l]? = some (.loop (eR fn sv Bs D .ready none))
  K : W.heap[D]? = some (.deferred (some []))
  below : Below w0.heap.size w0 W
theorem qN {W W' : World} {row : Option Nat} {base : Nat} {e : TypeId} {size : Nat} {v : Value} {k : Nat} {xs : List Value} (h : W.ownsRow base e size v k xs) (hg : W.grownBy W' row)
    (hrow : ∀ r, row = some r → ∃ o : Obj, W.heap[r]? = some o ∧ o.isWalk = true) : W'.ownsRow base e size v k xs := by
  refine h.kept hg ?_
  rcases h.2 with ⟨rfl, _⟩ | ⟨g, cap, cur, rfl, _, hgb, _⟩
  · exact .inl rfl
  · refine .inr fun e' => ?_
    obtain ⟨o, ho, hw⟩ := hrow g (by simpa [Value.ownBlock] using e'.symm)
    rw [hgb] at ho; cases ho; cases hw
theorem rR (w0 : World) (fn : FuncId) (sv : Value) (Bs l D B : Nat) (hB : w0.heap.size ≤ B) : AbidesFrom B (k32_ApAt w0 fn sv Bs l D) := fun s W W' row h hg hrow => by
  have hrow' : ∀ r, row = some r → ∃ o : Obj, W.heap[r]? = some o ∧ o.isWalk = true := fun r e => (hrow r e).2
  obtain ⟨v, hv, hr, hn⟩ := h.box
  exact ⟨⟨v, (grownBy_keeps hg hrow' hv rfl).trans hv, qN hr hg hrow', hn⟩, (grownBy_keeps hg hrow' h.L rfl).trans h.L, (grownBy_keeps hg hrow' h.K rfl).trans h.K,
    h.below.grown hg h.below.size (fun k e => Nat.le_trans hB (hrow k e).1)⟩
theorem eS (W : World) (l : Nat) (o : Obj) : W.grownBy (W.putObj l o) (some l) :=
  ⟨rfl, rfl, rfl, by simp, fun k _ hk => World.putObj_heap_other (fun e => hk (by rw [e]))⟩
theorem nZ (W : World) (b : Nat) (v : Value) : W.grownBy (W.setCell ⟨b, 0, none⟩ v) (some b) :=
  ⟨rfl, rfl, rfl, (KeepsWalks.setCell W _ v).size, fun k _ hk => Below.heap_setCell _ _ _ k (fun e => hk (by rw [e]))⟩
theorem gF {W : World} {base : Nat} {e : TypeId} {size : Nat} {v : Value} {k : Nat} {xs : List Value} (h : W.ownsRow base e size v k xs) {j : Nat} {o : Obj} (hj : W.heap[j]? = some o) (hno : ∀ cur, o ≠ .cells cur e (0, 0)) :
    v.ownBlock = none ∨ v.ownBlock ≠ some j := by
  rcases h.2 with ⟨rfl, _⟩ | ⟨g, cap, cur, rfl, _, hgb, _⟩
  · exact .inl rfl
  · refine .inr fun e' => ?_
    have : g = j := by simpa [Value.ownBlock] using e'
    subst this; rw [hgb] at hj; cases hj; exact hno cur rfl
theorem kT {W : World} {B : Nat} {v : Value} {t : TypeId} (h : W.heap[B]? = some (.cells #[v] t (0, 0))) : W.cell? ⟨B, 0, none⟩ = some v ∧ W.frozen? ⟨B, 0, none⟩ = false := by
  constructor <;> simp [World.cell?, World.frozen?, h]
theorem nY {W : World} {B : Nat} {v : Value} {t : TypeId} (v' : Value) (h : W.heap[B]? = some (.cells #[v] t (0, 0))) : (W.setCell ⟨B, 0, none⟩ v').heap[B]? = some (.cells #[v'] t (0, 0)) := by
  obtain ⟨hlt, hk⟩ := Array.getElem?_eq_some_iff.1 h
  show (W.heap.modify B _)[B]? = _
  rw [Array.getElem?_eq_getElem (by rw [Array.size_modify]; exact hlt), Array.getElem_modify_self, hk]
  rfl
theorem nR {W : World} {base : Nat} {e : TypeId} {size : Nat} {v : Value} {k : Nat} {xs : List Value} (h : W.ownsRow base e size v k xs) : ∀ (j : Nat) (o : Obj), v.ownBlock = some j → W.heap[j]? = some o → o.isWalk = false := by
  intro j o hj ho
  rcases h.2 with ⟨rfl, _⟩ | ⟨g, cap, cur, rfl, _, hgb, _⟩
  · simp [Value.ownBlock] at hj
  · have : g = j := by simpa [Value.ownBlock] using hj
    subst this; rw [hgb] at ho; cases ho; rfl
theorem xv : (Tryz.prog.info? 25).map (fun i => (i.zero, i.size, i.bytes)) = some (some (.int .u32 0), 1, 4) := by kernel_rfl
set_option maxRecDepth 100000 in
set_option maxHeartbeats 2000000 in
theorem vH (F : Fence) (m : Nat) (w0 : World) (fn : FuncId) (hfn : F.fn fn) (sv : Value) (Bs l D : Nat) (hBl : Bs ≠ l) (hDl : D ≠ l) (hDB : D ≠ Bs) (h0B : w0.heap.size ≤ Bs) (h0l : w0.heap.size ≤ l)
    (N : Nat) (hN : N ≤ maxLen) (hNb : N * 4 ≤ 140737488355328) (ss : List Int) (x : Int) (W : World) (h : k32_ApAt w0 fn sv Bs l D ss W) (hlen : ss.length < N) :
    YieldAt F m Tryz.prog l #[(jA .u32) x] W fun e W' => e = .returned (.bool true) ∧ k32_ApAt w0 fn sv Bs l D (ss ++ [x]) W' ∧ KeepsWalks W W' := by
  obtain ⟨i0, hi, hz0, hz1, hz2⟩ := info_parts xv
  obtain ⟨v, hv, hrow, _⟩ := h.box
  refine ⟨fn, #[.slice none 0 0, sv, .pointer (some ⟨Bs, 0, none⟩), undef, .slice none 0 0, undef, sv, (jA .u32) x, undef, undef, undef, undef, undef], jN, lX, by simpa [eR] using run_yield (P := Tryz.prog) (args := #[(jA .u32) x]) h.L rfl, roundIn_of_wpIn hfn ?_⟩
  have hl : l < W.heap.size := (Array.getElem?_eq_some_iff.1 h.L).1
  have hbr := run_beginRound (P := Tryz.prog) h.L rfl
  obtain ⟨W2, hW2⟩ : ∃ W2, W.putObj l (.loop { eR fn sv Bs D .ready none with state := .busy }) = W2 := ⟨_, rfl⟩
  rw [hW2] at hbr
  have hg2 : W.grownBy W2 (some l) := by rw [← hW2]; exact eS _ _ _
  have hk2 : KeepsWalks W W2 := by rw [← hW2]; exact KeepsWalks.putObj _ h.L rfl
  have hv2 : W2.heap[Bs]? = some (.cells #[v] 41 (0, 0)) := by rw [← hW2]; exact (World.putObj_heap_other hBl).trans hv
  have hK2 : W2.heap[D]? = some (.deferred (some [])) := by rw [← hW2]; exact (World.putObj_heap_other hDl).trans h.K
  have hL2 : W2.heap[l]? = some (.loop { eR fn sv Bs D .ready none with state := .busy }) := by rw [← hW2]; exact World.putObj_heap_same hl
  have hrow2 : W2.ownsRow w0.heap.size 25 1 v ss.length (ss.map (jA .u32)) := hrow.kept hg2 (gF hrow h.L (fun cur e => by cases e))
  have hb2 : Below w0.heap.size w0 W2 := h.below.grown hg2 h.below.size (fun k e => by cases e; exact h0l)
  obtain ⟨hc2, hf2⟩ := kT hv2
  have hBlt : Bs < W2.heap.size := (Array.getElem?_eq_some_iff.1 hv2).1
  have hl2 : l < W2.heap.size := (Array.getElem?_eq_some_iff.1 hL2).1
  have hDlt : D < W2.heap.size := (Array.getElem?_eq_some_iff.1 hK2).1
  have ne_of : ∀ {j : Nat} {o : Obj}, W2.heap[j]? = some o → (∀ cur, o ≠ .cells cur 25 (0, 0)) → some j ≠ v.ownBlock := fun hj hno => by
    rcases gF hrow2 hj hno with e | e
    · rw [e]; simp
    · exact fun e' => e e'.symm
  clear hW2
  unfold jN
  gi_wp2_with (rw [Oper.semAt_eq _ _ _ (fun c h => by cases h)]; go_simp; try go_bits)
  unfold lX
  gi_wp2_with (first
    | (gi_at_builtin; refine wpListIn_append_own _ rfl _ _ 41 rfl w0.heap.size 25 i0 (.int .u32 0) 1 4 bw hi hz0 hz1 hz2 rfl (by decide) _ _ _ rfl (hrow2.alloc _) ⟨W2.heap.size, 0, none⟩ 1 1 [(jA .u32) x] rfl rfl (cell_one_new _ _ _) (by simp [Value.oneCell']) (by omega) (by omega) (by have := hb2.size; simp; omega) ?_; intro v' w3 hown' hg3 hnil3
       have hv3 : w3.heap[Bs]? = some (.cells #[v] 41 (0, 0)) := (hg3.block Bs (by simp; omega) (ne_of hv2 (fun cur e => by cases e))).trans ((Below.heap_alloc _ _ Bs hBlt).trans hv2)
       obtain ⟨hc3, hf3⟩ := kT hv3
       obtain ⟨g', cap', cur', rfl, hbase', hgb', hr1, hr2, hr3, hr4⟩ : ∃ g' cap' cur', v' = .slice (some ⟨g', 0, none⟩) (ss.length + 1) cap' ∧ w0.heap.size ≤ g' ∧ w3.heap[g']? = some (.cells cur' 25 (0, 0)) ∧ ss.length + 1 ≤ cap' ∧ cap' ≤ maxLen ∧ cur'.size = cap' * 1 ∧ cur'.toList.take ((ss.length + 1) * 1) = ss.map (jA .u32) ++ [(jA .u32) x] := by
         rcases hown'.2 with ⟨_, h0⟩ | h'
         · exact absurd h0 (by omega)
         · exact h'
       go_frame)
    | (rw [Oper.semAt_eq _ _ _ (fun c h => by cases h)]; go_simp; try go_bits))
  have hg3' : (W2.alloc (.cells #[(jA .u32) x] 25)).grownBy w3 v.ownBlock := hg3
  have hL3 : w3.heap[l]? = some (.loop { eR fn sv Bs D .ready none with state := .busy }) := (hg3'.block l (by simp; omega) (ne_of hL2 (fun cur e => by cases e))).trans ((Below.heap_alloc _ _ l hl2).trans hL2)
  have hK3 : w3.heap[D]? = some (.deferred (some [])) := (hg3'.block D (by simp; omega) (ne_of hK2 (fun cur e => by cases e))).trans ((Below.heap_alloc _ _ D hDlt).trans hK2)
  obtain ⟨w4, hw4⟩ : ∃ w4, w3.setCell ⟨Bs, 0, none⟩ (.slice (some ⟨g', 0, none⟩) (ss.length + 1) cap') = w4 := ⟨_, rfl⟩
  rw [hw4]
  have hg4 : w3.grownBy w4 (some Bs) := by rw [← hw4]; exact nZ _ _ _
  have hv4 : w4.heap[Bs]? = some (.cells #[.slice (some ⟨g', 0, none⟩) (ss.length + 1) cap'] 41 (0, 0)) := by rw [← hw4]; exact nY _ hv3
  have hL4 : w4.heap[l]? = some (.loop { eR fn sv Bs D .ready none with state := .busy }) := (hg4.block l (Array.getElem?_eq_some_iff.1 hL3).1 (fun e => hBl (by cases e; rfl))).trans hL3
  have hK4 : w4.heap[D]? = some (.deferred (some [])) := (hg4.block D (Array.getElem?_eq_some_iff.1 hK3).1 (fun e => hDB (by cases e; rfl))).trans hK3
  have hrow4 := hown'.kept hg4 (gF hown' hv3 (fun cur e => by cases e))
  have hl4 : l < w4.heap.size := (Array.getElem?_eq_some_iff.1 hL4).1
  have hb3 : Below w0.heap.size w0 w3 := (hb2.alloc hb2.size _).grown hg3' (by have := hb2.size; simp; omega) (fun k e => (hrow2.lt k e).1)
  have hb4 : Below w0.heap.size w0 w4 := hb3.grown hg4 hb3.size (fun k e => by cases e; exact h0B)
  have hk4 : KeepsWalks W w4 := ((hk2.trans (KeepsWalks.alloc _ _)).trans (KeepsWalks.of_grownBy hg3' (nR (hrow2.alloc _)))).trans (by rw [← hw4]; exact KeepsWalks.setCell _ _ _)
  clear hw4
  refine ⟨_, _, run_endRound none hL4, rfl, ⟨⟨_, (World.putObj_heap_other hBl).trans hv4, ?_, by simp⟩, World.putObj_heap_same hl4, (World.putObj_heap_other hDl).trans hK4, hb4.grown (eS _ _ _) hb4.size (fun k e => by cases e; exact h0l)⟩, hk4.trans (KeepsWalks.putObj _ hL4 rfl)⟩
  have := hrow4.kept (eS w4 l (.loop { { eR fn sv Bs D .ready none with state := .busy } with state := if (none : Option Code).isNone then .ready else .done, pending := none })) (gF hrow4 hL4 (fun cur e => by cases e))
  simpa using this
set_option maxRecDepth 100000 in
set_option maxHeartbeats 2000000 in
theorem nX (F : Fence) (n : Nat) (h11 : F.fn 173) (hro : F.round = none) (hn : 2 ≤ n) (g : Nat) (lb : Array Value) (hFg : F.fn g) (eg : ∀ args w, (callFunc g args).run Tryz.prog w = .ok (.enter g args) w)
    (S : List Int → Prop) (N : Nat) (hN : N ≤ maxLen) (hNb : N * 4 ≤ 140737488355328) (w : World) (hseq : SeqGives F (n - 1) Tryz.prog g lb (jA .u32) S N w) :
    CallsIn F n Tryz.prog 173 #[.slice none 0 0, .func (.func g) #[] lb] w fun e w' => ∃ (v : Value) (ss : List Int), e = .returned v ∧ S ss ∧ w'.ownsRow w.heap.size 25 1 v ss.length (ss.map (jA .u32)) ∧ (v = .slice none 0 0 ↔ ss = []) ∧ Below w.heap.size w w' := by
  have h1 : 1 ≤ n := by omega
  refine callsIn_of_wp_marks Tryz.func173 rfl h11 ?_ hro
  simp only [Tryz.ntmps173, List.size_toArray, List.length_cons, List.length_nil, Nat.reduceAdd, Nat.reduceSub, Array.replicate_succ, Array.replicate_zero, List.push_toArray, List.append_toArray, List.nil_append, List.cons_append]
  gi_wp2
  refine wpIn_rangeFunc ?_
  intro fn hfn
  rw [hro]
  obtain ⟨W0, hW0⟩ : ∃ W0, w.alloc (.cells #[.slice none 0 0] 41) = W0 := ⟨_, rfl⟩
  have hs0 : W0.heap.size = w.heap.size + 1 := by rw [← hW0]; simp
  have hv0 : W0.heap[w.heap.size]? = some (.cells #[.slice none 0 0] 41 (0, 0)) := by rw [← hW0]; exact World.alloc_heap_new w _
  have hb0 : Below w.heap.size w W0 := by rw [← hW0]; exact (Below.refl _ w).alloc (Nat.le_refl _) _
  rw [hW0]
  obtain ⟨W1, hW1⟩ : ∃ W1, (W0.alloc (.deferred (some []))).alloc (.loop (eR fn (.func (.func g) #[] lb) w.heap.size W0.heap.size .ready none)) = W1 := ⟨_, rfl⟩
  have hold : ∀ k, k < W0.heap.size → W1.heap[k]? = W0.heap[k]? := fun k hk => by
    rw [← hW1]; exact (Below.heap_alloc _ _ k (by simp; omega)).trans (Below.heap_alloc _ _ k hk)
  have hb1 : Below w.heap.size w W1 := by rw [← hW1]; exact (hb0.alloc hb0.size _).alloc (by have := hb0.size; simp; omega) _
  have hs1 : W1.heap.size = W0.heap.size + 2 := by rw [← hW1]; simp
  have hM : k32_ApAt w fn (.func (.func g) #[] lb) w.heap.size (W0.heap.size + 1) W0.heap.size [] W1 :=
    ⟨⟨_, (hold w.heap.size (by omega)).trans hv0, ⟨rfl, .inl ⟨rfl, rfl⟩⟩, by simp⟩,
     by rw [← hW1]; have := World.alloc_heap_new (W0.alloc (.deferred (some []))) (.loop (eR fn (.func (.func g) #[] lb) w.heap.size W0.heap.size .ready none)); rwa [World.size_alloc] at this,
     by rw [← hW1]; exact (Below.heap_alloc _ _ _ (by simp)).trans (World.alloc_heap_new W0 _), hb1⟩
  refine ⟨W0.heap.size + 1, [{ target := .collected W0.heap.size, args := #[] }], W1, { target := .fn (.func g) lb, args := #[.func (.yield (W0.heap.size + 1)) #[] #[]] }, W1, g,
    #[.func (.yield (W0.heap.size + 1)) #[] #[]] ++ lb, W1, ?_, ?_, ?_, ?_, fun _ => h1, ?_⟩
  · rw [← hW1]; exact run_enterLoop_outer _ _ _ _ _
  · simp [resolve, go_sem]
  · intro f' hf'; simp [Target.leads] at hf'; subst hf'; exact hFg
  · simp [invoke, go_sem, eg]
  · refine (hseq (W0.heap.size + 1) (k32_ApAt w fn (.func (.func g) #[] lb) w.heap.size (W0.heap.size + 1) W0.heap.size) W1 hb1 (rR _ _ _ _ _ _ _ hb1.size)
      (fun pre x W hJ hl => vH F (n - 1 - 1) w fn hfn _ w.heap.size (W0.heap.size + 1) W0.heap.size (by omega) (by omega) (by omega) (Nat.le_refl _) (by omega) N hN hNb pre x W hJ hl) hM).mono ?_
    rintro e W2 ⟨⟨v0, rfl⟩, ss, hS, h2⟩
    obtain ⟨v, hv, hrow, hnil⟩ := h2.box
    have hend := run_endLoop (P := Tryz.prog) h2.L (by simp [eR])
    obtain ⟨W3, hW3⟩ : ∃ W3, W2.putObj (W0.heap.size + 1) (.loop { eR fn (.func (.func g) #[] lb) w.heap.size W0.heap.size .ready none with state := .exhausted }) = W3 := ⟨_, rfl⟩
    rw [hW3] at hend
    have hg3 : W2.grownBy W3 (some (W0.heap.size + 1)) := by rw [← hW3]; exact eS _ _ _
    have hv3 : W3.heap[w.heap.size]? = some (.cells #[v] 41 (0, 0)) := by rw [← hW3]; exact (World.putObj_heap_other (by omega)).trans hv
    have hK3 : W3.heap[W0.heap.size]? = some (.deferred (some [])) := by rw [← hW3]; exact (World.putObj_heap_other (by omega)).trans h2.K
    have hrow3 := hrow.kept hg3 (gF hrow h2.L (fun cur e => by cases e))
    have hb3 : Below w.heap.size w W3 := h2.below.grown hg3 h2.below.size (fun k e => by cases e; omega)
    obtain ⟨hc3, hf3⟩ := kT hv3
    clear hW3
    refine ⟨none, W3, hend, ?_⟩
    gi_wp2
    rw [← hs0]
    refine ⟨by simp, .inl ⟨_, _, rfl, run_takeDeferred hK3, ?_⟩⟩
    exact ⟨_, results_tmp rfl _ _ _, v, ss, rfl, hS, hrow3.kept (eS _ _ _) (gF hrow3 hK3 (fun cur e => by cases e)), hnil, hb3.grown (eS _ _ _) hb3.size (fun k e => by cases e; omega)⟩
set_option maxHeartbeats 1000000 in
theorem qV (F : Fence) (n : Nat) (h8 : F.fn 114) (h11 : F.fn 173) (hro : F.round = none) (hn : 3 ≤ n) (g : Nat) (lb : Array Value) (hFg : F.fn g) (eg : ∀ args w, (callFunc g args).run Tryz.prog w = .ok (.enter g args) w)
    (S : List Int → Prop) (N : Nat) (hN : N ≤ maxLen) (hNb : N * 4 ≤ 140737488355328) (w : World) (hseq : SeqGives F (n - 1 - 1) Tryz.prog g lb (jA .u32) S N w) :
    CallsIn F n Tryz.prog 114 #[.func (.func g) #[] lb] w fun e w' => ∃ (v : Value) (ss : List Int), e = .returned v ∧ S ss ∧ w'.ownsRow w.heap.size 25 1 v ss.length (ss.map (jA .u32)) ∧ (v = .slice none 0 0 ↔ ss = []) ∧ Below w.heap.size w w' := by
  have h1 : 1 ≤ n := by omega
  refine callsIn_of_wp Tryz.func114 rfl h8 ?_ hro
  simp only [Tryz.ntmps114, List.size_toArray, List.length_cons, List.length_nil, Nat.reduceAdd, Nat.reduceSub, Array.replicate_succ, Array.replicate_zero, List.push_toArray, List.append_toArray, List.nil_append, List.cons_append]
  gi_wp2_with (gi_at_call 173; refine (nX F (n - 1) h11 hro (by omega) g lb hFg eg S N hN hNb _ hseq).mono ?_; rintro e w' ⟨v, ss, rfl, hS, hrow, hnil, hb⟩)
  go_ret
  exact ⟨v, ss, rfl, hS, hrow, hnil, hb⟩
end Go.Proofs.YtpbfapbajmdlkaaGreat

end
section
namespace Go.Proofs.YtpbfapbajmdlkaaGreat
open Go Go.Sac
set_option maxRecDepth 100000
set_option maxHeartbeats 4000000
theorem xw(x:UInt32)(w:World) :
  Ret Tryz.prog 248 #[.int .u32 x.toNat] w fun v w'=>v = .bool false∧w'=w:=by
 refine enter [2] Tryz.func248 rfl rfl (Nat.le_of_ble_eq_true rfl) ?_
 refine zSR (za rfl (zNR (zm rfl (zm rfl (a6 rfl (AF rfl rfl) (za rfl ?_))))))
 refine a8 (a7 (zrf ?_))
 have hx:(decide (x≠x))=false:=by simp
 refine⟨?_,rfl⟩
 show Value.bool (decide (x≠x))=_
 rw[hx]
theorem Ar(x y:UInt32)(w:World) :
  Ret Tryz.prog 221 #[.int .u32 x.toNat,.int .u32 y.toNat] w fun v w'=>v = .bool (decide (x<y))∧w'=w:=by
 refine enter [4] Tryz.func221 rfl rfl (Nat.le_of_ble_eq_true rfl) ?_
 refine zSR (za rfl (zNR (zm rfl (ah rfl C248 (xw x w) ?_))))
 rintro _ w1 ⟨rfl,rfl⟩
 refine zm rfl (ay rfl rfl (ay rfl rfl (ay rfl rfl (a6 rfl (aL rfl) (zm rfl (ag rfl (zm rfl (ag rfl (zm rfl (ag rfl (a6 rfl (pQ rfl rfl) (a6 rfl (aL rfl) (za rfl ?_)))))))))))))
 refine a8 (a7 (zrf ?_))
 exact⟨rfl,rfl⟩
theorem vJ(v:Value)(l:List UInt32)(w:World)(ho:Own w v l)(hl:l.length≤1000) :
  Ret Tryz.prog 215 #[v,.int .i64 0,.int .i64 l.length] w fun _ w'=>Own w' v (ko l)∧Chg (ar v) w w':=by
 have hob1:=ho.form rfl
 obtain⟨pv,cv,rfl⟩:=hob1
 refine enter [] Tryz.func215 rfl rfl (Nat.le_of_ble_eq_true rfl) ?_
 refine zSR (zm rfl (a6 rfl (aD rfl rfl (by omega)) (za rfl ?_)))
 refine a8 (a7 (au (bn [0,1,2,6] (fun n vs w'=>∃(i:Nat) (l':List UInt32),vs=[.slice pv l.length cv,.int .i64 0,.int .i64 l.length,.int .i64 i]∧i+n=l.length+1∧1≤i∧Own w' (.slice pv l.length cv) l'∧SrtU l l' i∧Chg (ar (.slice pv l.length cv)) w w') (l.length) ?_ ?_)))
 ·exact⟨1,l,rfl,by omega,Nat.le_refl _,ho,SrtU.start l,Chg.refl' _ _⟩
 ·rintro n vs J w1 ⟨i,l1,rfl,hi,hi1,ho1,hs1,hc1⟩
  refine ae (zSR (zm rfl (zm rfl (a6 rfl (bz rfl rfl) ?_))))
  refine a8 (a7 (aC rfl (fun h=>?_) (fun h=>?_)))
  ·refine aA (a7 (ae (au (zSR (zm rfl (za rfl (a8 (a7 (au ?_)))))))))
   have hob2:∃q,n=q+1:=⟨n-1,by omega⟩
   obtain⟨n,rfl⟩:=hob2
   have hl1:=hs1.length
   refine bn [0,1,2,6,7] (fun n2 vs w'=>∃(l':List UInt32),vs=[.slice pv l.length cv,.int .i64 0,.int .i64 l.length,.int .i64 i,.int .i64 n2]∧n2≤i∧Own w' (.slice pv l.length cv) l'∧MidU l l' i n2∧Chg (ar (.slice pv l.length cv)) w w') (i) ?_ ?_
   ·exact⟨l1,rfl,Nat.le_refl _,ho1,hs1.mid,hc1⟩
   ·rintro j vs J2 w2 ⟨l2,rfl,hji,ho2,hm2,hc2⟩
    refine ae (ae ?_)
    have hl2:=hm2.length
    refine aO bG (.pure 0 (.pure 1 (.pure 2 (.pure 3 (.pure 4 (.pure 5 (.pure 6 (.read 7 (.pure 8 (.pure 9 (.pure 10 (.pure 11 (.read 12 (.eff 13 [] (.pure 14 .nil))))))))))))))) (by kernel_rfl) ?_
    refine ym rfl rfl rfl ?_
    refine ym rfl rfl rfl ?_
    by_cases hj:0<j
    ·refine aj rfl rfl rfl (fun _=>bR (di rfl rfl) (congrArg Value.bool (decide_eq_true ((by omega))))) ?_
     refine ym rfl rfl rfl ?_
     refine ym rfl rfl rfl ?_
     refine ym rfl rfl rfl ?_
     refine bA rfl rfl rfl (bW (j) bw I25 rfl (ho2.sl) rfl rfl (by first | rfl | omega) (by omega)) ?_
     rintro _ ⟨b1,o1,rfl,he1,hb1⟩
     refine aX rfl rfl rfl bK rfl rfl ((ho2.sl.at he1 (getD_some (d:=0) (by omega))).c0 rfl) ?_
     refine ym rfl rfl rfl ?_
     refine ym rfl rfl rfl ?_
     refine aj rfl rfl rfl (fun _=>(cj rfl rfl (by omega))) ?_
     refine bA rfl rfl rfl (bW (j-1) bw I25 rfl (ho2.sl) rfl rfl (by first | rfl | omega) (by omega)) ?_
     rintro _ ⟨b2,o2,rfl,he2,hb2⟩
     refine aX rfl rfl rfl bK rfl rfl ((ho2.sl.at he2 (getD_some (d:=0) (by omega))).c0 rfl) ?_
     refine aG rfl rfl rfl C221 (Ar (l2.getD j 0) (l2.getD (j-1) 0) _) ?_
     rintro _ w3 ⟨rfl,hw3⟩
     refine⟨trivial,?_⟩
     refine aj rfl rfl rfl (fun _=>(aN rfl)) ?_
     refine aQ (a7 ?_)
     have hc3:Chg [] w2 w3:=by rw[hw3]; exact Chg.heap rfl
     have ho3:=ho2.mod0 hc3
     refine aC rfl (fun hless=>?_) (fun hless=>?_)
     ·refine aA (a7 (ae (au ?_)))
      have hob3:∃q,j=q+1:=⟨j-1,by omega⟩
      obtain⟨j,rfl⟩:=hob3
      refine aO bG (.pure 0 (.pure 1 (.pure 2 (.pure 3 (.pure 4 (.pure 5 (.pure 6 (.pure 7 (.pure 8 (.read 9 (.pure 10 (.pure 11 (.pure 12 (.read 13 (.pure 14 (.eff 15 [] (.pure 16 (.eff 17 [] .nil)))))))))))))))))) (by kernel_rfl) ?_
      refine ym rfl rfl rfl ?_
      refine ym rfl rfl rfl ?_
      refine ym rfl rfl rfl ?_
      refine ym rfl rfl rfl ?_
      refine aj rfl rfl rfl (fun _=>(cj rfl rfl (by omega))) ?_
      refine ym rfl rfl rfl ?_
      refine ym rfl rfl rfl ?_
      refine aj rfl rfl rfl (fun _=>(cj rfl rfl (by omega))) ?_
      refine bA rfl rfl rfl (bW (j) bw I25 rfl (ho3.sl) rfl rfl (by first | rfl | omega) (by omega)) ?_
      rintro _ ⟨b4,o4,rfl,he4,hb4⟩
      refine aX rfl rfl rfl bK rfl rfl ((ho3.sl.at he4 (getD_some (d:=0) (by omega))).c0 rfl) ?_
      refine ym rfl rfl rfl ?_
      refine ym rfl rfl rfl ?_
      refine bA rfl rfl rfl (bW (j+1) bw I25 rfl (ho3.sl) rfl rfl (by first | rfl | omega) (by omega)) ?_
      rintro _ ⟨b5,o5,rfl,he5,hb5⟩
      refine aX rfl rfl rfl bK rfl rfl ((ho3.sl.at he5 (getD_some (d:=0) (by omega))).c0 rfl) ?_
      refine bA rfl rfl rfl (bW (j+1) bw I25 rfl (ho3.sl) rfl rfl (by first | rfl | omega) (by omega)) ?_
      rintro _ ⟨b6,o6,rfl,he6,hb6⟩
      refine cB rfl rfl rfl (gS (a:=l2.getD j 0) I25 rfl (ho3.mod0 (drw _)) rfl (he6) rfl rfl (by omega)) ?_
      rintro w7 ⟨ho7,hc7,hs7⟩
      refine⟨trivial,?_⟩
      refine bA rfl rfl rfl (bW (j) bw I25 rfl (ho7.sl) rfl rfl (by first | rfl | omega) (by simp; omega)) ?_
      rintro _ ⟨b8,o8,rfl,he8,hb8⟩
      refine cB rfl rfl rfl (gS (a:=l2.getD (j+1) 0) I25 rfl (ho7) rfl (he8) rfl rfl (by simp; omega)) ?_
      rintro w9 ⟨ho9,hc9,hs9⟩
      refine⟨trivial,?_⟩
      refine aQ (aB (a7 (al (zm rfl (a6 rfl (cj rfl rfl (by omega)) (za rfl ?_))))))
      refine a8 (a7 (Exists.intro (j) (And.intro (by omega) ?_)))
      have e9:(l2.set (j+1) (l2.getD j 0)).set j (l2.getD (j+1) 0)=oA l2 (j+1):=by simp[oA]
      rw[e9] at ho9
      have hcx:Chg (ar (.slice pv l.length cv)) w w9:=((hc2.tr0 (hc3.tr (drw _))).tr hc7).tr hc9
      exact⟨oA l2 (j+1),aw rfl (aw rfl (aw rfl (aw rfl (aw (bB (by omega)) bF)))),by omega,ho9,hm2.swap (by omega) hji (by omega) hless,hcx⟩
     ·refine aP (aq (aq (aE (aB (a7 (al (zm rfl (a6 rfl (aD rfl rfl (by omega)) (za rfl ?_)))))))))
      refine a8 (a7 ?_)
      have hstop:j=0∨¬l2.getD j 0<l2.getD (j-1) 0 := .inr hless
      have ho2:=ho3
      have hc2:=hc2.tr0 hc3
      refine Exists.intro (n) (And.intro (by omega) ?_)
      refine⟨i+1,l2,?_,by omega,by omega,ho2,hm2.done hji hstop,hc2⟩
      exact aw rfl (aw rfl (aw rfl (aw (bB (by omega)) bF)))
    ·refine aj rfl rfl rfl (fun _=>bR (di rfl rfl) (congrArg Value.bool (decide_eq_false ((by omega))))) ?_
     refine ym rfl rfl rfl ?_
     refine aZ rfl rfl rfl ?_
     refine aZ rfl rfl rfl ?_
     refine aZ rfl rfl rfl ?_
     refine dv rfl rfl rfl ?_
     refine aZ rfl rfl rfl ?_
     refine aZ rfl rfl rfl ?_
     refine aZ rfl rfl rfl ?_
     refine aZ rfl rfl rfl ?_
     refine dv rfl rfl rfl ?_
     refine wpP_noe rfl rfl rfl ?_
     refine aj rfl rfl rfl (fun _=>(aL rfl)) ?_
     refine aQ (a7 (aM (rfl) ?_))
     refine aP (aq (aq (aE (aB (a7 (al (zm rfl (a6 rfl (aD rfl rfl (by omega)) (za rfl ?_)))))))))
     refine a8 (a7 ?_)
     have hstop:j=0∨¬l2.getD j 0<l2.getD (j-1) 0 := .inl (by omega)
     have ho2:=ho2.mod0 (drw _)
     have hc2:=hc2.tr0 (drw _)
     refine Exists.intro (n) (And.intro (by omega) ?_)
     refine⟨i+1,l2,?_,by omega,by omega,ho2,hm2.done hji hstop,hc2⟩
     exact aw rfl (aw rfl (aw rfl (aw (bB (by omega)) bF)))
  ·refine aP (aq (aq (aE (jP ?_))))
   rw[hs1.sort (by rw[hs1.length]; omega)] at ho1
   exact⟨ho1,hc1⟩
theorem BD(v:Value)(l:List UInt32)(lim:Int)(w:World)(ho:Own w v l)(hl:l.length≤12) :
  Ret Tryz.prog 174 #[v,.int .i64 0,.int .i64 l.length,.int .i64 lim] w fun _ w'=>Own w' v (ko l)∧Chg (ar v) w w':=by
 refine enter [] Tryz.func174 rfl rfl (Nat.le_of_ble_eq_true rfl) ?_
 refine zSR (za rfl (zNR (za rfl (a8 (a7 (au (bn [0,1,2,3,8,9] (fun n vs w'=>vs=[v,.int .i64 0,.int .i64 l.length,.int .i64 lim,.bool true,.bool true]∧w'=w) (0) ?_ ?_)))))))
 ·exact⟨rfl,rfl⟩
 ·rintro n vs J w1 ⟨rfl,rfl⟩
  refine au (zSR (zm rfl (zm rfl (a6 rfl (cj rfl rfl (by omega)) (za rfl ?_)))))
  refine a8 (a7 (ae (zSR (zm rfl (a6 rfl (ml rfl rfl) ?_)))))
  refine a8 (a7 (bs rfl (by omega) ?_))
  refine zSR (zm rfl (zm rfl (zm rfl (ah rfl C215 (vJ v l _ ho (by omega)) ?_))))
  rintro _ w2 ⟨ho2,hc2⟩
  refine a8 (a7 (bQ (bq (cG (bq (cG (fY ?_)))))))
  exact⟨ho2,hc2⟩
theorem CI(x:UInt64)(w:World)(hx:x.toNat<256) :
  Ret Tryz.prog 188 #[.int .u64 x.toNat] w fun v w'=>(∃k:Int,v = .int .i64 k)∧w'=w:=by
 have hge:∀b:UInt64,256≤b.toNat→¬x≥b:=fun b hb h=>by
  have:=UInt64.le_iff_toNat_le.1 h
  omega
 refine enter [2] Tryz.func188 rfl rfl (Nat.le_of_ble_eq_true rfl) ?_
 refine zSR (za rfl (a8 (a7 (ae (zSR (zm rfl (a6 rfl (pT (b:=4294967296) rfl rfl) ?_)))))))
 refine a8 (a7 (aF rfl (hge _ (by decide)) ?_))
 refine aA (a7 (ae (zSR (zm rfl (a6 rfl (pT (b:=65536) rfl rfl) ?_)))))
 refine a8 (a7 (aF rfl (hge _ (by decide)) ?_))
 refine aA (a7 (ae (zSR (zm rfl (a6 rfl (pT (b:=256) rfl rfl) ?_)))))
 refine a8 (a7 (aF rfl (hge _ (by decide)) ?_))
 refine zKR (zm rfl (zm rfl (a6 rfl (eN rfl dV uU5) ?_)))
 refine bg rfl ((⟨_,fun _=>wJ uU9 rfl rfl (Int.natCast_nonneg _) (getD_some (d:=0) (by show _<256; exact UInt8.toNat_lt _)),⟨_,rfl,UInt8.toNat_lt _⟩⟩:∃v,(∀w',exec _ _ _ _ w' = .ok (.value v) w')∧∃b:UInt8,v = .int .u8 b.toNat∧b.toNat<256)) ?_
 rintro _ ⟨b,rfl,hb⟩
 refine a6 rfl (fC rfl uU5 uU3 (by omega)) (a6 rfl (aD rfl rfl (by omega)) (za rfl ?_))
 refine a8 (a7 (zrf ?_))
 exact⟨⟨_,rfl⟩,rfl⟩
theorem BLen_ok(x:UInt64)(w:World)(hx:x.toNat<256) :
  Ret Tryz.prog 132 #[.int .u64 x.toNat] w fun v w'=>(∃k:Int,v = .int .i64 k)∧w'=w:=by
 refine enter [2] Tryz.func132 rfl rfl (Nat.le_of_ble_eq_true rfl) ?_
 refine zSR (za rfl (a8 (a7 (ae (aM (rfl) ?_)))))
 refine zKR (zm rfl (ah rfl C188 (CI x w hx) ?_))
 rintro _ w1 ⟨⟨k,rfl⟩,rfl⟩
 refine za rfl (a8 (a7 (zrf ?_)))
 exact⟨⟨k,rfl⟩,rfl⟩
theorem Ap(v:Value)(l:List UInt32)(w:World)(ho:Own w v l)(hl:l.length≤12) :
  Ret Tryz.prog 115 #[v] w fun _ w'=>Own w' v (ko l)∧Chg (ar v) w w':=by
 have hf:=ho.form rfl
 obtain⟨pv,cv,rfl⟩:=hf
 have h64:(cW (l.length:Int)).toNat=l.length:=by rw[dX,UInt64.toNat_ofNat_of_lt' (show l.length<18446744073709551616 by omega)]
 refine enter [] Tryz.func115 rfl rfl (Nat.le_of_ble_eq_true rfl) ?_
 refine zSR (zm rfl (a6 rfl (ax rfl bw) (za rfl ?_)))
 refine a8 (a7 (al (zm rfl (zm rfl (zm rfl (a6 rfl (cP rfl uU3 sB) ?_))))))
 refine ah rfl C132 (BLen_ok (cW l.length) _ (by omega)) ?_
 rintro _ w1 ⟨⟨k,rfl⟩,rfl⟩
 refine ah rfl C174 (BD (.slice pv l.length cv) l k _ ho hl) ?_
 rintro _ w2 ⟨ho2,hc2⟩
 refine a8 (jP ?_)
 exact⟨ho2,hc2⟩
end Go.Proofs.YtpbfapbajmdlkaaGreat

end
section
namespace Go.Proofs.YtpbfapbajmdlkaaGreat
open Go Go.Sac Go.Maps
set_option maxRecDepth 100000
set_option maxHeartbeats 4000000
theorem CJ(w:World)(r:Nat) :
  Ret Tryz.prog 68 #[.map (some r)] w fun v w'=>∃q,v = .func (.func 116) #[] #[.pointer (some ⟨q,0,none⟩)]∧Blk w' q [.map (some r)]∧w.heap.size≤q∧Chg [] w w':=by
 refine enter [2] Tryz.func68 rfl rfl (Nat.le_of_ble_eq_true rfl) ?_
 refine zSR (aS rfl (cg (l:=[.map (some r)]) rfl rfl) ?_)
 rintro _ w1 ⟨q,rfl,hq,hB,hc,hl⟩
 refine za rfl (zNR (a6 rfl (AH rfl) ?_))
 refine za rfl (a8 (a7 (zrf ?_)))
 exact⟨q,rfl,hB,hq,hc⟩
theorem wC(w:World)(q r:Nat)(f:PgF)(n:Nat)(hn:n≤1000)(hB:Blk w q [.map (some r)])(hm:SetAt w r f)(hf:∀x,f x=true→x.toNat<n) :
  Ret Tryz.prog 114 #[.func (.func 116) #[] #[.pointer (some ⟨q,0,none⟩)]] w fun v w'=>∃l:List UInt32,Own w' v l∧ko l=oZ f n∧l.length≤n∧Chg [] w w'∧In v [] w.heap.size:=by
 obtain⟨m,hm,hg⟩:=hm
 have hnd:(m.map (·.1)).Nodup:=by obtain⟨es,cl,_,_,hn,_⟩:=hm; exact hn
 have hmem:∀x,x∈m.map (·.1)↔f x=true:=fun x=>by
  have h1:=hg x
  constructor
  ·intro hx
   by_cases hfx:f x=true
   ·exact hfx
   ·rw[if_neg hfx] at h1
    have hob1:=List.mem_map.1 hx
    obtain⟨p,hp,rfl⟩:=hob1
    have:=(hE hnd).2 (show(p.1,p.2)∈m from hp)
    rw[this] at h1; cases h1
  ·intro hfx
   rw[if_pos hfx] at h1
   exact List.mem_map.2 ⟨_,(hE hnd).1 h1,rfl⟩
 have hsort:∀l:List UInt32,l.Perm (m.map (·.1))→ko l=oZ f n:=fun l hl =>
  uP (by omega) (hl.nodup_iff.2 hnd) (fun x=>by rw[hl.mem_iff]; exact hmem x) hf
 have hlen:∀l:List UInt32,l.Perm (m.map (·.1))→l.length≤n:=fun l hl=>by
  rw[←mK,hsort l hl]; exact vf f n
 have hml:m.length≤n:=by have:=hlen _ (.refl _); simpa using this
 obtain⟨D0,hown,hperm,hsz⟩:=rL bK hm (by unfold maxLen; omega)
 have hseq:SeqGives Fence.wide 3 Tryz.prog 116 #[.pointer (some ⟨q,0,none⟩)] (jA .u32) (fun ss=>ss.Perm (intKeys D0)) (Maps.size D0) w :=
  qU Fence.wide _ trivial rfl (by omega) q r m.length D0 w hB.lt (hB.c rfl) hown
 have cC:=qV Fence.wide 5 trivial trivial rfl (by omega) 116 #[.pointer (some ⟨q,0,none⟩)] trivial (enters_of Tryz.func116 (by kernel_rfl) rfl) _ _ (by rw[hsz]; unfold maxLen; omega) (by rw[hsz]; omega) _ hseq
 refine Calls.mono (callsIn_wide.1 cC) ?_
 rintro e w' ⟨v,ss,rfl,hS,hrow,hnil,hb⟩
 have hp2:ss.Perm ((m.map (·.1)).map fun p=>(p.toNat:Int)):=by rw[List.map_map]; exact hS.trans hperm
 have hob2:=tX hp2
 obtain⟨l,hl,rfl⟩:=hob2
 rw[List.length_map,List.map_map] at hrow
 have hob3:=vq (l:=l) hrow
 obtain⟨h1,h2⟩:=hob3
 exact⟨v,rfl,l,h1,hsort l hl,hlen l hl,⟨hb.size,fun b hb' _=>hb.block b hb',hb.os,hb.output⟩,h2⟩
theorem xW(w:World)(q r:Nat)(f:PgF)(n:Nat)(hn:n≤1000)(h12:(oZ f n).length≤12)(hB:Blk w q [.map (some r)])(hm:SetAt w r f)(hf:∀x,f x=true→x.toNat<n) :
  Ret Tryz.prog 67 #[.func (.func 116) #[] #[.pointer (some ⟨q,0,none⟩)]] w fun v w'=>Own w' v (oZ f n)∧Chg [] w w'∧In v [] w.heap.size:=by
 refine enter [2] Tryz.func67 rfl rfl (Nat.le_of_ble_eq_true rfl) ?_
 refine zSR (za rfl (zNR (zm rfl (ah rfl C114 (wC w q r f n (by omega) hB hm hf) ?_))))
 rintro v1 w1 ⟨l,ho1,hs1,hl1,hc1,hi1⟩
 refine za rfl (zNR (zm rfl ?_))
 have hl12:l.length≤12:=by rw[←mK,hs1]; exact h12
 refine ah rfl C115 (Ap v1 l w1 ho1 hl12) ?_
 rintro _ w2 ⟨ho2,hc2⟩
 refine zNR (zm rfl (za rfl (a8 (a7 (zrf ?_)))))
 rw[hs1] at ho2
 exact⟨ho2,hc1.t0 hc2 (fun x hx=>hi1.ge x hx),hi1⟩
end Go.Proofs.YtpbfapbajmdlkaaGreat

end
section
namespace Go.Proofs.YtpbfapbajmdlkaaGreat
open Go Go.Sac
set_option maxRecDepth 100000
set_option maxHeartbeats 4000000
theorem zF{P:Pg}{n:Nat}(h:∀x,P.free x=true):dN P n=n:=by
 unfold dN
 rw[List.filter_eq_self.2 (fun i _=>h _),List.length_range]
structure TR(c:TC)(w:World)(s:TP)(root:UInt32)(d:Nat)(pg:List UInt32)(m:List Pr):Prop where
 at_:c.pg w s
 tree:isT s.V d root pg m
 wr:∀x∈pg,s.P.now.written x=true
 nd:pg.Nodup
def V0:UInt32→Bs:=fun _=>[]
def key0:List UInt8:=List.replicate 32 0
theorem tm(w:World)(n:Nat)(hn:4≤n∧n≤400) :
  Ret Tryz.prog 18 #[.int .i64 n] w fun r w'=>∃(c:TC) (s:TP) (id:UInt32),r = .tuple #[c.pv,.int .u32 id.toNat,.bool true]∧c.n=n∧c.w0=w∧TR c w' s id 0 [id] []∧n≤dN s.P c.n+1∧s.k≤2∧Chg [] w w':=by
 refine enter [2,3,4] Tryz.func18 rfl rfl (Nat.le_of_ble_eq_true rfl) ?_
 refine zSR (za rfl (a6 rfl (fE (v := .int .u32 ((0:UInt32).toNat:Nat)) rfl) (za rfl ?_)))
 refine zNR (zm rfl (a6 rfl (eW rfl rfl (by omega)) (a6 rfl (aD rfl rfl (by omega)) ?_)))
 refine ah rfl C37 (BM w w (32+8*n) (by omega) (Chg.refl _)) ?_
 rintro _ w1 ⟨b,kv,r,rfl,hd1,hc1,hF1⟩
 refine a6 rfl (iI (List.replicate 32 (0:UInt8)) ([]) (l:=key0) gq I63 rfl I5 (by kernel_rfl) rfl (by kernel_rfl) rfl (by kernel_rfl)) ?_
 refine ah rfl C55 (xA (n:=n) V0 hd1 hn rfl) ?_
 rintro _ w2 ⟨R,a,ds2,rfl,hS2,hc2,hR2⟩
 refine zm rfl (zx rfl rfl rfl (zx rfl rfl rfl (za rfl (za rfl (a8 (a7 (ae (zSR (zm rfl (a6 rfl (bL rfl rfl) ?_))))))))))
 refine a8 (a7 (aF rfl (fun h=>h rfl) ?_))
 refine zKR (zm rfl ?_)
 have hc02:Chg [] w w2:=hc1.t0 hc2 hF1
 have hroom:dN (pgZ a) n=n:=zF (fun x=>rfl)
 refine ah rfl C56 (An ⟨w,b,kv,r,R,n,key0⟩ w2 ⟨1,ds2,pgZ a,V0⟩ hS2 (by show 1+1≤40000; decide)) ?_
 rintro v3 w3 ⟨hr3,hc3⟩
 have hge:=PS.ge hS2
 rcases hr3 with⟨_,_,hno⟩ | ⟨id,s3,rfl,hp3,hx3,hk3,hit3⟩
 ·have hno:dN (pgZ a) n=0:=hno
  omega
 ·refine zm rfl (zx rfl rfl rfl (zx rfl rfl rfl (za rfl (za rfl (zNR (zm rfl (zm rfl (zm rfl (a6 rfl (cX rfl rfl) (za rfl (za rfl (za rfl ?_))))))))))))
  refine a8 (a7 (zrf ?_))
  refine⟨⟨w,b,kv,r,R,n,key0⟩,s3,id,rfl,rfl,rfl,⟨hp3,hit3,fun x hx=>(hx3.mem hx).2,by simp⟩,?_,hk3,hc02.t0 hc3 hge⟩
  have:=hx3.count hn.2
  have q:dN (pgZ a) n≤dN s3.P n+1:=this
  show n≤dN s3.P n+1
  omega
def gC(n:UInt16):Bs:=[107,oX ((n.toNat / 256:Nat):Int),oX (n.toNat:Int)]
theorem yD(w:World)(n:UInt16):Ret Tryz.prog 19 #[.int .u16 n.toNat] w fun r w'=>r=str (gC n)∧Chg [] w w':=by
 have hsh:Value.int .u16 ((n.toNat:Int).fdiv (2 ^ (min ((8:Int).toNat) (IntKind.u16).bits))) = .int .u16 ((n.toNat / 256:Nat):Int):=by
  congr 1
  exact Int.fdiv_eq_ediv_of_nonneg _ (by decide)
 refine enter [2] Tryz.func19 rfl rfl (Nat.le_of_ble_eq_true rfl) ?_
 refine zSR (za rfl (zNR (zm rfl (a6 rfl (bR (y6 rfl rfl (by decide)) hsh) ?_))))
 refine a6 rfl (eN rfl uU30 uU5) (zm rfl (a6 rfl (eN rfl uU30 uU5) ?_))
 refine aS rfl (mz [.int .u8 107,.int .u8 (oX ((n.toNat / 256:Nat):Int)).toNat,.int .u8 (oX (n.toNat:Int)).toNat] (gC n) aR I5 rfl rfl rfl rfl rfl rfl (by decide) (by decide)) ?_
 rintro _ w1 ⟨⟨b1,o1,c1,rfl⟩,ho1,hc1,hi1⟩
 refine a6 rfl (lu aR uU5 uU9 ho1.sl rfl) ?_
 refine za rfl (a8 (a7 (zrf ?_)))
 exact⟨rfl,hc1⟩
theorem BN(n:UInt16):jv (gC n):=by constructor <;> simp[gC]
end Go.Proofs.YtpbfapbajmdlkaaGreat

end
section
namespace Go.Proofs.YtpbfapbajmdlkaaGreat
open Go Go.Sac
set_option maxRecDepth 100000
set_option maxHeartbeats 4000000
section
variable {c:TC}{w w':World}{s s':TP}{root id:UInt32}{d d':Nat}{pg pg' made gone:List UInt32}{m m':List Pr}
theorem TR.ext(h:TR c w s root d pg m)(hp:c.pg w' s')(hx:Ext c.n s.P s'.P s.V s'.V made):TR c w' s' root d pg m :=
 ⟨hp,qW h.tree (fun x hx'=>hx.old x (h.wr x hx')),fun x hx'=>hx.wr (h.wr x hx'),h.nd⟩
theorem TR.chg0(h:TR c w s root d pg m)(hm:Chg [] w w'):TR c w' s root d pg m:=⟨h.at_.chg0 hm,h.tree,h.wr,h.nd⟩
theorem TR.chg{S:List Nat}(h:TR c w s root d pg m)(hm:Chg S w w')(hn:∀x∈c.F,x∉S)(hs:∀x∈S,c.w0.heap.size≤x):TR c w' s root d pg m:=⟨h.at_.chg hm hn hs,h.tree,h.wr,h.nd⟩
theorem TR.step(h:TR c w s root d pg m)(hp:c.pg w' s')(hx:Ext c.n s.P s'.P s.V s'.V made)(ht:isT s'.V d' id pg' m')(hm:(pg'++gone).Perm (pg++made)):TR c w' s' id d' pg' m':=by
 have hmem:∀x∈pg',x∈pg∨x∈made:=fun x hx'=>List.mem_append.1 (hm.mem_iff.1 (List.mem_append_left _ hx'))
 have hnd:(pg++made).Nodup:=by
  rw[List.nodup_append]
  exact⟨h.nd,hx.nodup,fun a ha b hb e=>by
   subst e
   have h1:=h.at_.wu (h.wr a ha)
   have h2:=(hx.new a hb).1
   unfold Pg.free at h2
   rw[h1] at h2
   simp at h2⟩
 refine⟨hp,ht,fun x hx'=>?_,(List.nodup_append.1 (hm.nodup_iff.2 hnd)).1⟩
 rcases hmem x hx' with q | q
 ·exact hx.wr (h.wr x q)
 ·exact(hx.mem q).2
def PutT(c:TC)(s:TP)(d:Nat)(m':List Pr)(w':World)(r:Value→Value→Value)(ra:Value):Prop :=
 (ra=r (.int .u32 0) (.int .i64 70)∧∃s',c.pg w' s'∧Ext c.n s.P s'.P s.V s'.V []∧s'.k≤s.k+2*d+3∧dN s.P c.n≤2*(d+1)) ∨
 ∃(id:UInt32) (d':Nat) (pg' made:List UInt32) (s':TP),ra=r (.int .u32 id.toNat) (.int .i64 0)∧TR c w' s' id d' pg' m'∧Ext c.n s.P s'.P s.V s'.V made∧s'.k≤s.k+2*d+3∧made.length≤2*d+3∧d'≤d+1∧(d=0→bM m'≤480→made.length≤1∧d'=0)
theorem PutR.t{r:Value→Value→Value}{ra:Value}(h:TR c w s root d pg m)(hr:PutR c s d pg m' r ra (s.k+2*d+3) w'):PutT c s d m' w' r ra:=by
 rcases hr with⟨h1,⟨s',h2,h3,h4⟩,h5⟩ | ⟨id,d',pg',made,gone,s',q1,q2,q3,q4,q5,q6,q7,q8,q9,_⟩
 ·exact .inl ⟨h1,s',h2,h3,h4,h5⟩
 ·exact .inr ⟨id,d',pg',made,s',q1,h.step q2 q3 q7 q8,q3,q4,q5,q6,q9⟩
theorem put9(h:TR c w s root d pg m){p:Pr}(hp:mU p)(hd:d≤40)(hk:s.k+2*d+3≤40000) :
  Ret Tryz.prog 20 #[c.pv,.int .u32 root.toNat,str p.1,str p.2] w fun r w'=>PutT c s d (eh m p) w' (fun a e => .tuple #[a,e]) r∧Chg c.F w w':=by
 refine(zb c w s root d pg m p h.at_ h.tree h.wr hd hk).mono ?_
 rintro r w' ⟨⟨q,_⟩ | ⟨_,hr⟩,hc⟩
 ·exact absurd hp q
 ·exact⟨hr.t h,hc⟩
theorem put9s(h:TR c w s root 0 pg m){p:Pr}(hp:mU p)(hz:bM (eh m p)≤480)(hr:2<dN s.P c.n)(hk:s.k+3≤40000) :
  Ret Tryz.prog 20 #[c.pv,.int .u32 root.toNat,str p.1,str p.2] w fun r w'=>(∃(id:UInt32) (pg' made:List UInt32) (s':TP),r = .tuple #[.int .u32 id.toNat,.int .i64 0]∧TR c w' s' id 0 pg' (eh m p)∧Ext c.n s.P s'.P s.V s'.V made∧s'.k≤s.k+3∧dN s.P c.n≤dN s'.P c.n+1)∧Chg c.F w w':=by
 refine(put9 h hp (by omega) (by omega)).mono ?_
 rintro r w' ⟨⟨_,_,_,_,_,q⟩ | ⟨id,d',pg',made,s',q1,q2,q3,q4,q5,q6,q7⟩,hc⟩
 ·omega
 ·obtain⟨h1,rfl⟩:=q7 rfl hz
  have:=q3.count h.at_.n4.2
  exact⟨⟨id,pg',made,s',q1,q2,q3,by omega,by omega⟩,hc⟩
theorem put9no(h:TR c w s root d pg m){p:Pr}(hp:¬mU p)(hd:d≤40)(hk:s.k+2*d+3≤40000) :
  Ret Tryz.prog 20 #[c.pv,.int .u32 root.toNat,str p.1,str p.2] w fun r w'=>r = .tuple #[.int .u32 0,.int .i64 90]∧TR c w' s root d pg m∧Chg c.F w w':=by
 refine(zb c w s root d pg m p h.at_ h.tree h.wr hd hk).mono ?_
 rintro r w' ⟨⟨_,q1,q2⟩ | ⟨q,_⟩,hc⟩
 ·exact⟨q1,⟨q2,h.tree,h.wr,h.nd⟩,hc⟩
 ·exact absurd q hp
theorem zX(m:List Pr)(k:Bs):bM (fO m k)≤bM m:=by
 unfold bM fO
 induction m with
 | nil => simp
 | cons p m ih =>
  rw[List.filter_cons]
  split
  ·simp only[List.map_cons,List.sum_cons]; omega
  ·simp only[List.map_cons,List.sum_cons]; omega
theorem del9(h:TR c w s root d pg m)(key:Bs)(hd:d≤40)(hk:s.k+2*d+3≤40000) :
  Ret Tryz.prog 24 #[c.pv,.int .u32 root.toNat,str key] w fun r w'=>((dh m key=false∧r = .tuple #[.int .u32 root.toNat,.bool false,.int .i64 0]∧∃s',TR c w' s' root d pg m∧Ext c.n s.P s'.P s.V s'.V []∧s'.k≤s.k)∨(dh m key=true∧PutT c s d (fO m key) w' de3 r))∧Chg c.F w w':=by
 refine(xV c w s root d pg m key h.at_ h.tree h.wr hd hk).mono ?_
 rintro r w' ⟨⟨q,q1,s',q2,q3,q4⟩ | ⟨q,hr⟩,hc⟩
 ·exact⟨.inl ⟨q,q1,s',h.ext q2 q3,q3,q4⟩,hc⟩
 ·exact⟨.inr ⟨q,hr.t h⟩,hc⟩
theorem del9s(h:TR c w s root 0 pg m)(key:Bs)(b:Bool)(hb:dh m key=b)(hr:2<dN s.P c.n)(hk:s.k+3≤40000) :
  Ret Tryz.prog 24 #[c.pv,.int .u32 root.toNat,str key] w fun r w'=>(∃(id:UInt32) (pg' made:List UInt32) (s':TP),r = .tuple #[.int .u32 id.toNat,.bool b,.int .i64 0]∧TR c w' s' id 0 pg' (fO m key)∧Ext c.n s.P s'.P s.V s'.V made∧s'.k≤s.k+3∧dN s.P c.n≤dN s'.P c.n+1)∧Chg c.F w w':=by
 subst hb
 have hn:=h.at_.n4.2
 refine(del9 h key (by omega) (by omega)).mono ?_
 rintro r w' ⟨⟨hh,q1,s',q2,q3,q4⟩ | ⟨hh,⟨_,_,_,_,_,q⟩ | ⟨id,d',pg',made,s',q1,q2,q3,q4,q5,q6,q7⟩⟩,hc⟩
 ·have hsame:=A8 (gj h.tree).2 hh
  have:=q3.count hn
  rw[hsame,hh]
  exact⟨⟨root,pg,[],s',q1,q2,q3,by omega,by rw[List.length_nil] at this; omega⟩,hc⟩
 ·omega
 ·obtain⟨h1,rfl⟩:=q7 rfl (Nat.le_trans (zX m key) h.tree.2.1.2)
  have:=q3.count hn
  rw[hh]
  exact⟨⟨id,pg',made,s',q1,q2,q3,by omega,by omega⟩,hc⟩
theorem get9(h:TR c w s root d pg m)(key v:Bs)(b:Bool)(hv:(kN m key).getD []=v)(hb:dh m key=b)(hd:d≤40) :
  Ret Tryz.prog 23 #[c.pv,.int .u32 root.toNat,str key] w fun r w'=>r = .tuple #[str v,.bool b,.int .i64 0]∧TR c w' s root d pg m∧Chg [] w w':=by
 subst hv hb
 refine(TGet_ok c w s root d pg m key h.at_ h.tree h.wr hd).mono ?_
 rintro r w' ⟨q,hc⟩
 exact⟨q,h.chg0 hc,hc⟩
theorem len9(h:TR c w s root d pg m)(hd:d≤40)(hm:m.length≤10000) :
  Ret Tryz.prog 27 #[c.pv,.int .u32 root.toNat] w fun r w'=>r = .tuple #[.int .i64 m.length,.int .i64 0]∧TR c w' s root d pg m∧Chg [] w w':=by
 refine(TLen_ok c w s root d pg m h.at_ h.tree h.wr hd h.nd hm).mono ?_
 rintro r w' ⟨q,hc⟩
 exact⟨q,h.chg0 hc,hc⟩
theorem uh(h:TR c w s root d pg m)(hd:d≤40) :
  Ret Tryz.prog 25 #[c.pv,.int .u32 root.toNat] w fun r w'=>r = .int .i64 0∧TR c w' s root d pg m∧Chg [] w w':=by
 refine(Ao c w s root d pg m h.at_ h.tree h.wr hd h.nd).mono ?_
 rintro r w' ⟨q,hc⟩
 exact⟨q,h.chg0 hc,hc⟩
theorem TR.room(h:TR c w s root d pg m) :
  Ret Tryz.prog 26 #[c.pv] w fun r w'=>r = .int .i64 (dN s.P c.n)∧TR c w' s root d pg m∧Chg [] w w':=by
 refine(Bo h.at_).mono ?_
 rintro r w' ⟨q,q2,hc⟩
 exact⟨q,h.chg0 hc,hc⟩
end
structure Bud(c:TC)(s:TP)(i:Nat):Prop where
 k:s.k≤2+3*i
 room:389≤dN s.P c.n+i
structure SmT(c:TC)(w:World)(s:TP)(id:UInt32)(m:List Pr)(i:Nat):Prop where
 tr:∃pg,TR c w s id 0 pg m
 len:m.length≤i
 small:∀p∈m,p.1.length+p.2.length≤7
section
variable {c:TC}{w w':World}{s s':TP}{id:UInt32}{i j:Nat}{m:List Pr}{made:List UInt32}
theorem TR.now{d:Nat}{pg:List UInt32}(h:TR c w s id d pg m):Chg [] c.w0 w:=PS.now h.at_
theorem SmT.now(h:SmT c w s id m i):Chg [] c.w0 w:=by obtain⟨_,h⟩:=h.tr; exact h.now
theorem SmT.at_(h:SmT c w s id m i):c.pg w s:=by obtain⟨_,h⟩:=h.tr; exact h.at_
theorem SmT.sort(h:SmT c w s id m i):df m:=by obtain⟨_,h⟩:=h.tr; exact(gj h.tree).2
theorem SmT.ext(h:SmT c w s id m i)(hp:c.pg w' s')(hx:Ext c.n s.P s'.P s.V s'.V made):SmT c w' s' id m i:=by
 obtain⟨⟨pg,h1⟩,h2,h3⟩:=h
 exact⟨⟨pg,h1.ext hp hx⟩,h2,h3⟩
theorem SmT.chg0(h:SmT c w s id m i)(hm:Chg [] w w'):SmT c w' s id m i:=by
 obtain⟨⟨pg,h1⟩,h2,h3⟩:=h
 exact⟨⟨pg,h1.chg0 hm⟩,h2,h3⟩
theorem SmT.chg{S:List Nat}(h:SmT c w s id m i)(hm:Chg S w w')(hn:∀x∈c.F,x∉S)(hs:∀x∈S,c.w0.heap.size≤x):SmT c w' s id m i:=by
 obtain⟨⟨pg,h1⟩,h2,h3⟩:=h
 exact⟨⟨pg,h1.chg hm hn hs⟩,h2,h3⟩
theorem SmT.put(h:SmT c w s id m j)(hb:Bud c s i)(hi:i≤100)(hj:j≤40){p:Pr}(hp:mU p)(h7:p.1.length+p.2.length≤7) :
  Ret Tryz.prog 20 #[c.pv,.int .u32 id.toNat,str p.1,str p.2] w fun r w'=>(∃(id':UInt32) (s':TP) (made:List UInt32),r = .tuple #[.int .u32 id'.toNat,.int .i64 0]∧SmT c w' s' id' (eh m p) (j+1)∧Bud c s' (i+1)∧Ext c.n s.P s'.P s.V s'.V made)∧Chg c.F w w':=by
 have hs:=h.sort
 obtain⟨⟨pg,h1⟩,h2,h3⟩:=h
 have hl:=zI p hs
 have hsm:∀q∈eh m p,q.1.length+q.2.length≤7:=fun q hq=>by
  rcases jq hq with rfl | hq
  ·exact h7
  ·exact h3 q hq
 have hz:=sU hsm
 have k1:=hb.k
 have k2:=hb.room
 refine(put9s h1 hp (by omega) (by omega) (by omega)).mono ?_
 rintro r w' ⟨⟨id',pg',made,s',q1,q2,q3,q4,q5⟩,hc⟩
 exact⟨⟨id',s',made,q1,⟨⟨pg',q2⟩,by omega,hsm⟩,⟨by omega,by omega⟩,q3⟩,hc⟩
theorem SmT.del(h:SmT c w s id m j)(hb:Bud c s i)(hi:i≤100)(key:Bs) :
  Ret Tryz.prog 24 #[c.pv,.int .u32 id.toNat,str key] w fun r w'=>(∃(id':UInt32) (s':TP) (made:List UInt32),r = .tuple #[.int .u32 id'.toNat,.bool (dh m key),.int .i64 0]∧SmT c w' s' id' (fO m key) (j+1)∧Bud c s' (i+1)∧Ext c.n s.P s'.P s.V s'.V made)∧Chg c.F w w':=by
 obtain⟨⟨pg,h1⟩,h2,h3⟩:=h
 have k1:=hb.k
 have k2:=hb.room
 have hl:(fO m key).length≤m.length:=List.length_filter_le _ _
 refine(del9s h1 key _ rfl (by omega) (by omega)).mono ?_
 rintro r w' ⟨⟨id',pg',made,s',q1,q2,q3,q4,q5⟩,hc⟩
 exact⟨⟨id',s',made,q1,⟨⟨pg',q2⟩,by omega,fun q hq=>h3 q (nB hq)⟩,⟨by omega,by omega⟩,q3⟩,hc⟩
end
theorem zZ(w:World):Ret Tryz.prog 17 #[] w fun v w'=>v = .bool true∧Chg [] w w':=by
 refine enter [0] Tryz.func17 rfl rfl (Nat.le_of_ble_eq_true rfl) ?_
 refine zSR (za rfl (zNR (ah rfl C18 (tm w 20 (by decide)) ?_)))
 rintro _ w1 ⟨c,s1,r,rfl,hcn,hcw,hT1,hr1,hk1,hc1⟩
 refine zm rfl (zx rfl rfl rfl (zx rfl rfl rfl (zx rfl rfl rfl (za rfl (za rfl (za rfl (a8 (a7 (ae (zSR (zm rfl (a6 rfl (cA rfl) (a8 (a7 (aM (rfl) ?_)))))))))))))))
 refine zKR (zm rfl (zm rfl (ah rfl C20 (put9s hT1 (p:=([97],[49])) (by decide) (by decide) (by omega) (by omega)) ?_)))
 rintro _ w2 ⟨⟨id,pg2,made,s2,rfl,hT2,hx2,hk2,hr2⟩,hc2⟩
 refine zm rfl (zx rfl rfl rfl (zx rfl rfl rfl (za rfl (za rfl (zNR (zm rfl (zm rfl ?_)))))))
 have hA2:=hT1.ext hT2.at_ hx2
 refine ah rfl C20 (put9no hT2 (p:=([],[49])) (by decide) (by decide) (by omega)) ?_
 rintro _ w3 ⟨rfl,hT3,hc3⟩
 refine zm rfl (zx rfl rfl rfl (zx rfl rfl rfl (za rfl (za rfl (zNR (zm rfl (zm rfl ?_)))))))
 have hA3:=hA2.ext hT3.at_ (Ext.refl _ _ _)
 refine ah rfl C23 (get9 hT3 [97] [49] true rfl rfl (by decide)) ?_
 rintro _ w4 ⟨rfl,hT4,hc4⟩
 refine zm rfl (zx rfl rfl rfl (zx rfl rfl rfl (zx rfl rfl rfl (za rfl (za rfl (za rfl (zNR (zm rfl (zm rfl ?_)))))))))
 have hA4:=hA3.chg0 hc4
 refine ah rfl C23 (get9 hA4 [97] [] false rfl rfl (by decide)) ?_
 rintro _ w5 ⟨rfl,hA5,hc5⟩
 refine zm rfl (zx rfl rfl rfl (zx rfl rfl rfl (zx rfl rfl rfl (za rfl (za rfl (za rfl (zNR (zm rfl (zm rfl ?_)))))))))
 have hT5:=hT4.chg0 hc5
 refine ah rfl C24 (del9s hT5 [97] true rfl (by omega) (by omega)) ?_
 rintro _ w6 ⟨⟨ud,pg6,made6,s6,rfl,hT6,hx6,hk6,hr6⟩,hc6⟩
 refine zm rfl (zx rfl rfl rfl (zx rfl rfl rfl (zx rfl rfl rfl (za rfl (za rfl (za rfl (zNR (zm rfl (zm rfl ?_)))))))))
 have hB6:=hT5.ext hT6.at_ hx6
 refine ah rfl C27 (len9 hT6 (by decide) (by decide)) ?_
 rintro _ w7 ⟨rfl,hT7,hc7⟩
 refine zm rfl (zx rfl rfl rfl (zx rfl rfl rfl (za rfl (za rfl (zNR (zm rfl ?_))))))
 have hB7:=hB6.chg0 hc7
 refine a6 rfl (bR (cX rfl rfl) (congrArg Value.bool (decide_eq_true (rfl)))) ?_
 refine zm rfl (ag rfl (zm rfl (ag rfl (a6 rfl (bR (cX rfl rfl) (congrArg Value.bool (decide_eq_true (rfl)))) ?_))))
 refine a6 rfl (aN rfl) (zm rfl (ag rfl (zm rfl (ag rfl (a6 rfl (bR (uB (b:=0) rfl rfl) (congrArg Value.bool (decide_eq_true (rfl)))) ?_)))))
 refine a6 rfl (aN rfl) (zm rfl (ag rfl (zm rfl (ag rfl (a6 rfl (bR (cX rfl rfl) (congrArg Value.bool (decide_eq_true (rfl)))) ?_)))))
 refine a6 rfl (aN rfl) (zm rfl (ag rfl (zm rfl (a6 rfl (aN rfl) (zm rfl (ag rfl (zm rfl (ag rfl (a6 rfl (bR (sm rfl rfl) (congrArg Value.bool (decide_eq_true (rfl)))) ?_)))))))))
 refine a6 rfl (aN rfl) (zm rfl (ag rfl (zm rfl (ag rfl (a6 rfl (bR (cX rfl rfl) (congrArg Value.bool (decide_eq_true (rfl)))) ?_)))))
 refine a6 rfl (aN rfl) (zm rfl (ag rfl (zm rfl (ag rfl (a6 rfl (cA rfl) (a6 rfl (aN rfl) (zm rfl (ag rfl (zm rfl (ag rfl (a6 rfl (bR (cX rfl rfl) (congrArg Value.bool (decide_eq_true (rfl)))) ?_)))))))))))
 refine a6 rfl (aN rfl) (zm rfl (ag rfl (zm rfl (a6 rfl (aN rfl) (zm rfl (ag rfl (zm rfl (ag rfl (a6 rfl (bR (cX rfl rfl) (congrArg Value.bool (decide_eq_true (rfl)))) ?_)))))))))
 refine a6 rfl (aN rfl) (zm rfl (ag rfl (zm rfl (ag rfl (a6 rfl (bR (cX rfl rfl) (congrArg Value.bool (decide_eq_true (rfl)))) ?_)))))
 refine a6 rfl (aN rfl) (zm rfl (ag rfl (zm rfl (ag rfl (zm rfl (ag rfl (ah rfl C25 (uh hB7 (by decide)) ?_)))))))
 rintro _ w8 ⟨rfl,hB8,hc8⟩
 refine ag rfl ?_
 have hT8:=hT7.chg0 hc8
 refine a6 rfl (bR (cX rfl rfl) (congrArg Value.bool (decide_eq_true (rfl)))) ?_
 refine a6 rfl (aN rfl) (zm rfl (ag rfl (zm rfl (ag rfl (zm rfl (ag rfl (ah rfl C25 (uh hT8 (by decide)) ?_)))))))
 rintro _ w9 ⟨rfl,hT9,hc9⟩
 refine ag rfl (a6 rfl (cX rfl rfl) (a6 rfl (aN rfl) (za rfl ?_)))
 refine a8 (a7 (zrf ?_))
 exact⟨rfl,by rw[←hcw]; exact hT9.now⟩
end Go.Proofs.YtpbfapbajmdlkaaGreat

end
section
namespace Go.Proofs.YtpbfapbajmdlkaaGreat
open Go Go.Sac
set_option maxRecDepth 100000
set_option maxHeartbeats 4000000
section
variable {c:TC}{w:World}{s:TP}{id:UInt32}{pg:List UInt32}{m:List Pr}
theorem Ca(mb:Nat)(h:TR c w s id 0 pg m)(hM:SetAt w mb fW)(hF:mb∉c.F∧c.w0.heap.size≤mb) :
  Ret Tryz.prog 113 #[c.pv,.int .u32 id.toNat,.map (some mb),.int .i64 0] w fun r w'=>r = .int .i64 0∧SetAt w' mb (cO fW id)∧Chg [mb] w w':=by
 obtain⟨hpg,hok,hV⟩:=h.tree
 obtain⟨st,hst,hsl⟩:=hM
 have hlook:(bV id st).getD (.bool false) = .bool false:=by rw[SetAt.look hsl]; rfl
 have hlt:mb<w.heap.size:=SetAt.lt ⟨st,hst,hsl⟩
 refine enter [8] Tryz.func113 rfl rfl (Nat.le_of_ble_eq_true rfl) ?_
 refine zSR (za rfl (a8 (a7 (ae (zSR (zm rfl (a6 rfl (di rfl rfl) ?_)))))))
 refine a8 (a7 (aF rfl (by decide) ?_))
 refine aA (a7 (ae (zSR (zm rfl (zm rfl (a6 rfl (bR (fv (k:=id) kn (cK bK) I4 rfl rfl rfl hst) hlook) ?_))))))
 refine a8 (a7 (aM (rfl) ?_))
 refine zKR (zm rfl (zm rfl (ah rfl C59 (ng c w s id (.leaf m) h.at_ (h.wr id (by rw[hpg]; simp)) hV hok) ?_)))
 rintro _ w1 ⟨⟨v,rfl,hn1,hnew1⟩,hc1⟩
 refine zm rfl (zx rfl rfl rfl (zx rfl rfl rfl (za rfl (za rfl (a8 (a7 (ae (zSR (zm rfl (a6 rfl (bL rfl rfl) ?_))))))))))
 refine a8 (a7 (aF rfl (fun h=>h rfl) ?_))
 refine zKR (zm rfl (zm rfl ?_))
 have hst1:=hst.mod hc1 (by simp)
 refine aH rfl (gd (k:=id) kn (cK bK) rfl rfl rfl hst1) ?_
 rintro w2 ⟨hm2,hc2,hs2⟩
 refine a8 (a7 (ae (zSR (zm rfl (zn rfl rfl (a6 rfl (aa bh rfl I41 rfl rfl) ?_))))))
 have hn2:=hn1.chg hc2 (fun x hx hh=>by simp at hh; subst hh; have:=hnew1 _ hx; omega)
 have hS2:SetAt w2 mb (cO fW id):=⟨_,hm2,kX hsl id⟩
 have hi2:Sl w2 v.i ([]:List UInt32):=hn2.i
 have hob1:=hi2.form rfl
 obtain⟨pi,ci,hvi⟩:=hob1
 have hvi:v.i = .slice pi 0 ci:=hvi
 refine a6 rfl (az bw rfl rfl ((by rw[←hvi]; exact hn2.blk.c rfl:_=some (Value.slice pi 0 ci)))) ?_
 refine a6 rfl (ax rfl bw) (zm rfl ?_)
 refine a8 (a7 (au ?_))
 have hc02:Chg [mb] w w2:=hc1.tr0' hc2
 refine bn [0,2,3,33,34,35] (fun q vs w'=>vs=[c.pv,.map (some mb),.int .i64 0,.slice pi 0 ci,.int .i64 0,.int .i64 0]∧w'=w2) (0) ?_ ?_
 ·exact⟨rfl,rfl⟩
 ·rintro q vs J w3 ⟨rfl,rfl⟩
  refine zSR (a6 rfl (bz rfl rfl) ?_)
  refine a8 (a7 (ae (aF rfl (by decide) ?_)))
  refine aP (aq (aq (aE (a7 (zSR (za rfl (a8 (a7 (zrf ?_)))))))))
  exact⟨rfl,hS2,hc02⟩
theorem CK(mb:Nat)(h:TR c w s id 0 pg m)(hM:SetAt w mb fW)(hF:mb∉c.F∧c.w0.heap.size≤mb) :
  Ret Tryz.prog 66 #[c.pv,.int .u32 id.toNat,.map (some mb)] w fun r w'=>r = .int .i64 0∧SetAt w' mb (cO fW id)∧Chg [mb] w w':=by
 refine enter [6] Tryz.func66 rfl rfl (Nat.le_of_ble_eq_true rfl) ?_
 refine zSR (za rfl (zNR (zm rfl (zm rfl (zm rfl (ah rfl C113 (Ca mb h hM hF) ?_))))))
 rintro _ w1 ⟨rfl,hS1,hc1⟩
 refine za rfl (a8 (a7 (zrf ?_)))
 exact⟨rfl,hS1,hc1⟩
theorem yy(id:UInt32){n:Nat}(hn:n≤400)(hi:id.toNat<n):oZ (cO fW id) n=[id]:=by
 have h:=uP (f:=cO fW id) (n:=n) (l:=[id]) (by omega) (by simp) (fun x=>by unfold cO fW; simp) (fun x hx=>by
  have:x=id:=by unfold cO fW at hx; simpa using hx
  subst this; exact hi)
 rw[←h]; exact List.mergeSort_singleton id
theorem zG(h:TR c w s id 0 pg m) :
  Ret Tryz.prog 28 #[c.pv,.int .u32 id.toNat] w fun r w'=>(∃ov,r = .tuple #[ov,.int .i64 0]∧Own w' ov [id])∧TR c w' s id 0 pg m∧Chg [] w w':=by
 have hn:=h.at_.n4
 have hid:id.toNat<c.n:=h.at_.2.2.2.1.ok.used id (h.at_.wu (h.wr id (by rw[h.tree.1]; simp)))
 refine enter [4,5] Tryz.func28 rfl rfl (Nat.le_of_ble_eq_true rfl) ?_
 refine zSR (za rfl (za rfl (zNR (aS rfl (lr UInt32) ?_))))
 rintro _ w1 ⟨mb,rfl,hnm,hM1,hc1,hl1⟩
 refine za rfl (a8 (a7 (ae (zSR (zm rfl (zm rfl (zm rfl ?_)))))))
 have hk1:=hc1.1
 have hlt:=h.at_.lt
 have hw0:=h.now.1
 have hFm:mb∉c.F:=fun hh=>by have:=hlt _ hh; omega
 refine ah rfl C66 (CK mb (h.chg0 hc1) (SetAt.nil hM1) ⟨hFm,by omega⟩) ?_
 rintro _ w2 ⟨rfl,hS2,hc2⟩
 refine za rfl (zNR (zm rfl (a6 rfl (bL rfl rfl) ?_)))
 refine a8 (a7 (aF rfl (fun h=>h rfl) ?_))
 refine zKR (zm rfl ?_)
 have hT2:=(h.chg0 hc1).chg hc2 (fun x hx hh=>by simp at hh; subst hh; exact hFm hx) (fun x hx=>by simp at hx; subst hx; omega)
 have hone:∀x,cO fW id x=true→x.toNat<c.n:=fun x hx=>by
  have:x=id:=by unfold cO fW at hx; simpa using hx
  subst this; exact hid
 refine ah rfl C68 (CJ _ mb) ?_
 rintro _ w3 ⟨q,rfl,hB3,hq3,hc3⟩
 refine ah rfl C67 (xW w3 q mb _ c.n (by omega) (by rw[yy id hn.2 hid]; exact Nat.le_add_left 1 11) hB3 (hS2.chg0 hc3) hone) ?_
 rintro v4 w4 ⟨ho4,hc4,hi4⟩
 refine za rfl (za rfl (a8 (a7 (zrf ?_))))
 rw[yy id hn.2 hid] at ho4
 have hc02:Chg [] w w2:=hc1.t0 hc2 (fun x hx=>by simp at hx; subst hx; omega)
 exact⟨⟨v4,rfl,ho4⟩,hT2.chg0 (hc3.tr hc4),hc02.tr (hc3.tr hc4)⟩
end
end Go.Proofs.YtpbfapbajmdlkaaGreat

end
section
namespace Go.Proofs.YtpbfapbajmdlkaaGreat
open Go Go.Sac
set_option maxRecDepth 100000
set_option maxHeartbeats 4000000
theorem sT{a b:UInt16}(h:gC a=gC b):a=b:=by
 unfold gC at h
 injection h with _ h
 injection h with h1 h
 injection h with h2 _
 rw[mJ,mJ] at h1 h2
 have q1:=congrArg UInt8.toNat h1
 have q2:=congrArg UInt8.toNat h2
 rw[UInt8.toNat_ofNat',UInt8.toNat_ofNat'] at q1 q2
 have:=a.toNat_lt
 have:=b.toNat_lt
 exact UInt16.toNat_inj.1 (by omega)
def Firsts(m:List Pr)(i:Nat):Prop:=m.length=i∧∀p∈m,∃j:Nat,j<i∧p.1=gC (UInt16.ofNat j)
theorem Firsts.put{m:List Pr}{i:Nat}(h:Firsts m i)(hs:df m)(hi:i<65536)(v:Bs):Firsts (eh m (gC (UInt16.ofNat i),v)) (i+1):=by
 have hno:dh m (gC (UInt16.ofNat i))=false:=by
  cases hh:dh m (gC (UInt16.ofNat i)) with
  | false => rfl
  | true =>
   obtain⟨p,hp,e⟩:=(hG hs).1 hh
   obtain⟨j,hj,e2⟩:=h.2 p hp
   have:=congrArg UInt16.toNat (sT (e2.symm.trans e))
   rw[UInt16.toNat_ofNat',UInt16.toNat_ofNat'] at this
   omega
 refine⟨?_,fun p hp=>?_⟩
 ·rw[vd _ hs,hno,h.1]; rfl
 ·rcases jq hp with rfl | hp
  ·exact⟨i,by omega,rfl⟩
  ·obtain⟨j,hj,e⟩:=h.2 p hp
   exact⟨j,by omega,e⟩
end Go.Proofs.YtpbfapbajmdlkaaGreat

end
section
namespace Go.Proofs.YtpbfapbajmdlkaaGreat
open Go Go.Sac
set_option maxRecDepth 100000
set_option maxHeartbeats 4000000
theorem yG{V:UInt32→Bs}:∀{d:Nat} {id:UInt32} {pg:List UInt32},isT V d id pg []→d=0
 | 0, _, _, _ => rfl
 | d + 1, _, _, ⟨ks, ts, h1, _, _, h4, _, h6⟩ => by
  have h2:=qX h1
  cases ts with
  | nil => simp at h2
  | cons t ts =>
   have:=(h6 t List.mem_cons_self).2
   rw[eB] at h4
   exact absurd (List.append_eq_nil_iff.1 h4.symm).1 this
theorem pJ{V:UInt32→Bs}{d:Nat}{id:UInt32}{pg:List UInt32}{m:List Pr}(h:isT V d id pg m)(hm:m.length≤16):d≤4:=by
 cases m with
 | nil => rw [yG h]; decide
 | cons p m =>
  have h1:=vI h
  have h2:=yH h (by simp)
  refine Nat.le_of_not_lt (fun hd=>?_)
  have h3:2 ^ 6≤2 ^ (d+1):=Nat.pow_le_pow_right (by decide) (by omega)
  have h4:(2:Nat) ^ 6=64:=rfl
  omega
theorem Cc{m:List Pr}{p:Pr}{k:Bs}(hs:df m):dh (eh m p) k=(dh m k||decide (k=p.1)):=by
 rw[Bool.eq_iff_iff,Bool.or_eq_true,hG (sK p hs),hG hs,decide_eq_true_iff]
 constructor
 ·rintro⟨q,hq,e⟩
  rcases jq hq with rfl | hq
  ·exact .inr e.symm
  ·exact .inl ⟨q,hq,e⟩
 ·rintro(⟨q,hq,e⟩ | e)
  ·by_cases h:q.1=p.1
   ·exact⟨p,nN _ _,by rw[←h,e]⟩
   ·exact⟨q,putP_in hq h,e⟩
  ·exact⟨p,nN _ _,e.symm⟩
theorem Cd{m:List Pr}{k k':Bs}(hs:df m):dh (fO m k) k'=(dh m k'&&decide (k'≠k)):=by
 rw[Bool.eq_iff_iff,Bool.and_eq_true,hG (th k hs),hG hs,decide_eq_true_iff]
 constructor
 ·rintro⟨q,hq,e⟩
  have h:=List.mem_filter.1 hq
  have h2:q.1≠k:=by simpa using h.2
  exact⟨⟨q,h.1,e⟩,by rw[←e]; exact h2⟩
 ·rintro⟨⟨q,hq,e⟩,hne⟩
  exact⟨q,List.mem_filter.2 ⟨hq,by rw[e]; simpa using hne⟩,e⟩
structure Left(m:List Pr)(D:List Bool)(k i:Nat):Prop where
 len:m.length+i=k
 key:∀p∈m,∃j:Nat,j<k∧p.1=gC (UInt16.ofNat j)
 dl:D.length=k
 has:∀j,j<k→(dh m (gC (UInt16.ofNat j))=true↔D[j]?=some false)
theorem Left.more{m:List Pr}{D:List Bool}{k i:Nat}(h:Left m D k i)(hs:df m)(hi:i<k):∃j,j<k∧D[j]?=some false:=by
 have hl:=h.len
 cases m with
 | nil => simp at hl; omega
 | cons p m =>
  obtain⟨j,hj,e⟩:=h.key p List.mem_cons_self
  exact⟨j,hj,(h.has j hj).1 ((hG hs).2 ⟨p,List.mem_cons_self,e⟩)⟩
theorem Left.del{m:List Pr}{D:List Bool}{k i a:Nat}(h:Left m D k i)(hs:df m)(hk:k≤16)(ha:a<k)(hD:D[a]?=some false) :
  dh m (gC (UInt16.ofNat a))=true∧Left (fO m (gC (UInt16.ofNat a))) (D.set a true) k (i+1):=by
 have hh:=(h.has a ha).2 hD
 have hl:=Cr hs hh
 refine⟨hh,⟨by have:=h.len; omega,fun p hp=>h.key p (nB hp),by rw[List.length_set]; exact h.dl,fun j hj=>?_⟩⟩
 rw[Cd hs,Bool.and_eq_true,h.has j hj,decide_eq_true_iff,List.getElem?_set]
 have hal:a<D.length:=by rw[h.dl]; exact ha
 by_cases e:a=j
 ·subst e
  rw[if_pos rfl,if_pos hal]
  constructor
  ·rintro⟨_,q⟩; exact absurd rfl q
  ·intro q; cases q
 ·rw[if_neg e]
  constructor
  ·exact fun q=>q.1
  ·refine fun q=>⟨q,fun e2=>e ?_⟩
   have:=congrArg UInt16.toNat (sT e2)
   rw[UInt16.toNat_ofNat',UInt16.toNat_ofNat'] at this
   omega
def Alls(m:List Pr)(i:Nat):Prop:=Firsts m i∧∀j,j<i→dh m (gC (UInt16.ofNat j))=true
theorem Alls.put{m:List Pr}{i:Nat}(h:Alls m i)(hs:df m)(hi:i<65536)(v:Bs):Alls (eh m (gC (UInt16.ofNat i),v)) (i+1):=by
 refine⟨h.1.put hs hi v,fun j hj=>?_⟩
 rw[Cc hs,Bool.or_eq_true,decide_eq_true_iff]
 rcases(by omega:j<i∨j=i) with g | g
 ·exact .inl (h.2 j g)
 ·exact .inr (by rw[g])
theorem Alls.left{m:List Pr}{k:Nat}(h:Alls m k):Left m (List.replicate k false) k 0 :=
 ⟨h.1.1,h.1.2,List.length_replicate,fun j hj=>by rw[List.getElem?_replicate,if_pos hj]; exact⟨fun _=>rfl,fun _=>h.2 j hj⟩⟩
structure Bud2(c:TC)(s:TP)(i:Nat):Prop where
 k:s.k≤2+11*i
 room:398≤dN s.P c.n+11*i
theorem Bk(a t k:Nat)(hk:0<k):((a+1) % k+t) % k=(a+(t+1)) % k:=by
 rw[Nat.add_mod,Nat.mod_mod,←Nat.add_mod]; congr 1; omega
theorem Bl(a j k:Nat)(hj:j<k):∃t,t<k∧(a+t) % k=j:=by
 have hx:=Nat.mod_lt a (show 0<k by omega)
 by_cases h:a % k≤j
 ·refine⟨j-a % k,by omega,?_⟩
  rw[Nat.add_mod,Nat.mod_eq_of_lt (show j-a % k<k by omega),show a % k+(j-a % k)=j by omega,Nat.mod_eq_of_lt hj]
 ·refine⟨j+k-a % k,by omega,?_⟩
  rw[Nat.add_mod,Nat.mod_eq_of_lt (show j+k-a % k<k by omega),show a % k+(j+k-a % k)=j+k by omega,Nat.add_mod_right,Nat.mod_eq_of_lt hj]
section
variable {c:TC}{w:World}{s:TP}{root:UInt32}{d:Nat}{pg:List UInt32}{m:List Pr}{i:Nat}
theorem TR.put16(h:TR c w s root d pg m)(hm:m.length≤16)(hb:Bud2 c s i)(hi:i≤32){p:Pr}(hp:mU p) :
  Ret Tryz.prog 20 #[c.pv,.int .u32 root.toNat,str p.1,str p.2] w fun r w'=>(∃(id:UInt32) (d':Nat) (pg':List UInt32) (s':TP),r = .tuple #[.int .u32 id.toNat,.int .i64 0]∧TR c w' s' id d' pg' (eh m p)∧Bud2 c s' (i+1))∧Chg c.F w w':=by
 have hd:=pJ h.tree hm
 have k1:=hb.k
 have k2:=hb.room
 refine(put9 h hp (by omega) (by omega)).mono ?_
 rintro r w' ⟨⟨_,_,_,_,_,q⟩ | ⟨id,d',pg',made,s',q1,q2,q3,q4,q5,q6,_⟩,hc⟩
 ·omega
 ·have:=q3.count h.at_.n4.2
  exact⟨⟨id,d',pg',s',q1,q2,⟨by omega,by omega⟩⟩,hc⟩
theorem TR.del16(h:TR c w s root d pg m)(hm:m.length≤16)(hb:Bud2 c s i)(hi:i≤32){key:Bs}(hk:dh m key=true) :
  Ret Tryz.prog 24 #[c.pv,.int .u32 root.toNat,str key] w fun r w'=>(∃(id:UInt32) (d':Nat) (pg':List UInt32) (s':TP),r = .tuple #[.int .u32 id.toNat,.bool true,.int .i64 0]∧TR c w' s' id d' pg' (fO m key)∧Bud2 c s' (i+1))∧Chg c.F w w':=by
 have hd:=pJ h.tree hm
 have k1:=hb.k
 have k2:=hb.room
 refine(del9 h key (by omega) (by omega)).mono ?_
 rintro r w' ⟨⟨q,_⟩ | ⟨_,⟨_,_,_,_,_,q⟩ | ⟨id,d',pg',made,s',q1,q2,q3,q4,q5,q6,_⟩⟩,hc⟩
 ·rw[hk] at q; cases q
 ·omega
 ·have:=q3.count h.at_.n4.2
  exact⟨⟨id,d',pg',s',q1,q2,⟨by omega,by omega⟩⟩,hc⟩
end
theorem ry(w:World)(x0 x1 x2:UInt8) :
  Ret Tryz.prog 7 #[.int .u8 x0.toNat,.int .u8 x1.toNat,.int .u8 x2.toNat] w fun v w'=>v = .bool true∧Chg [] w w':=by
 obtain⟨k0,hk0,hk16⟩:∃m:Nat,(x0 % 16).toNat=m∧m<16:=⟨_,rfl,by rw[UInt8.toNat_mod]; exact Nat.mod_lt _ (by decide)⟩
 obtain⟨y,hy,hy8⟩:∃m:Nat,(x1 % 8).toNat=m∧m<8:=⟨_,rfl,by rw[UInt8.toNat_mod]; exact Nat.mod_lt _ (by decide)⟩
 obtain⟨L,hL,hL151⟩:∃m:Nat,m=x2.toNat % 151∧m<151:=⟨_,rfl,Nat.mod_lt _ (by decide)⟩
 have hLi:(x2.toNat:Int) % 151=(L:Int):=by rw[hL]; rfl
 have hx2:=x2.toNat_lt
 refine enter [6] Tryz.func7 rfl rfl (Nat.le_of_ble_eq_true rfl) ?_
 refine zSR (za rfl (a8 (a7 (ae (zSR (ah rfl C17 (zZ w) ?_))))))
 rintro _ w1 ⟨rfl,hc1⟩
 refine a6 rfl (cA rfl) (a8 (a7 (aM (rfl) ?_)))
 refine zKR (ah rfl C18 (tm _ 399 (by decide)) ?_)
 rintro _ w2 ⟨c,s2,r,rfl,hcn,hcw,hT2,hr2,hk2,hc2⟩
 refine zm rfl (zx rfl rfl rfl (zx rfl rfl rfl (zx rfl rfl rfl (za rfl (za rfl (za rfl (a8 (a7 (ae (zSR (zm rfl (a6 rfl (cA rfl) (a8 (a7 (aM (rfl) ?_)))))))))))))))
 refine zKR (zm rfl (a6 rfl (y7 (b:=16) rfl rfl (by decide)) (a6 rfl (fC rfl uU5 uU3 (by omega)) (a6 rfl (aD rfl rfl (by omega)) (za rfl ?_)))))
 refine zNR (zm rfl (a6 rfl (y7 (b:=8) rfl rfl (by decide)) (a6 rfl (fC rfl uU5 uU3 (by omega)) (a6 rfl (eW rfl rfl (by omega)) (a6 rfl (aD rfl rfl (by omega)) (za rfl ?_))))))
 refine zNR (zm rfl (a6 rfl (fC rfl uU5 uU3 (by omega)) (a6 rfl (gK rfl rfl (by omega)) ?_)))
 rw[hk0,hy,hLi]
 refine aS rfl (pO (L) (L) ((0:UInt8)) aR I5 rfl rfl rfl (by decide) rfl rfl (by decide) (by first | rfl | omega) (by first | rfl | omega) (by omega) (by omega)) ?_
 rintro _ w3 ⟨⟨p3,c3,rfl⟩,ho3,hc3,hi3⟩
 refine a6 rfl (lu aR uU5 uU9 ho3.sl rfl) ?_
 refine za rfl (zNR (za rfl (a8 (a7 (ae (zSR (za rfl (a8 (a7 (au ?_))))))))))
 have hT3:=hT2.chg0 hc3
 have hw0:Chg [] w c.w0:=by rw[hcw]; exact hc1
 refine bn [7,8,10,11,12,14] (fun q vs w'=>∃(i:Nat) (s:TP) (root:UInt32) (d:Nat) (pg:List UInt32) (m:List Pr),vs=[c.pv,.int .u32 root.toNat,.int .i64 ((k0:Int)+1),.int .i64 (1+2*(y:Int)),str (List.replicate L (0:UInt8)),.int .i64 i]∧i+q=k0+1∧TR c w' s root d pg m∧Bud2 c s i∧Alls m i) (k0+1) ?_ ?_
 ·exact⟨0,s2,r,0,_,[],rfl,by omega,hT3,⟨by omega,by omega⟩,⟨⟨rfl,by simp⟩,fun j hj=>by omega⟩⟩
 ·rintro q vs J w4 ⟨i,s4,r4,d,pg,m,rfl,hi,hT4,hB4,hA4⟩
  refine ae (zSR (zm rfl (zm rfl (a6 rfl (bz rfl rfl) ?_))))
  refine a8 (a7 ?_)
  have hml:=hA4.1.1
  have hsrt:=(gj hT4.tree).2
  refine aC rfl (fun hlt=>?_) (fun hlt=>?_)
  ·refine aA (a7 (ae (au (zSR (zm rfl (zm rfl (zm rfl ?_)))))))
   have hob1:∃z,q=z+1:=⟨q-1,by omega⟩
   obtain⟨q,rfl⟩:=hob1
   refine a6 rfl (uE (n:=i) rfl uU3 uU30 (by omega)) ?_
   refine ah rfl C19 (yD _ (UInt16.ofNat i)) ?_
   rintro _ w5 ⟨rfl,hc5⟩
   refine zm rfl (ah rfl C20 ((hT4.chg0 hc5).put16 (by omega) hB4 (by omega) (p:=(gC (UInt16.ofNat i),List.replicate L (0:UInt8))) ⟨BN _,by rw[List.length_replicate]; omega⟩) ?_)
   rintro _ w6 ⟨⟨id6,d6,pg6,s6,rfl,hT6,hB6⟩,hc6⟩
   refine zm rfl (zx rfl rfl rfl (zx rfl rfl rfl (za rfl (za rfl (zNR (zm rfl ?_))))))
   have hA6:=hA4.put hsrt (by omega) (List.replicate L (0:UInt8))
   have hd6:=pJ hT6.tree (by rw[hA6.1.1]; omega)
   refine a6 rfl (bR (bL rfl rfl) (congrArg Value.bool (decide_eq_false (fun h=>h rfl)))) ?_
   refine zm rfl (ag rfl (zm rfl (ag rfl (zm rfl (ag rfl (ah rfl C25 (uh hT6 (by omega)) ?_))))))
   rintro _ w7 ⟨rfl,hT7,hc7⟩
   refine ag rfl (a6 rfl (bL rfl rfl) (a6 rfl (aL rfl) ?_))
   refine a8 (a7 (aF rfl (fun h=>h rfl) ?_))
   refine aA (aB (a7 (al (zm rfl (a6 rfl (aD rfl rfl (by omega)) (za rfl ?_))))))
   refine a8 (a7 (Exists.intro (q) (And.intro (by omega) ?_)))
   exact⟨i+1,s6,id6,d6,pg6,_,rfl,by omega,hT7,hB6,hA6⟩
  ·refine aP (aq (aq (aE (a7 (zSR (zm rfl ?_))))))
   have hil:i=k0+1:=by omega
   subst hil
   refine aS rfl (pO (k0+1) (k0+1) (false) uU40 I4 rfl rfl rfl (by decide) rfl rfl (by decide) (by first | rfl | omega) (by first | rfl | omega) (by omega) (by omega)) ?_
   rintro _ w5 ⟨⟨pd,cd,rfl⟩,hod,hcd,hid⟩
   refine za rfl (zNR (za rfl (a8 (a7 (ae (zSR (za rfl (a8 (a7 (au ?_))))))))))
   have hT5:=hT4.chg0 hcd
   have hF4:=hT4.at_.lt
   have hk4:=hT4.now.1
   have hdF:∀x∈ar (.slice pd (k0+1) cd),c.w0.heap.size≤x∧x∉c.F:=fun x hx=>by
    have:=hid.ge x hx
    exact⟨by omega,fun hh=>by have:=hF4 x hh; omega⟩
   refine bn [7,8,10,11,15,16,17] (fun q vs w'=>∃(i a:Nat) (s:TP) (root:UInt32) (d:Nat) (pg:List UInt32) (m:List Pr) (D:List Bool),vs=[c.pv,.int .u32 root.toNat,.int .i64 ((k0:Int)+1),.int .i64 (1+2*(y:Int)),.slice pd (k0+1) cd,.int .i64 a,.int .i64 i]∧i+q=k0+1∧a<k0+1∧TR c w' s root d pg m∧Bud2 c s (k0+1+i)∧Own w' (.slice pd (k0+1) cd) D∧Left m D (k0+1) i) (k0+1) ?_ ?_
   ·exact⟨0,0,s4,r4,d,pg,m,_,rfl,by omega,by omega,hT5,hB4,hod,hA4.left⟩
   ·rintro q vs J w6 ⟨i,a,s6,r6,d6,pg6,m6,D,rfl,hi,hak,hT6,hB6,ho6,hL6⟩
    refine ae (zSR (zm rfl (zm rfl (a6 rfl (bz rfl rfl) ?_))))
    refine a8 (a7 ?_)
    have hml6:=hL6.len
    have hDl:=hL6.dl
    have hsrt6:=(gj hT6.tree).2
    refine aC rfl (fun hlt2=>?_) (fun hlt2=>?_)
    ·refine aA (a7 (ae (au (zSR (zm rfl (zm rfl (a6 rfl (aD rfl rfl (by omega)) (zm rfl (a6 rfl (gK rfl rfl (by omega)) (za rfl ?_))))))))))
     refine a8 (a7 (ae (au ?_)))
     have hob2:∃z,q=z+1:=⟨q-1,by omega⟩
     obtain⟨q,rfl⟩:=hob2
     have hob3:∃z:Nat,z=(a+(1+2*y)) % (k0+1):=⟨_,rfl⟩
     obtain⟨a1,ha1⟩:=hob3
     have ha1k:a1<k0+1:=by rw[ha1]; exact Nat.mod_lt _ (by omega)
     have hke:((a:Int)+(1+2*(y:Int))) % ((k0:Int)+1)=(a1:Int):=by rw[ha1,Int.natCast_emod]; rfl
     have hob4:=hL6.more hsrt6 (by omega)
     obtain⟨j,hj,hDj⟩:=hob4
     have hob5:=Bl a1 j (k0+1) hj
     obtain⟨t0,ht0,htj⟩:=hob5
     rw[hke]
     refine bn [7,8,10,11,15,16,17] (fun q' vs w'=>∃b:Nat,vs=[c.pv,.int .u32 r6.toNat,.int .i64 ((k0:Int)+1),.int .i64 (1+2*(y:Int)),.slice pd (k0+1) cd,.int .i64 b,.int .i64 i]∧b<k0+1∧D[(b+q') % (k0+1)]?=some false∧w'=w6) (t0) ?_ ?_
     ·exact⟨a1,rfl,ha1k,by rw[htj]; exact hDj,rfl⟩
     ·rintro q' vs2 J2 w7 ⟨b,rfl,hbk,hDb,rfl⟩
      refine ae (zSR (zm rfl (zm rfl ?_)))
      have hob6:∃z,D[b]?=some z:=⟨D[b]'(by omega),List.getElem?_eq_getElem _⟩
      obtain⟨db,hdb⟩:=hob6
      refine bg rfl (bW (b) uU40 I4 rfl (ho6.sl) rfl rfl (by first | rfl | omega) (by omega)) ?_
      rintro _ ⟨bi,oi,rfl,hei,hbi⟩
      refine a6 rfl (az uU4 rfl rfl (((ho6.sl.at hei hdb).c0 rfl))) ?_
      refine a8 (a7 (cI rfl (fun hdt=>?_) (fun hdt=>?_)))
      ·refine aA (a7 (au (al (zm rfl (a6 rfl (aD rfl rfl (by omega)) (zm rfl (a6 rfl (gK rfl rfl (by omega)) (za rfl ?_))))))))
       refine a8 (aB (a7 ?_))
       subst hdt
       obtain⟨q',rfl⟩:∃z,q'=z+1:=by
        cases q' with
        | zero =>
         rw[Nat.add_zero,Nat.mod_eq_of_lt hbk,hdb] at hDb
         cases hDb
        | succ z => exact ⟨z, rfl⟩
       have hob7:∃z:Nat,z=(b+1) % (k0+1):=⟨_,rfl⟩
       obtain⟨b1,hb1⟩:=hob7
       have hb1k:b1<k0+1:=by rw[hb1]; exact Nat.mod_lt _ (by omega)
       have hbe:((b:Int)+1) % ((k0:Int)+1)=(b1:Int):=by rw[hb1,Int.natCast_emod]; rfl
       rw[hbe]
       refine Exists.intro (q') (And.intro (by omega) ?_)
       exact⟨b1,rfl,hb1k,by rw[hb1,Bk _ _ _ (by omega)]; exact hDb,rfl⟩
      ·refine aP (aq (aq (aE (a7 (zSR (zm rfl (zm rfl ?_)))))))
       subst hdt
       have hob8:=hL6.del hsrt6 (by omega) hbk hdb
       obtain⟨hhas,hL8⟩:=hob8
       refine bg rfl (bW (b) uU40 I4 rfl (ho6.sl) rfl rfl (by first | rfl | omega) (by omega)) ?_
       rintro _ ⟨bj,oj,rfl,hej,hbj⟩
       refine aH rfl (gS (a:=true) I4 rfl (ho6) rfl (hej) rfl rfl (by omega)) ?_
       rintro w8 ⟨ho8,hc8,hs8⟩
       refine zNR (za rfl (zNR (zm rfl (zm rfl (zm rfl ?_)))))
       have hT8:=hT6.chg hc8 (fun x hx hh=>(hdF x hh).2 hx) (fun x hx=>(hdF x hx).1)
       refine a6 rfl (uE (n:=b) rfl uU3 uU30 (by omega)) ?_
       refine ah rfl C19 (yD _ (UInt16.ofNat b)) ?_
       rintro _ w9 ⟨rfl,hc9⟩
       refine ah rfl C24 ((hT8.chg0 hc9).del16 (by omega) hB6 (by omega) hhas) ?_
       rintro _ w10 ⟨⟨id10,d10,pg10,s10,rfl,hT10,hB10⟩,hc10⟩
       refine zm rfl (zx rfl rfl rfl (zx rfl rfl rfl (zx rfl rfl rfl (za rfl (za rfl (za rfl (zNR (zm rfl (zm rfl ?_)))))))))
       have ho10:=(ho8.mod0 hc9).mod hc10 (fun x hx=>(hdF x hx).2)
       have hml10:=hL8.len
       have hd10:=pJ hT10.tree (by omega)
       refine ah rfl C27 (len9 hT10 (by omega) (by omega)) ?_
       rintro _ w11 ⟨rfl,hT11,hc11⟩
       refine zm rfl (zx rfl rfl rfl (zx rfl rfl rfl (za rfl (za rfl (zNR (zm rfl (a6 rfl (bR (bL rfl rfl) (congrArg Value.bool (decide_eq_false (fun h=>h rfl)))) ?_)))))))
       refine zm rfl (ag rfl (zm rfl (ag rfl (a6 rfl (cA rfl) (a6 rfl (aL rfl) (zm rfl (ag rfl (zm rfl (ag rfl (a6 rfl (bR (bL rfl rfl) (congrArg Value.bool (decide_eq_false (fun h=>h rfl)))) ?_))))))))))
       refine a6 rfl (aL rfl) (zm rfl (ag rfl (zm rfl (ag rfl (zm rfl (ag rfl (a6 rfl (cj rfl rfl (by omega)) (ag rfl (zm rfl (ag rfl (a6 rfl (cj rfl rfl (by omega)) (ag rfl ?_))))))))))))
       refine a6 rfl (bR (bL rfl rfl) (congrArg Value.bool (decide_eq_false (fun h=>h (by omega))))) ?_
       refine a6 rfl (aL rfl) (zm rfl (ag rfl (zm rfl (ag rfl (zm rfl (ag rfl (ah rfl C25 (uh hT11 (by omega)) ?_)))))))
       rintro _ w12 ⟨rfl,hT12,hc12⟩
       refine ag rfl (a6 rfl (bL rfl rfl) (a6 rfl (aL rfl) ?_))
       refine a8 (a7 (aF rfl (fun h=>h rfl) ?_))
       refine aA (aB (a7 (al (zm rfl (a6 rfl (aD rfl rfl (by omega)) (za rfl ?_))))))
       refine a8 (a7 (Exists.intro (q) (And.intro (by omega) ?_)))
       exact⟨i+1,b,s10,id10,d10,pg10,_,_,rfl,by omega,hbk,hT12,hB10,ho10.mod0 (hc11.tr hc12),hL8⟩
    ·refine aP (aq (aq (aE (a7 (zSR (zm rfl (zm rfl ?_)))))))
     have hm0:m6=[]:=List.eq_nil_of_length_eq_zero (by omega)
     subst hm0
     have hd0:=yG hT6.tree
     subst hd0
     refine ah rfl C28 (zG hT6) ?_
     rintro _ w7 ⟨⟨ov,rfl,ho7⟩,hT7,hc7⟩
     refine zm rfl (zx rfl rfl rfl (zx rfl rfl rfl (za rfl (za rfl (zNR (zm rfl ?_))))))
     have hob9:=ho7.form (n:=1) rfl
     obtain⟨po,co,rfl⟩:=hob9
     refine a6 rfl (bR (cX rfl rfl) (congrArg Value.bool (decide_eq_true (rfl)))) ?_
     refine zm rfl (ag rfl (zm rfl (ag rfl (a6 rfl (ax rfl bw) (ag rfl ?_)))))
     refine a6 rfl (bR (cX rfl rfl) (congrArg Value.bool (decide_eq_true (rfl)))) ?_
     refine a6 rfl (aN rfl) (zm rfl (ag rfl (zm rfl (ag rfl (bg rfl (bW (0) bw I25 rfl (ho7.sl) rfl rfl (by first | rfl | omega) (Nat.zero_lt_one)) ?_)))))
     rintro _ ⟨bi,oi,rfl,hei,hbi⟩
     refine ag rfl (a6 rfl (az bK rfl rfl (((ho7.sl.at hei rfl).c0 rfl))) ?_)
     refine ag rfl (zm rfl (ag rfl (a6 rfl (uB rfl rfl) (a6 rfl (aN rfl) (za rfl ?_)))))
     refine a8 (a7 (zrf ?_))
     exact⟨congrArg Value.bool (decide_eq_true rfl),hw0.tr hT7.now⟩
end Go.Proofs.YtpbfapbajmdlkaaGreat

end
