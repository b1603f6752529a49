/- A page of which a byte was changed on the disk, or another page's first sector stands in its place, is told as what stands there opens to, or that it isn't sealed so; other pages are as they were: by the document's seals. It holds for every input; there are no conditions. -/
import Derived.Test.YtenhmbhflgnhlaaGreatSac1
import Derived.ProofKit
import Derived.OpenShut
namespace Go.Sac
open Go
abbrev Q4 := { l : List Int // l.length = 4 }
instance : Flat Q4 := ⟨4, fun s => encL s.1, fun s => by rw [encL_length, s.2]; rfl, fun s => encL_cell s.1⟩
def q40 : Q4 := ⟨[0, 0, 0, 0], rfl⟩
def qA (r : Nat) : Nat := r % 4
def qB (r : Nat) : Nat := if r % 8 < 4 then r % 4 + 4 else 4 + (r % 4 + 1) % 4
def qC (r : Nat) : Nat := if r % 8 < 4 then r % 4 + 8 else 8 + (r % 4 + 2) % 4
def qD (r : Nat) : Nat := if r % 8 < 4 then r % 4 + 12 else 12 + (r % 4 + 3) % 4
def qRow (r : Nat) : Q4 := ⟨[(qA r : Int), (qB r : Int), (qC r : Int), (qD r : Int)], rfl⟩
theorem q_lt (r : Nat) : qA r < 16 ∧ qB r < 16 ∧ qC r < 16 ∧ qD r < 16 := by
  unfold qA qB qC qD
  split <;> omega
theorem qRow_mod (r : Nat) : qRow (r % 8) = qRow r := by
  have h1 : r % 8 % 4 = r % 4 := by omega
  have h2 : r % 8 % 8 = r % 8 := by omega
  unfold qRow qA qB qC qD
  rw [h1, h2]
def qRows : List Q4 := (List.range 8).map qRow
theorem qRows_get (r : Nat) : qRows[r % 8]? = some (qRow r) := by
  unfold qRows
  rw [List.getElem?_map, List.getElem?_range (by omega)]
  show some (qRow (r % 8)) = _
  rw [qRow_mod]
def qStep (w : List UInt32) (r : Nat) : List UInt32 := quarterAt w (qA r) (qB r) (qC r) (qD r)
def quarN (w : List UInt32) (n : Nat) : List UInt32 := (List.range n).foldl qStep w
theorem quarN_zero (w : List UInt32) : quarN w 0 = w := rfl
theorem quarN_succ (w : List UInt32) (n : Nat) : quarN w (n + 1) = qStep (quarN w n) n := by
  unfold quarN; rw [List.range_succ, List.foldl_append]; rfl
theorem quarN_length (w : List UInt32) (n : Nat) : (quarN w n).length = w.length := by
  induction n with
  | zero => rfl
  | succ n ih => rw [quarN_succ, qStep, quarterAt_length, ih]
theorem qStep_col (w : List UInt32) (k i : Nat) (h : i < 4) : qStep w (8 * k + i) = quarterAt w i (i + 4) (i + 8) (i + 12) := by
  unfold qStep qA qB qC qD
  rw [if_pos (by omega), if_pos (by omega), if_pos (by omega), show (8 * k + i) % 4 = i by omega]
theorem qStep_diag (w : List UInt32) (k i : Nat) (h : i < 4) : qStep w (8 * k + 4 + i) = quarterAt w i (4 + (i + 1) % 4) (8 + (i + 2) % 4) (12 + (i + 3) % 4) := by
  unfold qStep qA qB qC qD
  rw [if_neg (by omega), if_neg (by omega), if_neg (by omega), show (8 * k + 4 + i) % 4 = i by omega]
theorem quarN_cols (w : List UInt32) (k : Nat) : ∀ i, i ≤ 4 → quarN w (8 * k + i) = colsL (quarN w (8 * k)) i
  | 0, _ => by rw [colsL_zero]; rfl
  | i + 1, h => by rw [← Nat.add_assoc, quarN_succ, quarN_cols w k i (by omega), qStep_col _ _ _ (by omega), ← colsL_succ]
theorem quarN_diags (w : List UInt32) (k : Nat) : ∀ i, i ≤ 4 → quarN w (8 * k + 4 + i) = diagsL (colsL (quarN w (8 * k)) 4) i
  | 0, _ => by rw [diagsL_zero]; exact quarN_cols w k 4 (by omega)
  | i + 1, h => by rw [← Nat.add_assoc, quarN_succ, quarN_diags w k i (by omega), qStep_diag _ _ _ (by omega), ← diagsL_succ]
theorem quarN_rounds (w : List UInt32) (k : Nat) : quarN w (8 * k) = roundsL w k := by
  induction k with
  | zero => rw [roundsL_zero]; rfl
  | succ k ih => rw [roundsL_succ, roundL_def, ← ih, show 8 * (k + 1) = 8 * k + 4 + 4 by omega, quarN_diags w k 4 (by omega)]
def sumW (was w : List UInt32) (n : Nat) : List UInt32 := (List.range n).map fun i => w.getD i 0 + was.getD i 0
theorem outL_sum (was w : List UInt32) (n : Nat) : outL was w n = (sumW was w n).flatMap putLittleL := by
  induction n with
  | zero => rw [outL_zero]; rfl
  | succ n ih =>
    rw [outL_succ, ih]
    unfold sumW
    rw [List.range_succ, List.map_append, List.flatMap_append]
    simp
theorem sumW_get (was w : List UInt32) (n j : Nat) (h : j < n) : (sumW was w n).getD j 0 = w.getD j 0 + was.getD j 0 := by
  unfold sumW
  rw [List.getD_eq_getElem?_getD, List.getElem?_map, List.getElem?_range h]; rfl
theorem Arr.elt {α : Type} [Flat α] {w : World} {b i : Nat} {l : List α} {a : α} (h : Arr w b l) (hi : l[i]? = some a) : At w b (i * Flat.sz α) (Flat.enc a) := by
  have hlt := (List.getElem?_eq_some_iff.1 hi).1
  have hs := h.slc (i := i) (n := 1) (c := 1) (off := i * Flat.sz α) rfl (by omega) (Nat.le_refl _)
  have h1 : (l.drop i).take 1 = [a] := by
    rw [List.take_one, List.head?_drop, hi]; rfl
  rw [h1] at hs
  obtain ⟨p, cap, heq, _, hp⟩ := hs
  simp only [Value.slice.injEq] at heq
  obtain ⟨rfl, _, _⟩ := heq
  have := hp.2
  rw [show encL [a] = Flat.enc a by simp [encL]] at this
  exact this
theorem x_arr_ft (k m : Nat) {P : Program} {E : Env} {w : World} {ty t e : TypeId} {x lo hi : Operand} {n b : Nat} {i : TypeInfo} {kd kd' : IntKind} {j j' : Int} (ht : P.underlying t = some (.array n e)) (hi' : P.info? e = some i) (hx : ev E x = .pointer (some ⟨b, 0, none⟩)) (hl : ev E lo = .int kd j) (hh : ev E hi = .int kd' j') (hj : j = k) (hj' : j' = m) (hk : k < n) (hkm : k ≤ m ∧ m ≤ n) :
    exec P E (.slice t x (some lo) (some hi) none) ty w = .ok (.value (.slice (some ⟨b, k * i.size, none⟩) (m - k) (n - k))) w := by
  subst hj hj'
  rw [e_slice, hx]
  refine run_valN ?_
  unfold Instr.sliceAt Instr.sliceBounds
  rw [run_bind (run_underlying ht w)]
  simp only [Option.map_some, Option.map_none, pure_bind, bind_assoc, hl, hh]
  rw [run_bind (show (Instr.sureAddr (.pointer (some ⟨b, 0, none⟩))).run P w = .ok ⟨b, 0, none⟩ w from rfl)]
  rw [run_bind (run_sliceBound (by omega))]
  rw [run_bind (run_sliceBound (by omega))]
  rw [run_bind (run_sizeOf hi' w)]
  simp only [addr_add, Int.toNat_natCast]
  rw [if_neg (by omega), Nat.zero_add]; rfl
end Go.Sac
namespace Go.Sac
open Go
def upU (i : Nat) : PgF := fun j => decide (j.toNat < i)
theorem upU_add (i : Nat) (h : i < 4294967296) : addPg (upU i) (UInt32.ofNat i) = upU (i + 1) := by
  funext j
  unfold addPg upU
  by_cases hj : j = UInt32.ofNat i
  · subst hj
    rw [UInt32.toNat_ofNat', Nat.mod_eq_of_lt (by omega), decide_eq_true rfl, Bool.true_or, decide_eq_true (by omega)]
  · have h2 : j.toNat ≠ i := fun hh => hj (by rw [← hh, UInt32.ofNat_toNat])
    rw [decide_eq_false hj, Bool.false_or]
    by_cases h3 : j.toNat < i
    · rw [decide_eq_true h3, decide_eq_true (by omega)]
    · rw [decide_eq_false h3, decide_eq_false (by omega)]
theorem upU_zero : upU 0 = noPg := by
  funext j
  unfold upU noPg
  exact decide_eq_false (by omega)
theorem upU_of (i j : Nat) (h : j < 4294967296) : upU i (UInt32.ofNat j) = decide (j < i) := by
  unfold upU
  rw [UInt32.toNat_ofNat', Nat.mod_eq_of_lt (by omega)]
theorem ofNat_inj {i j : Nat} (hi : i < 4294967296) (hj : j < 4294967296) (h : UInt32.ofNat i = UInt32.ofNat j) : i = j := by
  have := congrArg UInt32.toNat h
  rw [UInt32.toNat_ofNat', UInt32.toNat_ofNat', Nat.mod_eq_of_lt (by omega), Nat.mod_eq_of_lt (by omega)] at this
  exact this
theorem roomN_none {P : Pg} : ∀ (n : Nat), (∀ j, j < n → P.free (UInt32.ofNat j) = false) → roomN P n = 0
  | 0, _ => rfl
  | n + 1, h => by rw [roomN_succ, roomN_none n (fun j hj => h j (by omega)), h n (by omega)]; rfl
theorem roomN_one {P : Pg} {i : Nat} : ∀ (n : Nat), i < n → (∀ j, j < n → P.free (UInt32.ofNat j) = decide (j = i)) → roomN P n = 1
  | 0, h, _ => by omega
  | n + 1, hi, h => by
    rw [roomN_succ, h n (by omega)]
    by_cases hn : n = i
    · rw [roomN_none n (fun j hj => by rw [h j (by omega)]; exact decide_eq_false (by omega)), decide_eq_true hn]; rfl
    · rw [roomN_one n (by omega) (fun j hj => h j (by omega)), decide_eq_false hn]; rfl
theorem delPg_of (f : PgF) (i j : UInt32) : delPg f i j = (!decide (j = i) && f j) := rfl
end Go.Sac
namespace Go.Sac
open Go
theorem write_put {s : DSt} {i : Int} {l : List UInt8} (ho : s.offAt = 0) (hl : l.length = 64) (h0 : 0 ≤ i) (h1 : i < s.kept.length) : (s.write i l).2 = 0 ∧ Put s (s.write i l).1 i l 1 := by
  have hoff : ¬ s.step.off = true := by
    unfold DSt.off
    have : s.step.offAt = 0 := ho
    rw [this]; simp
  have his : s.is i = true := DSt.is_iff.2 ⟨h0, h1⟩
  have hw : s.write i l = ({ s.step with pend := msetL i (DSt.putS (s.now i) l) s.pend }, 0) := by
    unfold DSt.write
    rw [if_neg hoff, if_neg (by rw [his, hl]; decide)]
  rw [hw]
  refine ⟨rfl, rfl, rfl, fun j => ?_⟩
  show mget j (msetL i (DSt.putS (s.now i) l) s.pend) = _
  rw [mget_msetK]
  by_cases hj : j = i
  · subst hj
    rw [if_pos rfl, if_pos (by omega)]
    congr 1
    rw [putS_any _ sec0 _ hl]
    unfold chS
    rw [show (j - j).toNat = 0 by omega, Nat.mul_zero, List.drop_zero, List.take_of_length_le (by omega)]
  · rw [if_neg hj, if_neg (by omega)]
def Near (q : Nat) (a b : List UInt8) : Prop := a.length = b.length ∧ a.take (64 * q) = b.take (64 * q) ∧ a.drop (64 * q + 64) = b.drop (64 * q + 64)
theorem Near.sec {q j : Nat} {a b : List UInt8} (h : Near q a b) (hj : j ≠ q) : (a.drop (64 * j)).take 64 = (b.drop (64 * j)).take 64 := by
  obtain ⟨h1, h2, h3⟩ := h
  rcases Nat.lt_or_gt_of_ne hj with hj | hj
  · have e : ∀ l : List UInt8, (l.drop (64 * j)).take 64 = ((l.take (64 * q)).drop (64 * j)).take 64 := fun l => by
      rw [List.drop_take, List.take_take, Nat.min_eq_left (by omega)]
    rw [e a, e b, h2]
  · have e : ∀ l : List UInt8, l.drop (64 * j) = (l.drop (64 * q + 64)).drop (64 * j - (64 * q + 64)) := fun l => by
      rw [List.drop_drop]; congr 1; omega
    rw [e a, e b, h3]
theorem Near.set {q k : Nat} (a : List UInt8) (x : UInt8) (hk : k / 64 = q) : Near q (a.set k x) a := by
  refine ⟨by simp, ?_, ?_⟩
  · exact List.take_set_of_le (by omega)
  · exact List.drop_set_of_lt (by omega)
theorem Near.head {a o : List UInt8} (ho : o.length = 64) (ha : 64 ≤ a.length) : Near 0 (o ++ a.drop 64) a := by
  refine ⟨by rw [List.length_append, List.length_drop]; omega, by simp, ?_⟩
  rw [List.drop_left' (by omega)]
theorem reads_sec (s : DSt) (i : Int) (n t : Nat) (h : t < n) : ((s.reads i n).drop (64 * t)).take 64 = (s.now (i + t)).1 := by
  have h1 := reads_add s i t (n - t)
  rw [show t + (n - t) = n by omega] at h1
  have h2 := reads_add s (i + t) 1 (n - t - 1)
  rw [show 1 + (n - t - 1) = n - t by omega] at h2
  have h3 : s.reads (i + t) 1 = (s.now (i + t)).1 := by
    rw [DSt.reads_succ, DSt.reads_zero, List.nil_append]; simp
  rw [h1, List.drop_left' (DSt.reads_length _ _ _), h2, h3, List.take_left' (s.now (i + t)).2]
theorem turned_reads {s : DSt} {i : Int} {q n : Nat} {was now : List UInt8} (ho : s.offAt = 0) (hr : s.reads i n = was) (hl : now.length = 64 * n) (hq : q < n) (h0 : 0 ≤ i) (h1 : i + n ≤ s.kept.length) (hN : Near q now was) :
    (s.write (i + q) ((now.drop (64 * q)).take 64)).2 = 0 ∧ (s.write (i + q) ((now.drop (64 * q)).take 64)).1.flush.2 = 0 ∧ (s.write (i + q) ((now.drop (64 * q)).take 64)).1.flush.1.reads i n = now ∧
    (∀ (j : Int) (m : Nat), 0 ≤ j → j + m ≤ s.kept.length → (j + m ≤ i ∨ i + n ≤ j) → (s.write (i + q) ((now.drop (64 * q)).take 64)).1.flush.1.reads j m = s.reads j m) ∧
    (s.write (i + q) ((now.drop (64 * q)).take 64)).1.flush.1.kept.length = s.kept.length ∧ (s.write (i + q) ((now.drop (64 * q)).take 64)).1.flush.1.offAt = 0 := by
  have hcl : ((now.drop (64 * q)).take 64).length = 64 := by rw [List.length_take, List.length_drop]; omega
  obtain ⟨w0, hp⟩ := write_put (i := i + q) ho hcl (by omega) (by omega)
  have hf := flush_ok (s := (s.write (i + q) ((now.drop (64 * q)).take 64)).1) (by rw [hp.offAt]; exact ho)
  have hk := hp.kept
  have hc0 : chS ((now.drop (64 * q)).take 64) 0 = chS now q := by
    unfold chS
    rw [Nat.mul_zero, List.drop_zero, List.take_take, Nat.min_self]
  refine ⟨w0, hf, ?_, fun j m hj0 hj1 hd => ?_, by rw [DSt.flush_len, hk], by rw [flush_offAt, hp.offAt]; exact ho⟩
  · rw [flush_reads hf h0 (by rw [hk]; exact h1), reads_is (l := now) (by omega) (fun t ht => ?_), ← hl, List.take_length]
    rw [hp.now]
    by_cases htq : t = q
    · subst htq
      rw [if_pos (by omega), show (i + (t : Int) - (i + (t : Int))).toNat = 0 by omega, hc0, chS_val _ _ n hl hq]
    · rw [if_neg (by omega), hN.sec htq, ← hr]
      have hw := reads_sec s i n t ht
      exact hw.symm
  · rw [flush_reads hf hj0 (by rw [hk]; exact hj1)]
    exact reads_congr fun t ht => by rw [hp.now, if_neg (by omega)]
theorem gen_head {x : List UInt8} {g : UInt64} (hx : x.length = 8) : UInt64.ofNat (ofBe x) = g ↔ x = be 8 g.toNat := by
  constructor
  · intro h
    have hlt := ofBe_lt x
    rw [hx] at hlt
    have h1 : ofBe x = g.toNat := by
      rw [← h, UInt64.toNat_ofNat']
      exact (Nat.mod_eq_of_lt (by show ofBe x < 2 ^ 64; exact hlt)).symm
    have h2 := be_ofBe x
    rw [hx, h1] at h2
    exact h2.symm
  · intro h
    rw [h, ofNat_be8]
end Go.Sac
namespace Go.Sac
open Go Go.ChangeShapes
theorem trodAll_stays {H : Type} {enc : TypeId × Value → H} {P : Program} (hl : laidOutB P = true) {W W' : World} (hc : Chg [] W W') :
    ∀ (ts : List TypeId) (vs : List Value) (ds : List (DataW H)) (ps : List MemPlace), ts.all (fun t => P.readableRec t && decide (t < P.types.size)) = true →
      DataW.TrodAll enc P W 0 (fun _ => true) true ts vs ds ps → (∀ p ∈ ps, p.block < W.heap.size) → DataW.TrodAll enc P W' 0 (fun b => decide (b < W.heap.size)) true ts vs ds ps := by
  intro ts
  induction ts with
  | nil => intro vs ds ps _ h _; cases vs <;> cases ds <;> first | exact h | exact h.elim
  | cons t ts ih =>
    intro vs ds ps hr h hlt
    obtain ⟨v, vs', d, ds', p, q, rfl, rfl, rfl, h1, h2⟩ := trodAll_cons h
    simp only [List.all_cons, Bool.and_eq_true, decide_eq_true_eq] at hr
    have hp : ∀ x ∈ p, x.block < W.heap.size := fun x hx => hlt x (by simp [hx])
    refine ⟨p, q, WideElems.Trod_stays hl hr.1.1 hr.1.2 h1 (fun x hx => ?_) (fun x hx => by simpa using hp x hx), ih _ _ _ (by simpa using hr.2) h2 (fun x hx => hlt x (by simp [hx])), rfl⟩
    have hb := hp x hx
    cases x with
    | cell b o => exact World.cell?_of_block (w := W) (hc.2.1 b hb (by simp))
    | map b => exact hc.2.1 b hb (by simp)
theorem Chg.keptBut {W W' : World} (hc : Chg [] W W') (may : MemPlace → Prop) : W.keptBut W' may := by
  refine ⟨hc.2.2.1, hc.2.2.2, fun i hi => ?_⟩
  have h := hc.2.1 i hi (by simp)
  rw [h]
  split
  · rename_i h1 h2
    rw [h1] at h2
    simp only [Option.some.injEq, Obj.cells.injEq] at h2
    obtain ⟨rfl, rfl, rfl⟩ := h2
    exact ⟨rfl, rfl, rfl, fun _ _ => rfl⟩
  · rename_i h1 h2
    rw [h1] at h2
    simp only [Option.some.injEq, Obj.map.injEq] at h2
    exact .inr ⟨h2.1.symm, h2.2.symm⟩
  · rfl
theorem law_calls {H : Type} {enc : TypeId × Value → H} {P : Program} {f : FuncId} {fn : Func} {s : ChangeSpec} {apart : Bool} {W : World} {args : Array Value} {ds gs : List (DataW H)} {before : List MemPlace} {bt : TypeId}
    (hl : laidOutB P = true) (hr : fn.params.toList.all (fun t => P.readableRec t && decide (t < P.types.size)) = true) (hrt : fn.resultTypes = #[bt]) (hbt : P.underlying bt = some .bool) (hv : s.vars = [])
    (hs : s.fn H (ds ++ gs) = { results := [.lit (.bool true)], args := ds }) (hW : DataW.Whole enc P fn.params.toList s.vars apart W args.toList ds gs before)
    (hc : Ret P f args W fun v W' => v = .bool true ∧ Chg [] W W') :
    Calls P f args W fun e W' => ∃ v, e = .returned v ∧ s.post enc P fn apart true false false W args v W' := by
  refine Calls.mono hc ?_
  rintro e W' ⟨v, rfl, rfl, hch⟩
  have hlt := hW.lt
  obtain ⟨p, q, hA, hV, rfl, hz, hn⟩ := id hW
  rw [hv] at hV
  obtain ⟨rfl, rfl⟩ := trodVars_none hV
  have hA' := trodAll_stays hl hch _ _ _ _ hr hA (fun x hx => hlt x (by simp [hx]))
  refine ⟨_, rfl, ds, [], p ++ [], [], p, [], hW, ?_, ?_, ?_, hch.keptBut _, fun h => by cases h⟩
  · rw [hs, hrt]
    refine ⟨[], [], ⟨1, ?_⟩, rfl, rfl⟩
    simp [Value.cells, DataW.trod, hbt]
  · rw [hs]; exact hA'
  · rw [hs, hv]; rfl
def RdF (P : Program) (t : TypeId) (α : Type) [Flat α] (ok : World → α → Prop) : Prop :=
  ∀ {H : Type} {enc : TypeId × Value → H} {w : World} {base : Nat} {sp : Nat → Bool} {held : Bool} {fuel : Nat} {cs : List Value} {x : DataW H × List MemPlace},
    DataW.trod enc P w base sp held fuel t cs = some x → ∃ a : α, cs = Flat.enc a ∧ ok w a
def okI (_ : World) (n : Int) : Prop := -9223372036854775808 ≤ n ∧ n < 9223372036854775808
def okT {α : Type} (_ : World) (_ : α) : Prop := True
theorem rd_u8 {P : Program} {t : TypeId} (ht : P.underlying t = some (.int .u8)) : RdF P t UInt8 okT := by
  intro H enc w base sp held fuel cs x h
  obtain ⟨n, rfl, _, hw⟩ := DataW.trod_int ht h
  have hw : 0 ≤ n ∧ n ≤ 255 := by
    simp only [Lit.wf, Bool.and_eq_true, decide_eq_true_eq] at hw
    exact hw
  refine ⟨UInt8.ofNat n.toNat, ?_, trivial⟩
  show [Value.int .u8 n] = [.int .u8 ((UInt8.ofNat n.toNat).toNat : Int)]
  rw [UInt8.toNat_ofNat']
  congr 2
  omega
theorem rd_u32 {P : Program} {t : TypeId} (ht : P.underlying t = some (.int .u32)) : RdF P t UInt32 okT := by
  intro H enc w base sp held fuel cs x h
  obtain ⟨n, rfl, _, hw⟩ := DataW.trod_int ht h
  have hw : 0 ≤ n ∧ n ≤ 4294967295 := by
    simp only [Lit.wf, Bool.and_eq_true, decide_eq_true_eq] at hw
    exact hw
  refine ⟨UInt32.ofNat n.toNat, ?_, trivial⟩
  show [Value.int .u32 n] = [.int .u32 ((UInt32.ofNat n.toNat).toNat : Int)]
  rw [UInt32.toNat_ofNat']
  congr 2
  omega
theorem rd_i64 {P : Program} {t : TypeId} (ht : P.underlying t = some (.int .i64)) : RdF P t Int okI := by
  intro H enc w base sp held fuel cs x h
  obtain ⟨n, rfl, _, hw⟩ := DataW.trod_int ht h
  have hw : -9223372036854775808 ≤ n ∧ n ≤ 9223372036854775807 := by
    simp only [Lit.wf, Bool.and_eq_true, decide_eq_true_eq] at hw
    exact hw
  exact ⟨n, rfl, by unfold okI; omega⟩
theorem rd_bool {P : Program} {t : TypeId} (ht : P.underlying t = some .bool) : RdF P t Bool okT := by
  intro H enc w base sp held fuel cs x h
  obtain ⟨b, rfl, _⟩ := DataW.trod_bool ht h
  exact ⟨b, rfl, trivial⟩
theorem list_of_fun {α : Type} (p : Nat → α → Prop) : ∀ n : Nat, (∀ i, i < n → ∃ a, p i a) → ∃ l : List α, l.length = n ∧ ∀ i a, l[i]? = some a → p i a := by
  intro n
  induction n with
  | zero => intro _; exact ⟨[], rfl, by simp⟩
  | succ n ih =>
    intro h
    obtain ⟨l, hl, hp⟩ := ih (fun i hi => h i (by omega))
    obtain ⟨a, ha⟩ := h n (by omega)
    refine ⟨l ++ [a], by simp [hl], fun i b hb => ?_⟩
    by_cases hi : i < n
    · rw [List.getElem?_append_left (by omega)] at hb; exact hp i b hb
    · rw [List.getElem?_append_right (by omega)] at hb
      have : i - l.length = 0 := by
        cases hk : i - l.length with
        | zero => rfl
        | succ k => rw [hk] at hb; simp at hb
      rw [this] at hb
      simp at hb
      subst hb
      obtain rfl : i = n := by omega
      exact ha
theorem open_sl {α : Type} [Flat α] {ok : World → α → Prop} {P : Program} {H : Type} {enc : TypeId × Value → H} {W : World} {base b0 : Nat} {r : Reach} {t te : TypeId} {v : Value} {d : DataW H} {ps : List MemPlace} {sp : Nat → Bool} {held : Bool}
    (R : RdF P te α ok) (ht : P.underlying t = some (.slice te)) (hc : P.cellsOf te = Flat.sz α) (hval : Value.okWide P W r b0 t v) (hd : DataW.Trod enc P W base sp held t v d ps) :
    ∃ l : List α, Sl W v l ∧ ∀ a ∈ l, ok W a := by
  obtain ⟨p0, len0, cap0, rfl⟩ := WideShapes.okWide_slice ht hval
  obtain ⟨fuel, hf⟩ := hd
  rcases DataW.trod_slice ht hf with ⟨hcs, _⟩ | ⟨a, len, cap, elems, rest, n, _, hcs, _, hb, hlc, _, hlen, hel, _, _⟩
  · simp only [Value.cells, List.cons.injEq, Value.slice.injEq, and_true] at hcs
    obtain ⟨rfl, rfl, rfl⟩ := hcs
    exact ⟨[], Sl.nil W 0, by simp⟩
  · simp only [Value.cells, List.cons.injEq, Value.slice.injEq, and_true] at hcs
    obtain ⟨rfl, rfl, rfl⟩ := hcs
    have hok : W.has P r b0 a te cap0 := by
      unfold Value.okWide at hval
      rw [ht] at hval
      simp only [Cell.okWide, Cell.ok, ht] at hval
      exact hval.2.2
    obtain ⟨_, hspot, row, cells, hshape, _⟩ := hok
    obtain ⟨ab, ao, asp⟩ := a
    simp only at hspot hshape
    subst hspot
    obtain ⟨c, fr, hblk⟩ : ∃ c fr, W.heap[ab]? = some (.cells c row fr) := by
      unfold World.shape? at hshape
      split at hshape
      · rename_i c elem fr hb'
        simp only [Option.some.injEq, Prod.mk.injEq] at hshape
        exact ⟨c, fr, by rw [hb', hshape.1]⟩
      · cases hshape
    obtain ⟨l, hl, hp⟩ := list_of_fun (α := α) (fun i a => W.cells? base ((⟨ab, ao, none⟩ : Addr).add (i * P.cellsOf te)) (P.cellsOf te) = some (Flat.enc a) ∧ ok W a) len0 (fun i hi => by
      have h := hel i hi
      obtain ⟨y, hy⟩ : ∃ y, elems[i]? = some y := ⟨elems[i], List.getElem?_eq_getElem (by omega)⟩
      rw [hy] at h
      obtain ⟨cs, h1, h2⟩ := Option.bind_eq_some_iff.1 h
      obtain ⟨a, rfl, ha⟩ := R h2
      exact ⟨a, h1, ha⟩)
    refine ⟨l, ⟨some ⟨ab, ao, none⟩, cap0, by rw [hl], by omega, ⟨rfl, c, row, fr, hblk, ?_⟩⟩, fun a ha => ?_⟩
    · intro j x hx
      have hpos : 0 < Flat.sz α := by
        rcases Nat.eq_zero_or_pos (Flat.sz α) with h0 | h0
        · have hj := (List.getElem?_eq_some_iff.1 hx).1
          rw [encL_length, h0] at hj; omega
        · exact h0
      have hj := (List.getElem?_eq_some_iff.1 hx).1
      rw [encL_length] at hj
      have hjd : j = j / Flat.sz α * Flat.sz α + j % Flat.sz α := by rw [Nat.mul_comm]; exact (Nat.div_add_mod j _).symm
      have hi : j / Flat.sz α < l.length := Nat.div_lt_of_lt_mul (by rw [Nat.mul_comm]; exact hj)
      have hm : j % Flat.sz α < Flat.sz α := Nat.mod_lt _ hpos
      have hli : l[j / Flat.sz α]? = some l[j / Flat.sz α] := List.getElem?_eq_getElem hi
      rw [hjd, encL_at l hli _ hm] at hx
      obtain ⟨h1, _⟩ := hp _ _ hli
      rw [hc] at h1
      obtain ⟨_, _, hcell⟩ := World.cells?_some h1
      have := (hcell (j % Flat.sz α) hm).trans hx
      rw [addr_add, addr_add] at this
      simp only [World.cell?, hblk] at this
      rw [hjd]
      simpa [Nat.add_assoc] using this
    · obtain ⟨i, hi, rfl⟩ := List.mem_iff_getElem.1 ha
      exact (hp i _ (List.getElem?_eq_getElem hi)).2
end Go.Sac
namespace Go.Sac
open Go Go.ChangeShapes
abbrev SliceV := { v : Value // ∃ p n c, v = .slice p n c }
instance : Flat SliceV := ⟨1, fun v => [v.1], fun _ => rfl, fun v x h => by
  simp only [List.mem_singleton] at h; subst h
  obtain ⟨v, p, n, c, rfl⟩ := v; rfl⟩
theorem rd_sl {α : Type} [Flat α] {ok : World → α → Prop} {P : Program} {t te : TypeId} (R : RdF P te α ok) (ht : P.underlying t = some (.slice te)) (hc : P.cellsOf te = Flat.sz α) (hpos : 0 < Flat.sz α) :
    RdF P t SliceV (fun w v => ∃ l : List α, SlE w v.1 l ∧ ∀ a ∈ l, ok w a) := by
  intro H enc W base sp held fuel cs x h
  rcases DataW.trod_slice ht h with ⟨hcs, _⟩ | ⟨a, len, cap, elems, rest, n, _, hcs, _, hb, hlc, _, hlen, hel, _, _⟩
  · exact ⟨⟨.slice none 0 0, _, _, _, rfl⟩, hcs, [], .inl (Sl.nil W 0), by simp⟩
  · refine ⟨⟨.slice (some a) len cap, _, _, _, rfl⟩, hcs, ?_⟩
    obtain ⟨l, hl, hp⟩ := list_of_fun (α := α) (fun i x => W.cells? base (a.add (i * P.cellsOf te)) (P.cellsOf te) = some (Flat.enc x) ∧ ok W x) len (fun i hi => by
      have h := hel i hi
      obtain ⟨y, hy⟩ : ∃ y, elems[i]? = some y := ⟨elems[i], List.getElem?_eq_getElem (by omega)⟩
      rw [hy] at h
      obtain ⟨cs, h1, h2⟩ := Option.bind_eq_some_iff.1 h
      obtain ⟨a, rfl, ha⟩ := R h2
      exact ⟨a, h1, ha⟩)
    refine ⟨l, ?_, fun x hx => ?_⟩
    · by_cases h0 : len = 0
      · subst h0
        exact .inr ⟨List.eq_nil_of_length_eq_zero hl, _, _, rfl⟩
      · left
        obtain ⟨ab, ao, asp⟩ := a
        have hl0 : l[0]? = some l[0] := List.getElem?_eq_getElem (by omega)
        obtain ⟨h1, _⟩ := hp 0 _ hl0
        obtain ⟨_, hle, hcell⟩ := World.cells?_some h1
        have hc0 := hcell 0 (by rw [hc]; exact hpos)
        have hex : ∃ x, (Flat.enc l[0])[0]? = some x := ⟨(Flat.enc l[0])[0]'(by rw [Flat.len]; exact hpos), List.getElem?_eq_getElem _⟩
        obtain ⟨x0, hx0⟩ := hex
        rw [hx0] at hc0
        have hz : ((⟨ab, ao, asp⟩ : Addr).add (0 * P.cellsOf te)).add 0 = ⟨ab, ao, asp⟩ := by simp [Addr.add]
        rw [hz] at hc0
        have hsp : asp = none := by
          cases asp with
          | none => rfl
          | some s =>
            unfold World.cell? at hc0
            simp only at hc0
            split at hc0
            · simp at hc0
            · cases hc0
        subst hsp
        obtain ⟨c, row, fr, hblk⟩ : ∃ c row fr, W.heap[ab]? = some (.cells c row fr) := by
          unfold World.cell? at hc0
          simp only at hc0
          split at hc0
          · rename_i c e fr hb'; exact ⟨c, e, fr, hb'⟩
          · cases hc0
        refine ⟨some ⟨ab, ao, none⟩, cap, by rw [hl], by omega, ⟨rfl, c, row, fr, hblk, ?_⟩⟩
        intro j x hx
        have hj := (List.getElem?_eq_some_iff.1 hx).1
        rw [encL_length] at hj
        have hjd : j = j / Flat.sz α * Flat.sz α + j % Flat.sz α := by rw [Nat.mul_comm]; exact (Nat.div_add_mod j _).symm
        have hi : j / Flat.sz α < l.length := Nat.div_lt_of_lt_mul (by rw [Nat.mul_comm]; exact hj)
        have hm : j % Flat.sz α < Flat.sz α := Nat.mod_lt _ hpos
        have hli : l[j / Flat.sz α]? = some l[j / Flat.sz α] := List.getElem?_eq_getElem hi
        rw [hjd, encL_at l hli _ hm] at hx
        obtain ⟨h1, _⟩ := hp _ _ hli
        rw [hc] at h1
        obtain ⟨_, _, hcell⟩ := World.cells?_some h1
        have := (hcell (j % Flat.sz α) hm).trans hx
        rw [addr_add, addr_add] at this
        simp only [World.cell?, hblk] at this
        rw [hjd]
        simpa [Nat.add_assoc] using this
    · obtain ⟨i, hi, rfl⟩ := List.mem_iff_getElem.1 hx
      exact (hp i _ (List.getElem?_eq_getElem hi)).2
structure StepV where
  what : Int
  i : Int
  kek : UInt8
  key : UInt8
  power : Int
  ch : SliceV
instance : Flat StepV := ⟨6, fun s => [.int .i64 s.what, .int .i64 s.i, .int .u8 s.kek.toNat, .int .u8 s.key.toNat, .int .i64 s.power, s.ch.1], fun _ => rfl, fun s x h => by
  obtain ⟨a, b, c, d, e, v, p, n, c', rfl⟩ := s
  simp only [List.mem_cons, List.not_mem_nil, or_false] at h
  rcases h with rfl | rfl | rfl | rfl | rfl | rfl <;> rfl⟩
def step0 : StepV := ⟨0, 0, 0, 0, 0, ⟨.slice none 0 0, _, _, _, rfl⟩⟩
def okStep (w : World) (s : StepV) : Prop := okI w s.what ∧ okI w s.i ∧ okI w s.power ∧ ∃ l : List UInt8, SlE w s.ch.1 l
theorem rd_step {P : Program} {t ti tb tc : TypeId} {f0 f1 f2 f3 f4 f5 : Field} (ht : P.underlying t = some (.struct #[f0, f1, f2, f3, f4, f5])) (hn : P.cellsOf t = 6)
    (h0 : f0.type = ti) (h1 : f1.type = ti) (h2 : f2.type = tb) (h3 : f3.type = tb) (h4 : f4.type = ti) (h5 : f5.type = tc)
    (o0 : f0.offset = 0) (o1 : f1.offset = 1) (o2 : f2.offset = 2) (o3 : f3.offset = 3) (o4 : f4.offset = 4) (o5 : f5.offset = 5)
    (ci : P.cellsOf ti = 1) (cb : P.cellsOf tb = 1) (cc : P.cellsOf tc = 1) (hi : P.underlying ti = some (.int .i64)) (hb : P.underlying tb = some (.int .u8)) (hc : P.underlying tc = some (.slice tb)) :
    RdF P t StepV okStep := by
  intro H enc w base sp held fuel cs x h
  obtain ⟨xs, n, rfl, _, hlen, hxl, hf⟩ := DataW.trod_struct ht h
  rw [hn] at hlen
  obtain ⟨a, cs, rfl⟩ := List.exists_cons_of_length_eq_add_one (l := cs) (n := 5) hlen
  obtain ⟨b, cs, rfl⟩ := List.exists_cons_of_length_eq_add_one (l := cs) (by simpa using hlen)
  obtain ⟨c, cs, rfl⟩ := List.exists_cons_of_length_eq_add_one (l := cs) (by simpa using hlen)
  obtain ⟨d, cs, rfl⟩ := List.exists_cons_of_length_eq_add_one (l := cs) (by simpa using hlen)
  obtain ⟨e, cs, rfl⟩ := List.exists_cons_of_length_eq_add_one (l := cs) (by simpa using hlen)
  obtain ⟨f, cs, rfl⟩ := List.exists_cons_of_length_eq_add_one (l := cs) (by simpa using hlen)
  obtain rfl : cs = [] := List.eq_nil_of_length_eq_zero (by simpa using hlen)
  have hx : ∀ i, i < 6 → ∃ y, xs[i]? = some y := fun i hi => ⟨xs[i]'(by rw [hxl]; exact hi), List.getElem?_eq_getElem _⟩
  have e0 := hf 0 f0 rfl
  have e1 := hf 1 f1 rfl
  have e2 := hf 2 f2 rfl
  have e3 := hf 3 f3 rfl
  have e4 := hf 4 f4 rfl
  have e5 := hf 5 f5 rfl
  rw [h0, o0, ci] at e0
  rw [h1, o1, ci] at e1
  rw [h2, o2, cb] at e2
  rw [h3, o3, cb] at e3
  rw [h4, o4, ci] at e4
  rw [h5, o5, cc] at e5
  obtain ⟨y0, hy0⟩ := hx 0 (by decide)
  obtain ⟨y1, hy1⟩ := hx 1 (by decide)
  obtain ⟨y2, hy2⟩ := hx 2 (by decide)
  obtain ⟨y3, hy3⟩ := hx 3 (by decide)
  obtain ⟨y4, hy4⟩ := hx 4 (by decide)
  obtain ⟨y5, hy5⟩ := hx 5 (by decide)
  obtain ⟨v0, k0, ok0⟩ := rd_i64 hi (e0.trans hy0)
  obtain ⟨v1, k1, ok1⟩ := rd_i64 hi (e1.trans hy1)
  obtain ⟨v2, k2, _⟩ := rd_u8 hb (e2.trans hy2)
  obtain ⟨v3, k3, _⟩ := rd_u8 hb (e3.trans hy3)
  obtain ⟨v4, k4, ok4⟩ := rd_i64 hi (e4.trans hy4)
  obtain ⟨v5, k5, l, hl, _⟩ := rd_sl (rd_u8 hb) hc (by rw [cb]; rfl) (by decide) (e5.trans hy5)
  refine ⟨⟨v0, v1, v2, v3, v4, v5⟩, ?_, ok0, ok1, ok4, l, hl⟩
  have q0 : a = .int .i64 v0 := by injection k0
  have q1 : b = .int .i64 v1 := by injection k1
  have q2 : c = .int .u8 v2.toNat := by injection k2
  have q3 : d = .int .u8 v3.toNat := by injection k3
  have q4 : e = .int .i64 v4 := by injection k4
  have q5 : f = v5.1 := by injection k5
  rw [q0, q1, q2, q3, q4, q5]
  rfl
theorem open_arr {α : Type} [Flat α] {ok : World → α → Prop} {P : Program} {H : Type} {enc : TypeId × Value → H} {W : World} {base b0 n : Nat} {r : Reach} {t te : TypeId} {v : Value} {d : DataW H} {ps : List MemPlace} {sp : Nat → Bool} {held : Bool}
    (R : RdF P te α ok) (ht : P.underlying t = some (.array n te)) (hc : P.cellsOf te = Flat.sz α) (hn : P.cellsOf t = n * Flat.sz α) (hval : Value.okWide P W r b0 t v) (hd : DataW.Trod enc P W base sp held t v d ps) :
    ∃ l : List α, v = arrV l ∧ l.length = n := by
  have hv : ∃ cs, v = .agg cs ∧ cs.size = P.cellsOf t := by
    unfold Value.okWide at hval
    rw [ht] at hval
    obtain ⟨cs, h1, h2, _⟩ := hval
    exact ⟨cs, h1, h2⟩
  obtain ⟨cs, rfl, hcs⟩ := hv
  obtain ⟨fuel, hf⟩ := hd
  obtain ⟨xs, m, rfl, _, hlen, hxl, hel⟩ := DataW.trod_array ht hf
  simp only [Value.cells] at hlen hel
  obtain ⟨l, hl, hp⟩ := list_of_fun (α := α) (fun i a => (cs.toList.drop (i * Flat.sz α)).take (Flat.sz α) = Flat.enc a) n (fun i hi => by
    have h := hel i hi
    obtain ⟨y, hy⟩ : ∃ y, xs[i]? = some y := ⟨xs[i], List.getElem?_eq_getElem (by omega)⟩
    rw [hy, hc] at h
    obtain ⟨a, ha, _⟩ := R h
    exact ⟨a, ha⟩)
  refine ⟨l, ?_, hl⟩
  show Value.agg cs = .agg (encL l).toArray
  congr 1
  apply Array.ext'
  simp only
  apply List.ext_getElem?
  intro j
  rcases Nat.eq_zero_or_pos (Flat.sz α) with h0 | hpos
  · rw [List.getElem?_eq_none (by rw [hlen, hn, h0]; omega), List.getElem?_eq_none (by rw [encL_length, h0]; omega)]
  · by_cases hj : j < n * Flat.sz α
    · have hjd : j = j / Flat.sz α * Flat.sz α + j % Flat.sz α := by rw [Nat.mul_comm]; exact (Nat.div_add_mod j _).symm
      have hi : j / Flat.sz α < l.length := Nat.div_lt_of_lt_mul (by rw [Nat.mul_comm, hl]; exact hj)
      have hm : j % Flat.sz α < Flat.sz α := Nat.mod_lt _ hpos
      have hli : l[j / Flat.sz α]? = some l[j / Flat.sz α] := List.getElem?_eq_getElem hi
      rw [hjd, encL_at l hli _ hm, ← hp _ _ hli, List.getElem?_take, if_pos hm, List.getElem?_drop]
    · rw [List.getElem?_eq_none (by rw [hlen, hn]; omega), List.getElem?_eq_none (by rw [encL_length, hl]; omega)]
theorem open_u8 {P : Program} {H : Type} {enc : TypeId × Value → H} {W : World} {base b0 : Nat} {r : Reach} {t : TypeId} {v : Value} {d : DataW H} {ps : List MemPlace} {sp : Nat → Bool} {held : Bool}
    (ht : P.underlying t = some (.int .u8)) (hval : Value.okWide P W r b0 t v) (hd : DataW.Trod enc P W base sp held t v d ps) : ∃ a : UInt8, v = .int .u8 a.toNat := by
  obtain ⟨n, rfl, _, _, hw⟩ := open_int ht hval hd
  have hw : 0 ≤ n ∧ n ≤ 255 := by
    simp only [Lit.wf, Bool.and_eq_true, decide_eq_true_eq] at hw
    exact hw
  refine ⟨UInt8.ofNat n.toNat, ?_⟩
  rw [UInt8.toNat_ofNat']
  congr 1
  omega
theorem open_i64 {P : Program} {H : Type} {enc : TypeId × Value → H} {W : World} {base b0 : Nat} {r : Reach} {t : TypeId} {v : Value} {d : DataW H} {ps : List MemPlace} {sp : Nat → Bool} {held : Bool}
    (ht : P.underlying t = some (.int .i64)) (hval : Value.okWide P W r b0 t v) (hd : DataW.Trod enc P W base sp held t v d ps) : ∃ n : Int, v = .int .i64 n ∧ okI W n := by
  obtain ⟨n, rfl, _, _, hw⟩ := open_int ht hval hd
  have hw : -9223372036854775808 ≤ n ∧ n ≤ 9223372036854775807 := by
    simp only [Lit.wf, Bool.and_eq_true, decide_eq_true_eq] at hw
    exact hw
  exact ⟨n, rfl, by unfold okI; omega⟩
theorem open_b {P : Program} {W : World} {b0 : Nat} {r : Reach} {t : TypeId} {v : Value}
    (ht : P.underlying t = some .bool) (hval : Value.okWide P W r b0 t v) : ∃ a : Bool, v = .bool a := WideShapes.okWide_bool ht hval
theorem arr_of {args : Array Value} {l : List Value} (h : args.toList = l) : args = l.toArray := by subst h; rfl
end Go.Sac
namespace Go.Sac
open Go Go.ChangeShapes
theorem open_u16 {P : Program} {H : Type} {enc : TypeId × Value → H} {W : World} {base b0 : Nat} {r : Reach} {t : TypeId} {v : Value} {d : DataW H} {ps : List MemPlace} {sp : Nat → Bool} {held : Bool}
    (ht : P.underlying t = some (.int .u16)) (hval : Value.okWide P W r b0 t v) (hd : DataW.Trod enc P W base sp held t v d ps) : ∃ a : UInt16, v = .int .u16 a.toNat := by
  obtain ⟨n, rfl, _, _, hw⟩ := open_int ht hval hd
  have hw : 0 ≤ n ∧ n ≤ 65535 := by
    simp only [Lit.wf, Bool.and_eq_true, decide_eq_true_eq] at hw
    exact hw
  refine ⟨UInt16.ofNat n.toNat, ?_⟩
  rw [UInt16.toNat_ofNat']
  congr 1
  omega
end Go.Sac
