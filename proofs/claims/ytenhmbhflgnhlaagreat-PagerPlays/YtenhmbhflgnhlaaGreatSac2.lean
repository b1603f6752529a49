/- every row of calls, crashes, the power going within a commit: what each tells -/
import Derived.Test.YtenhmbhflgnhlaaGreatSac1
import Derived.ProofKit
import Derived.OpenShut
namespace Go.Sac
open Go
structure PCraM (n k : Nat) (key : List UInt8) (ds : DSt) (a : Nat) (s : Sup) (V : UInt32 → List UInt8) (M : Nat) : Prop where
  off : ds.offAt = 0
  fine : ds.Fine
  pend : ds.pend = []
  len : ds.kept.length = 32 + 8 * n
  size : 4 ≤ n ∧ n ≤ 400
  steps : ds.steps ≤ 100 * k
  few : k ≤ 40000
  sup : SupM key ds a s M
  com : M ≤ k + 1
  used : ∀ i, s.used i = true → i.toNat < n
  written : ∀ i, s.written i = true → s.used i = true
  pages : ∀ i, s.written i = true → ∃ g, Stands ds (deriveL key tPage 0) i.toNat g (V i)
theorem open_pokM {n k : Nat} {key : List UInt8} {ds : DSt} {a M : Nat} {s : Sup} {V : UInt32 → List UInt8} (h : PCraM n k key ds a s V M) (hk : k + 1 ≤ 40000) :
    newest key ds = some (s, a) ∧ (laysD key ds ((a + 1) % 2) (opS key ds s)).2 = 0 ∧
    (∀ f : UInt32 → Option UInt64, (∀ i, s.written i = true → f i = some (genD (laysD key ds ((a + 1) % 2) (opS key ds s)).1 i)) → PInv n (k + 1) key (laysD key ds ((a + 1) % 2) (opS key ds s)).1 ⟨s.st, opS key ds s, (a + 1) % 2, 0, f, false⟩ V) ∧
    Laid key ds (laysD key ds ((a + 1) % 2) (opS key ds s)).1 ((a + 1) % 2) (opS key ds s) ∧ (opS key ds s).commit.toNat ≤ M + 1 := by
  obtain ⟨hoff, hf, hpd, hl, hn, hst, hkf, hS, hcom, hu, hw, hp⟩ := h
  have ha := hS.a_
  have hok := hS.ok
  have hok2 : (opS key ds s).Ok := ⟨hok.txt, hok.used, hok.written⟩
  have hnx := newNext_nat (k := key) hS.nums (by omega) (by rw [hS.newest]; exact hS.le)
  have hcm : comOf (newest key ds) = s.commit := by rw [hS.newest]; rfl
  rw [hcm] at hnx
  have hc2 : (opS key ds s).commit.toNat = (newNext key ds).toNat := rfl
  obtain ⟨r0, hL⟩ := laysD_ok (k := key) (a := (a + 1) % 2) (s := opS key ds s) hoff (by omega) (by omega) hok2.txt
  have hb := laysD_bnd key ds ((a + 1) % 2) (opS key ds s) hf hok2.txt (by omega)
  have hsn := supN_le hok2.txt
  have hS2 : SupAt key (laysD key ds ((a + 1) % 2) (opS key ds s)).1 ((a + 1) % 2) (opS key ds s) := hS.next hL (by omega) hok2 hnx.2.2 (by omega) (by omega) (by omega)
  refine ⟨hS.newest, r0, fun f hff => ⟨⟨by rw [hL.offAt]; exact hoff, hb.1, by rw [hL.len]; exact hl, hn, by omega, by omega, rfl, by show (a + 1) % 2 ≤ 1; omega, hu, hu, hw, hw, fun i hi => .inr hi, fun i hi => ?_⟩, hS2, by show (opS key ds s).commit.toNat ≤ _; omega, hk, fun j _ _ => by rw [hL.pend]; rfl, fun i _ q _ => by rw [hL.pend]; rfl⟩, hL, by omega⟩
  have hi : s.written i = true := by rcases hi with hi | hi <;> exact hi
  obtain ⟨g, hg⟩ := hp i hi
  have hin := hu i (hw i hi)
  have hg2 : Stands (laysD key ds ((a + 1) % 2) (opS key ds s)).1 (deriveL key tPage 0) i.toNat g (V i) := hg.other fun q hq => by
    rw [hL.now _ (by omega) (by omega), if_neg (by omega)]
  refine ⟨g, ?_, hg2⟩
  show f i = some g
  rw [hff i hi]
  unfold genD
  have e8 : (laysD key ds ((a + 1) % 2) (opS key ds s)).1.reads (32 + (i.toNat : Int) * 8) 8 = (laysD key ds ((a + 1) % 2) (opS key ds s)).1.reads (32 + (i.toNat : Int) * 8) 1 ++ (laysD key ds ((a + 1) % 2) (opS key ds s)).1.reads (32 + (i.toNat : Int) * 8 + (1 : Nat)) 7 := reads_add _ _ 1 7
  have h1 : ((laysD key ds ((a + 1) % 2) (opS key ds s)).1.reads (32 + (i.toNat : Int) * 8) 1).length = 64 := DSt.reads_length _ _ _
  rw [hg2.1] at e8
  have e9 : (pageB (deriveL key tPage 0) i.toNat g.toNat (V i)).take 8 = ((laysD key ds ((a + 1) % 2) (opS key ds s)).1.reads (32 + (i.toNat : Int) * 8) 1).take 8 := by rw [e8, List.take_append_of_le_length (by omega)]
  rw [← e9, pageB_gen]
section
variable {n k : Nat} {key : List UInt8} {ds dp : DSt} {P : Pg} {V : UInt32 → List UInt8}
theorem now_same (h1 : dp.kept = ds.kept) (h2 : dp.pend = ds.pend) (j : Int) : dp.now j = ds.now j := by unfold DSt.now; rw [h1, h2]
theorem PInv.cut0 (h : PInv n k key ds P V) (hk : k + 1 ≤ 40000) (h1 : dp.kept = ds.kept) (h2 : dp.pend = ds.pend) (h3 : dp.steps ≤ ds.steps + 50) (hf : dp.Fine) (ch : List UInt8) : PCraM n (k + 1) key (dp.crash ch) P.at_ P.kept V P.kept.commit.toNat := by
  have hns := now_same h1 h2
  have hst := h.ok.steps
  have hcom := h.com
  refine ⟨rfl, crash_fine hf ch, rfl, by rw [crash_len, h1]; exact h.ok.len, h.ok.size, by show dp.steps ≤ _; omega, hk, h.sup.m.congr fun j hj0 hj1 => by rw [crash_now hf ch hj0 (by rw [h2]; exact h.dur0 j hj0 hj1), hns], by omega, h.ok.kused, h.ok.kwritten, fun i hi => ?_⟩
  obtain ⟨g, _, hg⟩ := h.ok.pages i (.inr hi)
  exact ⟨g, hg.other fun q hq => by rw [crash_now hf ch (by omega) (by rw [h2]; exact h.dur1 i hi q hq), hns]⟩
theorem PInv.cut1 (h : PInv n k key ds P V) (hk : k + 1 ≤ 40000) (h1 : dp.kept = ds.kept) (h2 : dp.pend = ds.pend) (h3 : dp.steps = ds.steps) (hf : dp.Fine) (h0 : dp.flush.2 = 0) (root : UInt32) (txt : List UInt8) (ht : txt.length ≤ 200) (hc : P.kept.commit.toNat + 1 < 256) (ch : List UInt8) :
    ((laysD key dp.flush.1 ((P.at_ + 1) % 2) (comS P root txt)).2 = 0 ∧ PCraM n (k + 1) key ((laysD key dp.flush.1 ((P.at_ + 1) % 2) (comS P root txt)).1.crash ch) ((P.at_ + 1) % 2) (comS P root txt) V (P.kept.commit.toNat + 1)) ∨
    ((laysD key dp.flush.1 ((P.at_ + 1) % 2) (comS P root txt)).2 = 61 ∧ (PCraM n (k + 1) key ((laysD key dp.flush.1 ((P.at_ + 1) % 2) (comS P root txt)).1.crash ch) P.at_ P.kept V (P.kept.commit.toNat + 1) ∨ PCraM n (k + 1) key ((laysD key dp.flush.1 ((P.at_ + 1) % 2) (comS P root txt)).1.crash ch) ((P.at_ + 1) % 2) (comS P root txt) V (P.kept.commit.toNat + 1))) := by
  have hns := now_same h1 h2
  have hlen := h.ok.len
  have hsz := h.ok.size
  have hst := h.ok.steps
  have hcom := h.com
  have hfl := DSt.flush_len dp
  have hpl : dp.flush.1.kept.length = 32 + 8 * n := by rw [hfl, h1]; exact hlen
  have hfs := DSt.flush_steps dp
  have hff := hf.flush (by omega)
  have hpd := flush_pend h0
  have hfn : ∀ j : Int, 0 ≤ j → j < 32 + 8 * n → dp.flush.1.now j = ds.now j := fun j hj0 hj1 => by rw [flush_now h0 hj0 (by rw [h1]; omega), hns]
  have hS1 : SupAt key dp.flush.1 P.at_ P.kept := h.sup.congr fun j hj0 hj1 => hfn j hj0 (by omega)
  have hcn : (comS P root txt).commit.toNat = P.kept.commit.toNat + 1 := com_next (by omega)
  have hok : (comS P root txt).Ok := ⟨ht, fun i hi => by have := h.ok.used i hi; omega, fun i hi => by have := h.ok.used i (h.ok.written i hi); omega⟩
  have ha := h.sup.a_
  have ht2 : (comS P root txt).txt.length ≤ 200 := ht
  have hsn := supN_le ht2
  obtain ⟨g1, g2, g3⟩ := laysD_bnd key dp.flush.1 ((P.at_ + 1) % 2) (comS P root txt) hff ht2 (by omega)
  obtain ⟨d2, hd2⟩ : ∃ d2, d2 = laysD key dp.flush.1 ((P.at_ + 1) % 2) (comS P root txt) := ⟨_, rfl⟩
  rw [← hd2] at g1 g2 g3 ⊢
  have mk : ∀ (a : Nat) (s : Sup), SupM key (d2.1.crash ch) a s (P.kept.commit.toNat + 1) → (∀ i, s.used i = true → i.toNat < n) → (∀ i, s.written i = true → s.used i = true) → (∀ i, s.written i = true → P.now.written i = true ∨ P.kept.written i = true) →
      (∀ j : Int, 32 ≤ j → j < 32 + 8 * n → (d2.1.crash ch).now j = ds.now j) → PCraM n (k + 1) key (d2.1.crash ch) a s V (P.kept.commit.toNat + 1) := fun a s hS hu hw hwr hnow =>
    ⟨rfl, crash_fine g1 ch, rfl, by rw [crash_len]; omega, hsz, by show d2.1.steps ≤ _; omega, hk, hS, by omega, hu, hw, fun i hi => by
      obtain ⟨g, _, hg⟩ := h.ok.pages i (hwr i hi)
      have hin := hu i (hw i hi)
      exact ⟨g, hg.other fun q hq => hnow _ (by omega) (by omega)⟩⟩
  rcases laysD_cases key dp.flush.1 ((P.at_ + 1) % 2) (comS P root txt) (by omega) (by omega) ht2 with ⟨e0, hL⟩ | ⟨e0, _, m, hm, hP⟩
  · left
    rw [← hd2] at e0 hL
    have hS2 := hS1.next hL (by omega) hok (by omega) (by omega)
    refine ⟨e0, mk _ _ ?_ h.ok.used h.ok.written (fun i hi => .inl hi) ?_⟩
    · have := hS2.m
      rw [hcn] at this
      exact this.congr fun j hj0 hj1 => crash_now g1 ch hj0 (by rw [hL.pend]; rfl)
    · intro j hj0 hj1
      rw [crash_now g1 ch (by omega) (by rw [hL.pend]; rfl), hL.now j (by omega) (by omega), if_neg (by omega), hfn j (by omega) hj1]
  · right
    rw [← hd2] at e0 hP
    refine ⟨e0, ?_⟩
    have hpn : ∀ j, mget j d2.1.pend = if ((((P.at_ + 1) % 2 : Nat)) : Int) * 16 ≤ j ∧ j < (((P.at_ + 1) % 2 : Nat) : Int) * 16 + m then some (chS (frameL (superB key (comS P root txt)) (comS P root txt).commit) (j - (((P.at_ + 1) % 2 : Nat) : Int) * 16).toNat) else none := fun j => by
      rw [hP.pend j, hpd]; rfl
    have hout : ∀ j : Int, 0 ≤ j → j < 32 + 8 * n → ¬ ((((P.at_ + 1) % 2 : Nat) : Int) * 16 ≤ j ∧ j < (((P.at_ + 1) % 2 : Nat) : Int) * 16 + m) → (d2.1.crash ch).now j = dp.flush.1.now j := fun j hj0 hj1 hno => by
      rw [crash_now g1 ch hj0 (by rw [hpn, if_neg hno]), hP.now, if_neg hno]
    have hpages : ∀ j : Int, 32 ≤ j → j < 32 + 8 * n → (d2.1.crash ch).now j = ds.now j := fun j hj0 hj1 => by rw [hout j (by omega) hj1 (by omega), hfn j (by omega) hj1]
    have hkn : ∀ j : Int, 0 ≤ j → d2.1.kept.getD j.toNat sec0 = dp.flush.1.now j := fun j hj => by
      rw [hP.kept]
      unfold DSt.now
      rw [hpd]; rfl
    have hTq : ∀ q : Nat, q < 16 → (d2.1.crash ch).now (((P.at_ + 1) % 2 : Nat) * 16 + q) = dp.flush.1.now (((P.at_ + 1) % 2 : Nat) * 16 + q) ∨ (q < supN (comS P root txt) ∧ TornOf (dp.flush.1.now (((P.at_ + 1) % 2 : Nat) * 16 + q)) (chS (frameL (superB key (comS P root txt)) (comS P root txt).commit) q) ((d2.1.crash ch).now (((P.at_ + 1) % 2 : Nat) * 16 + q))) := fun q hq => by
      by_cases hq2 : q < m
      · right
        refine ⟨by omega, ?_⟩
        have ht := crash_torn g1 ch (j := (((P.at_ + 1) % 2 : Nat) : Int) * 16 + q) (by omega) (by omega)
        rw [hpn, if_pos (by omega), Option.getD_some, hkn _ (by omega), show ((((P.at_ + 1) % 2 : Nat) : Int) * 16 + (q : Int) - (((P.at_ + 1) % 2 : Nat) : Int) * 16).toNat = q by omega] at ht
        exact ht
      · left
        exact hout _ (by omega) (by omega) (by omega)
    rcases torn_region (ds2 := d2.1.crash ch) hS1 hok (by omega) (by omega) hTq (fun q hq => hout _ (by omega) (by omega) (by omega)) with hS | hS
    · exact .inl (mk _ _ hS h.ok.kused h.ok.kwritten (fun i hi => .inr hi) hpages)
    · exact .inr (mk _ _ hS h.ok.used h.ok.written (fun i hi => .inl hi) hpages)
end
end Go.Sac

namespace Go.Sac
open Go
structure PgIs (u w f r : Bool) (b : List UInt8) (p : MPg) : Prop where
  used : p.used = u
  was : p.was = w
  fresh : p.fresh = f
  written : p.written = r
  b : r = true → p.b = b
structure RelP (n : Nat) (P : Pg) (V : UInt32 → List UInt8) (M : Mdl) : Prop where
  lp : M.p.length = n
  lo : M.old.length = n
  root : M.root = P.now.root
  txt : M.txt = P.now.txt
  oroot : M.oldRoot = P.kept.root
  otxt : M.oldTxt = P.kept.txt
  pg : ∀ i, i < n → PgIs (P.now.used (UInt32.ofNat i)) (P.kept.used (UInt32.ofNat i)) (P.fresh (UInt32.ofNat i)) (P.now.written (UInt32.ofNat i)) (V (UInt32.ofNat i)) (M.get i)
  old : ∀ i, i < n → PgIs (P.kept.used (UInt32.ofNat i)) (P.kept.used (UInt32.ofNat i)) false (P.kept.written (UInt32.ofNat i)) (V (UInt32.ofNat i)) (M.old.getD i pg0)
theorem get_set (M : Mdl) (i j : Nat) (p : MPg) (hi : i < M.p.length) : ({ M with p := M.p.set i p } : Mdl).get j = if j = i then p else M.get j := by
  unfold Mdl.get
  show (M.p.set i p).getD j pg0 = _
  rw [List.getD_eq_getElem?_getD]
  by_cases h : j = i
  · subst h; rw [if_pos rfl, List.getElem?_set_self hi]; rfl
  · rw [if_neg h, List.getElem?_set_ne (fun e => h e.symm), ← List.getD_eq_getElem?_getD]
theorem u_inj {i j : Nat} (hi : i < 4294967296) (hj : j < 4294967296) (h : UInt32.ofNat i = UInt32.ofNat j) : i = j := by
  have := congrArg UInt32.toNat h
  rwa [UInt32.toNat_ofNat_of_lt' hi, UInt32.toNat_ofNat_of_lt' hj] at this
section
variable {n : Nat} {P : Pg} {V : UInt32 → List UInt8} {M : Mdl}
theorem RelP.zero (n a : Nat) (V : UInt32 → List UInt8) : RelP n (pgZ a) V (Mdl.zero n) := by
  have hg : ∀ i, i < n → (List.replicate n pg0).getD i pg0 = pg0 := fun i hi => by rw [List.getD_eq_getElem?_getD, List.getElem?_replicate, if_pos hi]; rfl
  refine ⟨List.length_replicate, List.length_replicate, rfl, rfl, rfl, rfl, fun i hi => ?_, fun i hi => ?_⟩
  · show PgIs _ _ _ _ _ ((List.replicate n pg0).getD i pg0)
    rw [hg i hi]
    exact ⟨rfl, rfl, rfl, rfl, fun h => Bool.noConfusion h⟩
  · show PgIs _ _ _ _ _ ((List.replicate n pg0).getD i pg0)
    rw [hg i hi]
    exact ⟨rfl, rfl, rfl, rfl, fun h => Bool.noConfusion h⟩
theorem RelP.free_eq (h : RelP n P V M) {i : Nat} (hi : i < n) : M.free i = P.free (UInt32.ofNat i) := by
  have := h.pg i hi
  unfold Mdl.free Pg.free
  rw [this.used, this.was]
theorem RelP.room (h : RelP n P V M) : roomM M n = roomN P n := by
  unfold roomM roomN
  congr 1
  exact List.filter_congr fun i hi => h.free_eq (List.mem_range.1 hi)
theorem RelP.bad_eq (h : RelP n P V M) {i : Nat} (hi : i < n) : M.bad i = (P.fresh (UInt32.ofNat i) && !P.now.written (UInt32.ofNat i)) := by
  have := h.pg i hi
  unfold Mdl.bad
  rw [this.fresh, this.written]
theorem RelP.set (h : RelP n P V M) {i : Nat} (hi : i < n) (hn : n ≤ 400) (p : MPg) {P' : Pg} {V' : UInt32 → List UInt8} (hk : P'.kept = P.kept) (hr : P'.now.root = P.now.root) (ht : P'.now.txt = P.now.txt)
    (hu : ∀ j, j ≠ UInt32.ofNat i → P'.now.used j = P.now.used j ∧ P'.now.written j = P.now.written j ∧ V' j = V j)
    (hV : P.kept.written (UInt32.ofNat i) = true → V' (UInt32.ofNat i) = V (UInt32.ofNat i))
    (hp : PgIs (P'.now.used (UInt32.ofNat i)) (P'.kept.used (UInt32.ofNat i)) (P'.fresh (UInt32.ofNat i)) (P'.now.written (UInt32.ofNat i)) (V' (UInt32.ofNat i)) p) : RelP n P' V' { M with p := M.p.set i p } := by
  have hil : i < M.p.length := by rw [h.lp]; exact hi
  refine ⟨by show (M.p.set i p).length = n; rw [List.length_set]; exact h.lp, h.lo, by rw [hr]; exact h.root, by rw [ht]; exact h.txt, by rw [hk]; exact h.oroot, by rw [hk]; exact h.otxt, fun j hj => ?_, fun j hj => ?_⟩
  · rw [get_set M i j p hil]
    by_cases hji : j = i
    · rw [if_pos hji, hji]; exact hp
    · rw [if_neg hji]
      have hne : UInt32.ofNat j ≠ UInt32.ofNat i := fun e => hji (u_inj (by omega) (by omega) e)
      obtain ⟨e1, e2, e3⟩ := hu _ hne
      have hf : P'.fresh (UInt32.ofNat j) = P.fresh (UInt32.ofNat j) := by unfold Pg.fresh; rw [e1, hk]
      rw [e1, e2, e3, hf, hk]
      exact h.pg j hj
  · rw [hk]
    have ho := h.old j hj
    refine ⟨ho.used, ho.was, ho.fresh, ho.written, fun hw => ?_⟩
    rw [ho.b hw]
    by_cases hji : UInt32.ofNat j = UInt32.ofNat i
    · rw [hji] at hw ⊢; exact (hV hw).symm
    · exact (hu _ hji).2.2.symm
theorem RelP.alloc (h : RelP n P V M) (hn : n ≤ 400) {i : Nat} (hi : i < n) (hf : P.free (UInt32.ofNat i) = true) (hw : P.now.written (UInt32.ofNat i) = false) :
    RelP n { P with now := { P.now with used := addPg P.now.used (UInt32.ofNat i) } } V { M with p := M.p.set i ⟨true, true, false, false, []⟩ } := by
  obtain ⟨h1, h2⟩ := free_iff.1 hf
  refine h.set hi hn _ rfl rfl rfl (fun j hj => ⟨?_, rfl, rfl⟩) (fun _ => rfl) ⟨?_, h2.symm, ?_, hw.symm, fun hh => ?_⟩
  · show addPg _ _ _ = _
    unfold addPg; rw [decide_eq_false hj, Bool.false_or]
  · show true = addPg _ _ _
    unfold addPg; simp
  · show true = (addPg P.now.used (UInt32.ofNat i) (UInt32.ofNat i) && !P.kept.used (UInt32.ofNat i))
    rw [h2]; simp [addPg]
  · rw [show ({ P with now := { P.now with used := addPg P.now.used (UInt32.ofNat i) } } : Pg).now.written (UInt32.ofNat i) = P.now.written (UInt32.ofNat i) from rfl, hw] at hh; cases hh
theorem RelP.write (h : RelP n P V M) (hn : n ≤ 400) {i : Nat} (hi : i < n) (hf : P.fresh (UInt32.ofNat i) = true) (hkw : P.kept.written (UInt32.ofNat i) = false) (l : List UInt8) {c : UInt32} {g : UInt32 → Option UInt64} :
    RelP n { P with count := c, now := { P.now with written := addPg P.now.written (UInt32.ofNat i) }, gens := g } (setV V (UInt32.ofNat i) l) { M with p := M.p.set i { M.get i with written := true, b := l } } := by
  have hp := h.pg i hi
  refine h.set hi hn _ rfl rfl rfl (fun j hj => ⟨rfl, ?_, ?_⟩) (fun hh => by rw [hkw] at hh; cases hh) ⟨hp.used, hp.was, hp.fresh, ?_, fun _ => ?_⟩
  · show addPg _ _ _ = _
    unfold addPg; rw [decide_eq_false hj, Bool.false_or]
  · unfold setV; rw [if_neg hj]
  · show true = addPg _ _ _
    unfold addPg; simp
  · show l = setV _ _ _ _
    unfold setV; rw [if_pos rfl]
theorem RelP.free (h : RelP n P V M) (hn : n ≤ 400) {i : Nat} (hi : i < n) :
    RelP n { P with now := { P.now with used := delPg P.now.used (UInt32.ofNat i), written := delPg P.now.written (UInt32.ofNat i) } } V { M with p := M.p.set i ⟨false, false, false, (M.get i).was, []⟩ } := by
  have hp := h.pg i hi
  have hd : ∀ f : PgF, delPg f (UInt32.ofNat i) (UInt32.ofNat i) = false := fun f => by unfold delPg; simp
  have hd2 : ∀ (f : PgF) j, j ≠ UInt32.ofNat i → delPg f (UInt32.ofNat i) j = f j := fun f j hj => by unfold delPg; rw [decide_eq_false hj]; simp
  refine h.set hi hn _ rfl rfl rfl (fun j hj => ⟨hd2 _ j hj, hd2 _ j hj, rfl⟩) (fun _ => rfl) ⟨(hd _).symm, hp.was, ?_, (hd _).symm, fun hh => ?_⟩
  · show false = (delPg P.now.used (UInt32.ofNat i) (UInt32.ofNat i) && _)
    rw [hd]; rfl
  · have hh : delPg P.now.written (UInt32.ofNat i) (UInt32.ofNat i) = true := hh
    rw [hd] at hh; cases hh
theorem RelP.commit (h : RelP n P V M) (root : UInt32) (txt : List UInt8) {a : Nat} (hw : ∀ i, P.now.written i = true → P.now.used i = true) : RelP n { P with now := (comS P root txt).st, kept := comS P root txt, at_ := a } V (M.com root txt) := by
  have hg : ∀ i, i < n → (M.p.map cmP).getD i pg0 = cmP (M.get i) := fun i hi => by
    rw [List.getD_eq_getElem?_getD, List.getElem?_map, M.at (by rw [h.lp]; exact hi)]; rfl
  have hx : ∀ i, i < n → PgIs (P.now.used (UInt32.ofNat i)) (P.now.used (UInt32.ofNat i)) false (P.now.written (UInt32.ofNat i)) (V (UInt32.ofNat i)) (cmP (M.get i)) := fun i hi => by
    have hp := h.pg i hi
    exact ⟨hp.used, hp.used, rfl, hp.written, hp.b⟩
  refine ⟨by show (M.p.map cmP).length = n; rw [List.length_map]; exact h.lp, by show (M.p.map cmP).length = n; rw [List.length_map]; exact h.lp, rfl, rfl, rfl, rfl, fun i hi => ?_, fun i hi => ?_⟩
  · show PgIs _ _ (P.now.used (UInt32.ofNat i) && !P.now.used (UInt32.ofNat i)) _ _ ((M.p.map cmP).getD i pg0)
    rw [hg i hi, Bool.and_not_self]
    exact hx i hi
  · show PgIs _ _ _ _ _ ((M.p.map cmP).getD i pg0)
    rw [hg i hi]
    exact hx i hi
theorem RelP.back (h : RelP n P V M) {P' : Pg} (h1 : P'.now = P.kept.st) (h2 : P'.kept.used = P.kept.used) (h3 : P'.kept.written = P.kept.written) (h4 : P'.kept.root = P.kept.root) (h5 : P'.kept.txt = P.kept.txt) : RelP n P' V M.undo := by
  refine ⟨h.lo, h.lo, by rw [h1]; exact h.oroot, by rw [h1]; exact h.otxt, by rw [h4]; exact h.oroot, by rw [h5]; exact h.otxt, fun i hi => ?_, fun i hi => ?_⟩
  · have ho := h.old i hi
    have hf : P'.fresh (UInt32.ofNat i) = false := by
      unfold Pg.fresh
      rw [h1, h2]
      show (P.kept.used _ && !P.kept.used _) = false
      rw [Bool.and_not_self]
    rw [hf, h1, h2]
    exact ho
  · rw [h2, h3]; exact h.old i hi
def Mdl.usedF (M : Mdl) : PgF := fun u => (M.get u.toNat).used
def ReadSame (P : Pg) (V : UInt32 → List UInt8) (M : Mdl) (i : Nat) : Prop :=
  (P.now.written (UInt32.ofNat i) = true ∧ (M.get i).written = true ∧ (M.get i).b = V (UInt32.ofNat i)) ∨ (P.now.written (UInt32.ofNat i) = false ∧ (M.get i).written = false)
structure SameP (n : Nat) (P : Pg) (V : UInt32 → List UInt8) (M : Mdl) : Prop where
  used : pgsL P.now.used n = pgsL M.usedF n
  read : ∀ i, i < n → (M.get i).used = true → ReadSame P V M i
  room : roomN P n = roomM M n
  root : P.now.root = M.root
  txt : P.now.txt = M.txt
theorem usedF_at (M : Mdl) {i : Nat} (hi : i < 4294967296) : M.usedF (UInt32.ofNat i) = (M.get i).used := by unfold Mdl.usedF; rw [UInt32.toNat_ofNat_of_lt' hi]
theorem pgsL_congr {f g : PgF} {n : Nat} (h : ∀ i, i < n → f (UInt32.ofNat i) = g (UInt32.ofNat i)) : pgsL f n = pgsL g n := by
  unfold pgsL
  congr 1
  exact List.filter_congr fun i hi => h i (List.mem_range.1 hi)
theorem SameP.at (h : SameP n P V M) (hn : n ≤ 400) {i : Nat} (hi : i < n) : P.now.used (UInt32.ofNat i) = (M.get i).used := by
  have e : UInt32.ofNat i ∈ pgsL P.now.used n ↔ UInt32.ofNat i ∈ pgsL M.usedF n := by rw [h.used]
  rw [mem_pgsL (by omega), mem_pgsL (by omega), usedF_at M (by omega), UInt32.toNat_ofNat_of_lt' (show i < 4294967296 by omega)] at e
  have e : P.now.used (UInt32.ofNat i) = true ↔ (M.get i).used = true := ⟨fun x => (e.1 ⟨x, hi⟩).1, fun x => (e.2 ⟨x, hi⟩).1⟩
  cases h1 : P.now.used (UInt32.ofNat i) <;> cases h2 : (M.get i).used <;> simp_all
theorem RelP.same (h : RelP n P V M) (hn : n ≤ 400) : SameP n P V M := by
  refine ⟨pgsL_congr fun i hi => by rw [usedF_at M (by omega), (h.pg i hi).used], fun i hi _ => ?_, h.room.symm, h.root.symm, h.txt.symm⟩
  have hp := h.pg i hi
  cases hw : P.now.written (UInt32.ofNat i) with
  | true => exact .inl ⟨hw, by rw [hp.written, hw], hp.b hw⟩
  | false => exact .inr ⟨hw, by rw [hp.written, hw]⟩
theorem SameP.rel {P0 : Pg} (h0 : RelP n P0 V M) (hn : n ≤ 400) (hkw : ∀ i, P0.kept.written i = true → P0.kept.used i = true) (h1 : P.now = P.kept.st) (hw : ∀ i, P.now.written i = true → P.now.used i = true) (h : SameP n P V M.undo) : RelP n P V M.undo := by
  have hu : ∀ i, i < n → P.now.used (UInt32.ofNat i) = (M.old.getD i pg0).used := fun i hi => h.at hn hi
  have hku : P.kept.used = P.now.used := by rw [h1]; rfl
  have hkwr : P.kept.written = P.now.written := by rw [h1]; rfl
  have hfr : ∀ u, P.fresh u = false := fun u => by unfold Pg.fresh; rw [hku, Bool.and_not_self]
  have hx : ∀ i, i < n → PgIs (P.now.used (UInt32.ofNat i)) (P.now.used (UInt32.ofNat i)) false (P.now.written (UInt32.ofNat i)) (V (UInt32.ofNat i)) (M.old.getD i pg0) := fun i hi => by
    have ho := h0.old i hi
    have hui := hu i hi
    refine ⟨hui.symm, by rw [ho.was, ← ho.used]; exact hui.symm, ho.fresh, ?_, fun hwr => ?_⟩
    · cases hb : (M.old.getD i pg0).used with
      | true =>
        rcases h.read i hi hb with ⟨a1, a2, _⟩ | ⟨a1, a2⟩
        · rw [a1]; exact a2
        · rw [a1]; exact a2
      | false =>
        have e1 : P.now.written (UInt32.ofNat i) = false := by
          cases hq : P.now.written (UInt32.ofNat i) with
          | false => rfl
          | true => have := hw _ hq; rw [hui, hb] at this; cases this
        have e2 : P0.kept.written (UInt32.ofNat i) = false := by
          cases hq : P0.kept.written (UInt32.ofNat i) with
          | false => rfl
          | true => have := hkw _ hq; rw [← ho.used, hb] at this; cases this
        rw [e1, ho.written, e2]
    · have hb : (M.old.getD i pg0).used = true := by rw [← hui]; exact hw _ hwr
      rcases h.read i hi hb with ⟨_, _, a3⟩ | ⟨a1, _⟩
      · exact a3
      · rw [a1] at hwr; cases hwr
  refine ⟨h0.lo, h0.lo, h.root.symm, h.txt.symm, ?_, ?_, fun i hi => ?_, fun i hi => ?_⟩
  · have := h.root; rw [h1] at this; exact this.symm
  · have := h.txt; rw [h1] at this; exact this.symm
  · rw [hfr, hku]; exact hx i hi
  · rw [hku, hkwr]; exact hx i hi
end
theorem RelP.readM {n : Nat} {P : Pg} {V : UInt32 → List UInt8} {M : Mdl} (h : RelP n P V M) (hw : ∀ i, P.now.written i = true → P.now.used i = true) (hu : ∀ i, P.now.used i = true → i.toNat < n) (hn : n ≤ 400) {i : Nat} (hi : i ≤ n) :
    Go.Sac.readM M i = if P.now.written (UInt32.ofNat i) = true then (V (UInt32.ofNat i), 0) else ([], 71) := by
  have ht : (UInt32.ofNat i).toNat = i := UInt32.toNat_ofNat_of_lt' (show i < 4294967296 by omega)
  by_cases hwr : P.now.written (UInt32.ofNat i) = true
  · rw [if_pos hwr]
    have hin : i < n := by have := hu _ (hw _ hwr); omega
    have hp := h.pg i hin
    unfold Go.Sac.readM
    rw [if_pos ⟨by rw [h.lp]; exact hin, by rw [hp.used]; exact hw _ hwr, by rw [hp.written]; exact hwr⟩, hp.b hwr]
  · rw [if_neg hwr]
    refine if_neg fun ⟨q1, _, q3⟩ => hwr ?_
    rw [h.lp] at q1
    rw [← (h.pg i q1).written]; exact q3
theorem RelP.freeM {n : Nat} {P : Pg} {V : UInt32 → List UInt8} {M : Mdl} (h : RelP n P V M) (hu : ∀ i, P.now.used i = true → i.toNat < n) (hn : n ≤ 400) {i : Nat} (hi : i ≤ n) :
    Go.Sac.freeM M i = if P.now.used (UInt32.ofNat i) = true then ({ M with p := M.p.set i ⟨false, false, false, (M.get i).was, []⟩ }, 0) else (M, 71) := by
  have ht : (UInt32.ofNat i).toNat = i := UInt32.toNat_ofNat_of_lt' (show i < 4294967296 by omega)
  by_cases hwr : P.now.used (UInt32.ofNat i) = true
  · rw [if_pos hwr]
    have hin : i < n := by have := hu _ hwr; omega
    have hp := h.pg i hin
    exact if_pos ⟨by rw [h.lp]; exact hin, by rw [hp.used]; exact hwr⟩
  · rw [if_neg hwr]
    refine if_neg fun ⟨q1, q3⟩ => hwr ?_
    rw [h.lp] at q1
    rw [← (h.pg i q1).used]; exact q3
theorem RelP.writeM {n : Nat} {P : Pg} {V : UInt32 → List UInt8} {M : Mdl} (h : RelP n P V M) (hu : ∀ i, P.now.used i = true → i.toNat < n) (hn : n ≤ 400) {i : Nat} (hi : i ≤ n) (l : List UInt8) :
    Go.Sac.writeM M i l = if P.fresh (UInt32.ofNat i) = true then (if l.length ≤ 480 then ({ M with p := M.p.set i { M.get i with written := true, b := l } }, 0) else (M, 11)) else (M, 71) := by
  have ht : (UInt32.ofNat i).toNat = i := UInt32.toNat_ofNat_of_lt' (show i < 4294967296 by omega)
  by_cases hwr : P.fresh (UInt32.ofNat i) = true
  · rw [if_pos hwr]
    have huu : P.now.used (UInt32.ofNat i) = true := (fresh_iff.1 hwr).1
    have hin : i < n := by have := hu _ huu; omega
    have hp := h.pg i hin
    exact if_pos ⟨by rw [h.lp]; exact hin, by rw [hp.used]; exact huu, by rw [hp.fresh]; exact hwr⟩
  · rw [if_neg hwr]
    refine if_neg fun ⟨q1, _, q3⟩ => hwr ?_
    rw [h.lp] at q1
    rw [← (h.pg i q1).fresh]; exact q3
theorem CommitM.long {M M' : Mdl} {root : UInt32} {txt : List UInt8} {e : Nat} (h : CommitM M root txt M' e) (ht : 200 < txt.length) : M' = M ∧ e = 11 := by
  rcases h with ⟨_, h1, h2⟩ | ⟨h1, _⟩ | ⟨h1, _⟩
  · exact ⟨h1, h2⟩
  · omega
  · omega
theorem CommitM.bad {n : Nat} {P : Pg} {V : UInt32 → List UInt8} {M M' : Mdl} {root : UInt32} {txt : List UInt8} {e : Nat} (h : CommitM M root txt M' e) (hR : RelP n P V M) (ht : txt.length ≤ 200) (hu : ∀ i, P.now.used i = true → i.toNat < n)
    (hb : ∃ i, P.fresh i = true ∧ P.now.written i = false) : M' = M ∧ e = 71 := by
  rcases h with ⟨h1, _⟩ | ⟨_, _, h1, h2⟩ | ⟨_, h1, _⟩
  · omega
  · exact ⟨h1, h2⟩
  · obtain ⟨i, hi1, hi2⟩ := hb
    have hin := hu i (fresh_iff.1 hi1).1
    have := h1 i.toNat (by rw [hR.lp]; exact hin)
    rw [hR.bad_eq hin, UInt32.ofNat_toNat, hi1, hi2] at this; cases this
theorem CommitM.good {n : Nat} {P : Pg} {V : UInt32 → List UInt8} {M M' : Mdl} {root : UInt32} {txt : List UInt8} {e : Nat} (h : CommitM M root txt M' e) (hR : RelP n P V M) (ht : txt.length ≤ 200)
    (hb : ∀ i, P.fresh i = true → P.now.written i = true) : M' = M.com root txt ∧ e = 0 := by
  rcases h with ⟨h1, _⟩ | ⟨_, ⟨i, h1, h2⟩, _⟩ | ⟨_, _, h1, h2⟩
  · omega
  · have hin : i < n := by rw [← hR.lp]; exact h1
    rw [hR.bad_eq hin] at h2
    simp only [Bool.and_eq_true, Bool.not_eq_true'] at h2
    rw [hb _ h2.1] at h2
    exact absurd h2.2 (by decide)
  · exact ⟨h1, h2⟩
theorem com_le (s : UInt64) : (s + 1).toNat ≤ s.toNat + 1 := by
  rw [UInt64.toNat_add]
  exact Nat.mod_le _ _
theorem AllocM.hit {n : Nat} {P : Pg} {V : UInt32 → List UInt8} {M M' : Mdl} {i e j : Nat} (h : RelP n P V M) (hA : AllocM M M' i e) (hj : j < n) (hj0 : ∀ q, q < j → P.free (UInt32.ofNat q) = false) (hj1 : P.free (UInt32.ofNat j) = true) :
    i = j ∧ e = 0 ∧ M' = { M with p := M.p.set j ⟨true, true, false, false, []⟩ } := by
  rcases hA with ⟨q1, q2, q3, q4, q5⟩ | ⟨q1, _⟩
  · have hin : i < n := by rw [← h.lp]; exact q1
    have hij : i = j := by
      rcases Nat.lt_trichotomy i j with hl | hl | hl
      · have := hj0 i hl; rw [← h.free_eq hin, q3] at this; cases this
      · exact hl
      · have := q2 j hl; rw [h.free_eq hj, hj1] at this; cases this
    subst hij
    exact ⟨rfl, q5, q4⟩
  · have := q1 j (by rw [h.lp]; exact hj)
    rw [h.free_eq hj, hj1] at this; cases this
theorem AllocM.miss {n : Nat} {P : Pg} {V : UInt32 → List UInt8} {M M' : Mdl} {i e : Nat} (h : RelP n P V M) (hA : AllocM M M' i e) (hj : ∀ q, q < n → P.free (UInt32.ofNat q) = false) : i = 0 ∧ e = 70 ∧ M' = M := by
  rcases hA with ⟨q1, _, q3, _⟩ | ⟨_, q2, q3, q4⟩
  · have hin : i < n := by rw [← h.lp]; exact q1
    have := hj i hin
    rw [← h.free_eq hin, q3] at this; cases this
  · exact ⟨q3, q4, q2⟩
end Go.Sac

namespace Go.Sac
open Go Go.ChangeShapes
theorem trodAll_stays {H : Type} {enc : TypeId × Value → H} {P : Program} (hl : laidOutB P = true) {W W' : World} (hc : Chg [] W W') :
    ∀ (ts : List TypeId) (vs : List Value) (ds : List (DataW H)) (ps : List MemPlace), ts.all (fun t => P.readableRec t && decide (t < P.types.size)) = true →
      DataW.TrodAll enc P W 0 (fun _ => true) true ts vs ds ps → (∀ p ∈ ps, p.block < W.heap.size) → DataW.TrodAll enc P W' 0 (fun b => decide (b < W.heap.size)) true ts vs ds ps := by
  intro ts
  induction ts with
  | nil => intro vs ds ps _ h _; cases vs <;> cases ds <;> first | exact h | exact h.elim
  | cons t ts ih =>
    intro vs ds ps hr h hlt
    obtain ⟨v, vs', d, ds', p, q, rfl, rfl, rfl, h1, h2⟩ := trodAll_cons h
    simp only [List.all_cons, Bool.and_eq_true, decide_eq_true_eq] at hr
    have hp : ∀ x ∈ p, x.block < W.heap.size := fun x hx => hlt x (by simp [hx])
    refine ⟨p, q, WideElems.Trod_stays hl hr.1.1 hr.1.2 h1 (fun x hx => ?_) (fun x hx => by simpa using hp x hx), ih _ _ _ (by simpa using hr.2) h2 (fun x hx => hlt x (by simp [hx])), rfl⟩
    have hb := hp x hx
    cases x with
    | cell b o => exact World.cell?_of_block (w := W) (hc.2.1 b hb (by simp))
    | map b => exact hc.2.1 b hb (by simp)
theorem Chg.keptBut {W W' : World} (hc : Chg [] W W') (may : MemPlace → Prop) : W.keptBut W' may := by
  refine ⟨hc.2.2.1, hc.2.2.2, fun i hi => ?_⟩
  have h := hc.2.1 i hi (by simp)
  rw [h]
  split
  · rename_i h1 h2
    rw [h1] at h2
    simp only [Option.some.injEq, Obj.cells.injEq] at h2
    obtain ⟨rfl, rfl, rfl⟩ := h2
    exact ⟨rfl, rfl, rfl, fun _ _ => rfl⟩
  · rename_i h1 h2
    rw [h1] at h2
    simp only [Option.some.injEq, Obj.map.injEq] at h2
    exact .inr ⟨h2.1.symm, h2.2.symm⟩
  · rfl
theorem law_calls {H : Type} {enc : TypeId × Value → H} {P : Program} {f : FuncId} {fn : Func} {s : ChangeSpec} {apart : Bool} {W : World} {args : Array Value} {ds gs : List (DataW H)} {before : List MemPlace} {bt : TypeId}
    (hl : laidOutB P = true) (hr : fn.params.toList.all (fun t => P.readableRec t && decide (t < P.types.size)) = true) (hrt : fn.resultTypes = #[bt]) (hbt : P.underlying bt = some .bool) (hv : s.vars = [])
    (hs : s.fn H (ds ++ gs) = { results := [.lit (.bool true)], args := ds }) (hW : DataW.Whole enc P fn.params.toList s.vars apart W args.toList ds gs before)
    (hc : Ret P f args W fun v W' => v = .bool true ∧ Chg [] W W') :
    Calls P f args W fun e W' => ∃ v, e = .returned v ∧ s.post enc P fn apart true false false W args v W' := by
  refine Calls.mono hc ?_
  rintro e W' ⟨v, rfl, rfl, hch⟩
  have hlt := hW.lt
  obtain ⟨p, q, hA, hV, rfl, hz, hn⟩ := id hW
  rw [hv] at hV
  obtain ⟨rfl, rfl⟩ := trodVars_none hV
  have hA' := trodAll_stays hl hch _ _ _ _ hr hA (fun x hx => hlt x (by simp [hx]))
  refine ⟨_, rfl, ds, [], p ++ [], [], p, [], hW, ?_, ?_, ?_, hch.keptBut _, fun h => by cases h⟩
  · rw [hs, hrt]
    refine ⟨[], [], ⟨1, ?_⟩, rfl, rfl⟩
    simp [Value.cells, DataW.trod, hbt]
  · rw [hs]; exact hA'
  · rw [hs, hv]; rfl
def RdF (P : Program) (t : TypeId) (α : Type) [Flat α] (ok : World → α → Prop) : Prop :=
  ∀ {H : Type} {enc : TypeId × Value → H} {w : World} {base : Nat} {sp : Nat → Bool} {held : Bool} {fuel : Nat} {cs : List Value} {x : DataW H × List MemPlace},
    DataW.trod enc P w base sp held fuel t cs = some x → ∃ a : α, cs = Flat.enc a ∧ ok w a
def okI (_ : World) (n : Int) : Prop := -9223372036854775808 ≤ n ∧ n < 9223372036854775808
def okT {α : Type} (_ : World) (_ : α) : Prop := True
theorem rd_u8 {P : Program} {t : TypeId} (ht : P.underlying t = some (.int .u8)) : RdF P t UInt8 okT := by
  intro H enc w base sp held fuel cs x h
  obtain ⟨n, rfl, _, hw⟩ := DataW.trod_int ht h
  have hw : 0 ≤ n ∧ n ≤ 255 := by
    simp only [Lit.wf, Bool.and_eq_true, decide_eq_true_eq] at hw
    exact hw
  refine ⟨UInt8.ofNat n.toNat, ?_, trivial⟩
  show [Value.int .u8 n] = [.int .u8 ((UInt8.ofNat n.toNat).toNat : Int)]
  rw [UInt8.toNat_ofNat']
  congr 2
  omega
theorem rd_u32 {P : Program} {t : TypeId} (ht : P.underlying t = some (.int .u32)) : RdF P t UInt32 okT := by
  intro H enc w base sp held fuel cs x h
  obtain ⟨n, rfl, _, hw⟩ := DataW.trod_int ht h
  have hw : 0 ≤ n ∧ n ≤ 4294967295 := by
    simp only [Lit.wf, Bool.and_eq_true, decide_eq_true_eq] at hw
    exact hw
  refine ⟨UInt32.ofNat n.toNat, ?_, trivial⟩
  show [Value.int .u32 n] = [.int .u32 ((UInt32.ofNat n.toNat).toNat : Int)]
  rw [UInt32.toNat_ofNat']
  congr 2
  omega
theorem rd_i64 {P : Program} {t : TypeId} (ht : P.underlying t = some (.int .i64)) : RdF P t Int okI := by
  intro H enc w base sp held fuel cs x h
  obtain ⟨n, rfl, _, hw⟩ := DataW.trod_int ht h
  have hw : -9223372036854775808 ≤ n ∧ n ≤ 9223372036854775807 := by
    simp only [Lit.wf, Bool.and_eq_true, decide_eq_true_eq] at hw
    exact hw
  exact ⟨n, rfl, by unfold okI; omega⟩
theorem list_of_fun {α : Type} (p : Nat → α → Prop) : ∀ n : Nat, (∀ i, i < n → ∃ a, p i a) → ∃ l : List α, l.length = n ∧ ∀ i a, l[i]? = some a → p i a := by
  intro n
  induction n with
  | zero => intro _; exact ⟨[], rfl, by simp⟩
  | succ n ih =>
    intro h
    obtain ⟨l, hl, hp⟩ := ih (fun i hi => h i (by omega))
    obtain ⟨a, ha⟩ := h n (by omega)
    refine ⟨l ++ [a], by simp [hl], fun i b hb => ?_⟩
    by_cases hi : i < n
    · rw [List.getElem?_append_left (by omega)] at hb; exact hp i b hb
    · rw [List.getElem?_append_right (by omega)] at hb
      have : i - l.length = 0 := by
        cases hk : i - l.length with
        | zero => rfl
        | succ k => rw [hk] at hb; simp at hb
      rw [this] at hb
      simp at hb
      subst hb
      obtain rfl : i = n := by omega
      exact ha
theorem open_sl {α : Type} [Flat α] {ok : World → α → Prop} {P : Program} {H : Type} {enc : TypeId × Value → H} {W : World} {base b0 : Nat} {r : Reach} {t te : TypeId} {v : Value} {d : DataW H} {ps : List MemPlace} {sp : Nat → Bool} {held : Bool}
    (R : RdF P te α ok) (ht : P.underlying t = some (.slice te)) (hc : P.cellsOf te = Flat.sz α) (hval : Value.okWide P W r b0 t v) (hd : DataW.Trod enc P W base sp held t v d ps) :
    ∃ l : List α, Sl W v l ∧ ∀ a ∈ l, ok W a := by
  obtain ⟨p0, len0, cap0, rfl⟩ := WideShapes.okWide_slice ht hval
  obtain ⟨fuel, hf⟩ := hd
  rcases DataW.trod_slice ht hf with ⟨hcs, _⟩ | ⟨a, len, cap, elems, rest, n, _, hcs, _, hb, hlc, _, hlen, hel, _, _⟩
  · simp only [Value.cells, List.cons.injEq, Value.slice.injEq, and_true] at hcs
    obtain ⟨rfl, rfl, rfl⟩ := hcs
    exact ⟨[], Sl.nil W 0, by simp⟩
  · simp only [Value.cells, List.cons.injEq, Value.slice.injEq, and_true] at hcs
    obtain ⟨rfl, rfl, rfl⟩ := hcs
    have hok : W.has P r b0 a te cap0 := by
      unfold Value.okWide at hval
      rw [ht] at hval
      simp only [Cell.okWide, Cell.ok, ht] at hval
      exact hval.2.2
    obtain ⟨_, hspot, row, cells, hshape, _⟩ := hok
    obtain ⟨ab, ao, asp⟩ := a
    simp only at hspot hshape
    subst hspot
    obtain ⟨c, fr, hblk⟩ : ∃ c fr, W.heap[ab]? = some (.cells c row fr) := by
      unfold World.shape? at hshape
      split at hshape
      · rename_i c elem fr hb'
        simp only [Option.some.injEq, Prod.mk.injEq] at hshape
        exact ⟨c, fr, by rw [hb', hshape.1]⟩
      · cases hshape
    obtain ⟨l, hl, hp⟩ := list_of_fun (α := α) (fun i a => W.cells? base ((⟨ab, ao, none⟩ : Addr).add (i * P.cellsOf te)) (P.cellsOf te) = some (Flat.enc a) ∧ ok W a) len0 (fun i hi => by
      have h := hel i hi
      obtain ⟨y, hy⟩ : ∃ y, elems[i]? = some y := ⟨elems[i], List.getElem?_eq_getElem (by omega)⟩
      rw [hy] at h
      obtain ⟨cs, h1, h2⟩ := Option.bind_eq_some_iff.1 h
      obtain ⟨a, rfl, ha⟩ := R h2
      exact ⟨a, h1, ha⟩)
    refine ⟨l, ⟨some ⟨ab, ao, none⟩, cap0, by rw [hl], by omega, ⟨rfl, c, row, fr, hblk, ?_⟩⟩, fun a ha => ?_⟩
    · intro j x hx
      have hpos : 0 < Flat.sz α := by
        rcases Nat.eq_zero_or_pos (Flat.sz α) with h0 | h0
        · have hj := (List.getElem?_eq_some_iff.1 hx).1
          rw [encL_length, h0] at hj; omega
        · exact h0
      have hj := (List.getElem?_eq_some_iff.1 hx).1
      rw [encL_length] at hj
      have hjd : j = j / Flat.sz α * Flat.sz α + j % Flat.sz α := by rw [Nat.mul_comm]; exact (Nat.div_add_mod j _).symm
      have hi : j / Flat.sz α < l.length := Nat.div_lt_of_lt_mul (by rw [Nat.mul_comm]; exact hj)
      have hm : j % Flat.sz α < Flat.sz α := Nat.mod_lt _ hpos
      have hli : l[j / Flat.sz α]? = some l[j / Flat.sz α] := List.getElem?_eq_getElem hi
      rw [hjd, encL_at l hli _ hm] at hx
      obtain ⟨h1, _⟩ := hp _ _ hli
      rw [hc] at h1
      obtain ⟨_, _, hcell⟩ := World.cells?_some h1
      have := (hcell (j % Flat.sz α) hm).trans hx
      rw [addr_add, addr_add] at this
      simp only [World.cell?, hblk] at this
      rw [hjd]
      simpa [Nat.add_assoc] using this
    · obtain ⟨i, hi, rfl⟩ := List.mem_iff_getElem.1 ha
      exact (hp i _ (List.getElem?_eq_getElem hi)).2
end Go.Sac

namespace Go.Sac
open Go Go.ChangeShapes
abbrev SliceV := { v : Value // ∃ p n c, v = .slice p n c }
instance : Flat SliceV := ⟨1, fun v => [v.1], fun _ => rfl, fun v x h => by
  simp only [List.mem_singleton] at h; subst h
  obtain ⟨v, p, n, c, rfl⟩ := v; rfl⟩
theorem rd_sl {α : Type} [Flat α] {ok : World → α → Prop} {P : Program} {t te : TypeId} (R : RdF P te α ok) (ht : P.underlying t = some (.slice te)) (hc : P.cellsOf te = Flat.sz α) (hpos : 0 < Flat.sz α) :
    RdF P t SliceV (fun w v => ∃ l : List α, SlE w v.1 l ∧ ∀ a ∈ l, ok w a) := by
  intro H enc W base sp held fuel cs x h
  rcases DataW.trod_slice ht h with ⟨hcs, _⟩ | ⟨a, len, cap, elems, rest, n, _, hcs, _, hb, hlc, _, hlen, hel, _, _⟩
  · exact ⟨⟨.slice none 0 0, _, _, _, rfl⟩, hcs, [], .inl (Sl.nil W 0), by simp⟩
  · refine ⟨⟨.slice (some a) len cap, _, _, _, rfl⟩, hcs, ?_⟩
    obtain ⟨l, hl, hp⟩ := list_of_fun (α := α) (fun i x => W.cells? base (a.add (i * P.cellsOf te)) (P.cellsOf te) = some (Flat.enc x) ∧ ok W x) len (fun i hi => by
      have h := hel i hi
      obtain ⟨y, hy⟩ : ∃ y, elems[i]? = some y := ⟨elems[i], List.getElem?_eq_getElem (by omega)⟩
      rw [hy] at h
      obtain ⟨cs, h1, h2⟩ := Option.bind_eq_some_iff.1 h
      obtain ⟨a, rfl, ha⟩ := R h2
      exact ⟨a, h1, ha⟩)
    refine ⟨l, ?_, fun x hx => ?_⟩
    · by_cases h0 : len = 0
      · subst h0
        exact .inr ⟨List.eq_nil_of_length_eq_zero hl, _, _, rfl⟩
      · left
        obtain ⟨ab, ao, asp⟩ := a
        have hl0 : l[0]? = some l[0] := List.getElem?_eq_getElem (by omega)
        obtain ⟨h1, _⟩ := hp 0 _ hl0
        obtain ⟨_, hle, hcell⟩ := World.cells?_some h1
        have hc0 := hcell 0 (by rw [hc]; exact hpos)
        have hex : ∃ x, (Flat.enc l[0])[0]? = some x := ⟨(Flat.enc l[0])[0]'(by rw [Flat.len]; exact hpos), List.getElem?_eq_getElem _⟩
        obtain ⟨x0, hx0⟩ := hex
        rw [hx0] at hc0
        have hz : ((⟨ab, ao, asp⟩ : Addr).add (0 * P.cellsOf te)).add 0 = ⟨ab, ao, asp⟩ := by simp [Addr.add]
        rw [hz] at hc0
        have hsp : asp = none := by
          cases asp with
          | none => rfl
          | some s =>
            unfold World.cell? at hc0
            simp only at hc0
            split at hc0
            · simp at hc0
            · cases hc0
        subst hsp
        obtain ⟨c, row, fr, hblk⟩ : ∃ c row fr, W.heap[ab]? = some (.cells c row fr) := by
          unfold World.cell? at hc0
          simp only at hc0
          split at hc0
          · rename_i c e fr hb'; exact ⟨c, e, fr, hb'⟩
          · cases hc0
        refine ⟨some ⟨ab, ao, none⟩, cap, by rw [hl], by omega, ⟨rfl, c, row, fr, hblk, ?_⟩⟩
        intro j x hx
        have hj := (List.getElem?_eq_some_iff.1 hx).1
        rw [encL_length] at hj
        have hjd : j = j / Flat.sz α * Flat.sz α + j % Flat.sz α := by rw [Nat.mul_comm]; exact (Nat.div_add_mod j _).symm
        have hi : j / Flat.sz α < l.length := Nat.div_lt_of_lt_mul (by rw [Nat.mul_comm]; exact hj)
        have hm : j % Flat.sz α < Flat.sz α := Nat.mod_lt _ hpos
        have hli : l[j / Flat.sz α]? = some l[j / Flat.sz α] := List.getElem?_eq_getElem hi
        rw [hjd, encL_at l hli _ hm] at hx
        obtain ⟨h1, _⟩ := hp _ _ hli
        rw [hc] at h1
        obtain ⟨_, _, hcell⟩ := World.cells?_some h1
        have := (hcell (j % Flat.sz α) hm).trans hx
        rw [addr_add, addr_add] at this
        simp only [World.cell?, hblk] at this
        rw [hjd]
        simpa [Nat.add_assoc] using this
    · obtain ⟨i, hi, rfl⟩ := List.mem_iff_getElem.1 hx
      exact (hp i _ (List.getElem?_eq_getElem hi)).2
structure StepV where
  what : Int
  i : Int
  kek : UInt8
  key : UInt8
  power : Int
  ch : SliceV
instance : Flat StepV := ⟨6, fun s => [.int .i64 s.what, .int .i64 s.i, .int .u8 s.kek.toNat, .int .u8 s.key.toNat, .int .i64 s.power, s.ch.1], fun _ => rfl, fun s x h => by
  obtain ⟨a, b, c, d, e, v, p, n, c', rfl⟩ := s
  simp only [List.mem_cons, List.not_mem_nil, or_false] at h
  rcases h with rfl | rfl | rfl | rfl | rfl | rfl <;> rfl⟩
def step0 : StepV := ⟨0, 0, 0, 0, 0, ⟨.slice none 0 0, _, _, _, rfl⟩⟩
def okStep (w : World) (s : StepV) : Prop := okI w s.what ∧ okI w s.i ∧ okI w s.power ∧ ∃ l : List UInt8, SlE w s.ch.1 l
theorem open_u8 {P : Program} {H : Type} {enc : TypeId × Value → H} {W : World} {base b0 : Nat} {r : Reach} {t : TypeId} {v : Value} {d : DataW H} {ps : List MemPlace} {sp : Nat → Bool} {held : Bool}
    (ht : P.underlying t = some (.int .u8)) (hval : Value.okWide P W r b0 t v) (hd : DataW.Trod enc P W base sp held t v d ps) : ∃ a : UInt8, v = .int .u8 a.toNat := by
  obtain ⟨n, rfl, _, _, hw⟩ := open_int ht hval hd
  have hw : 0 ≤ n ∧ n ≤ 255 := by
    simp only [Lit.wf, Bool.and_eq_true, decide_eq_true_eq] at hw
    exact hw
  refine ⟨UInt8.ofNat n.toNat, ?_⟩
  rw [UInt8.toNat_ofNat']
  congr 1
  omega
theorem arr_of {args : Array Value} {l : List Value} (h : args.toList = l) : args = l.toArray := by subst h; rfl
end Go.Sac

namespace Go.Sac
open Go Go.ChangeShapes
structure Step7 where
  what : Int
  i : Int
  b : SliceV
  root : UInt32
  txt : List UInt8
  ch : SliceV
instance : Flat Step7 := ⟨6, fun s => [.int .i64 s.what, .int .i64 s.i, s.b.1, .int .u32 s.root.toNat, str s.txt, s.ch.1], fun _ => rfl, fun s x h => by
  obtain ⟨a, b, ⟨v, p, n, c', rfl⟩, d, e, ⟨v', p', n', c'', rfl⟩⟩ := s
  simp only [List.mem_cons, List.not_mem_nil, or_false] at h
  rcases h with rfl | rfl | rfl | rfl | rfl | rfl <;> rfl⟩
def step70 : Step7 := ⟨0, 0, ⟨.slice none 0 0, _, _, _, rfl⟩, 0, [], ⟨.slice none 0 0, _, _, _, rfl⟩⟩
def okStep7 (w : World) (s : Step7) : Prop := okI w s.what ∧ okI w s.i ∧ (∃ l : List UInt8, SlE w s.b.1 l) ∧ s.txt.length ≤ maxLen ∧ ∃ l : List UInt8, SlE w s.ch.1 l
theorem rd_step7 {P : Program} {t ti tb tc tr ts : TypeId} {f0 f1 f2 f3 f4 f5 : Field} (ht : P.underlying t = some (.struct #[f0, f1, f2, f3, f4, f5])) (hn : P.cellsOf t = 6)
    (h0 : f0.type = ti) (h1 : f1.type = ti) (h2 : f2.type = tc) (h3 : f3.type = tr) (h4 : f4.type = ts) (h5 : f5.type = tc)
    (o0 : f0.offset = 0) (o1 : f1.offset = 1) (o2 : f2.offset = 2) (o3 : f3.offset = 3) (o4 : f4.offset = 4) (o5 : f5.offset = 5)
    (ci : P.cellsOf ti = 1) (cb : P.cellsOf tb = 1) (cr : P.cellsOf tr = 1) (cs' : P.cellsOf ts = 1) (cc : P.cellsOf tc = 1) (hi : P.underlying ti = some (.int .i64)) (hb : P.underlying tb = some (.int .u8))
    (hr : P.underlying tr = some (.int .u32)) (hs : P.underlying ts = some .string) (hc : P.underlying tc = some (.slice tb)) :
    RdF P t Step7 okStep7 := by
  intro H enc w base sp held fuel cs x h
  obtain ⟨xs, n, rfl, _, hlen, hxl, hf⟩ := DataW.trod_struct ht h
  rw [hn] at hlen
  obtain ⟨a, cs, rfl⟩ := List.exists_cons_of_length_eq_add_one (l := cs) (n := 5) hlen
  obtain ⟨b, cs, rfl⟩ := List.exists_cons_of_length_eq_add_one (l := cs) (by simpa using hlen)
  obtain ⟨c, cs, rfl⟩ := List.exists_cons_of_length_eq_add_one (l := cs) (by simpa using hlen)
  obtain ⟨d, cs, rfl⟩ := List.exists_cons_of_length_eq_add_one (l := cs) (by simpa using hlen)
  obtain ⟨e, cs, rfl⟩ := List.exists_cons_of_length_eq_add_one (l := cs) (by simpa using hlen)
  obtain ⟨f, cs, rfl⟩ := List.exists_cons_of_length_eq_add_one (l := cs) (by simpa using hlen)
  obtain rfl : cs = [] := List.eq_nil_of_length_eq_zero (by simpa using hlen)
  have hx : ∀ i, i < 6 → ∃ y, xs[i]? = some y := fun i hi => ⟨xs[i]'(by rw [hxl]; exact hi), List.getElem?_eq_getElem _⟩
  have e0 := hf 0 f0 rfl
  have e1 := hf 1 f1 rfl
  have e2 := hf 2 f2 rfl
  have e3 := hf 3 f3 rfl
  have e4 := hf 4 f4 rfl
  have e5 := hf 5 f5 rfl
  rw [h0, o0, ci] at e0
  rw [h1, o1, ci] at e1
  rw [h2, o2, cc] at e2
  rw [h3, o3, cr] at e3
  rw [h4, o4, cs'] at e4
  rw [h5, o5, cc] at e5
  obtain ⟨y0, hy0⟩ := hx 0 (by decide)
  obtain ⟨y1, hy1⟩ := hx 1 (by decide)
  obtain ⟨y2, hy2⟩ := hx 2 (by decide)
  obtain ⟨y3, hy3⟩ := hx 3 (by decide)
  obtain ⟨y4, hy4⟩ := hx 4 (by decide)
  obtain ⟨y5, hy5⟩ := hx 5 (by decide)
  obtain ⟨v0, k0, ok0⟩ := rd_i64 hi (e0.trans hy0)
  obtain ⟨v1, k1, ok1⟩ := rd_i64 hi (e1.trans hy1)
  obtain ⟨v2, k2, l2, hl2, _⟩ := rd_sl (rd_u8 hb) hc (by rw [cb]; rfl) (by decide) (e2.trans hy2)
  obtain ⟨v3, k3, _⟩ := rd_u32 hr (e3.trans hy3)
  obtain ⟨s4, k4, _, ok4⟩ := DataW.trod_string hs (e4.trans hy4)
  obtain ⟨v5, k5, l, hl, _⟩ := rd_sl (rd_u8 hb) hc (by rw [cb]; rfl) (by decide) (e5.trans hy5)
  refine ⟨⟨v0, v1, v2, v3, s4.data.toList, v5⟩, ?_, ok0, ok1, ⟨l2, hl2⟩, by rw [Array.length_toList]; exact ok4, l, hl⟩
  have q0 : a = .int .i64 v0 := by injection k0
  have q1 : b = .int .i64 v1 := by injection k1
  have q2 : c = v2.1 := by injection k2
  have q3 : d = .int .u32 v3.toNat := by injection k3
  have q4 : e = .string s4 := by injection k4
  have q5 : f = v5.1 := by injection k5
  rw [q0, q1, q2, q3, q4, q5]
  rfl
end Go.Sac

