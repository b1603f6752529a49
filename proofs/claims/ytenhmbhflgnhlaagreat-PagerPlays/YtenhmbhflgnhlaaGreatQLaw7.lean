/- every row of calls, crashes, the power going within a commit: what each tells -/
import Derived.Test.YtenhmbhflgnhlaaGreatQPager17
import Derived.Test.YtenhmbhflgnhlaaGreatQSector2
import Derived.Test.YtenhmbhflgnhlaaGreatSac1
namespace Go.Proofs.YtenhmbhflgnhlaaGreat
open Go Go.Sac
set_option maxRecDepth 100000
set_option maxHeartbeats 4000000
def PS (w0 w : World) (b : Nat) (kv : Value) (r : Nat) (R : PR) (n k : Nat) (key : List UInt8) (ds : DSt) (P : Pg) (V : UInt32 → List UInt8) : Prop :=
  RunD w0 w b kv r ds ∧ PagerAt w R b key P ∧ (∀ x ∈ PF R, w0.heap.size ≤ x ∧ x ∉ DF b kv r) ∧ PInv n k key ds P V ∧ key.length = 32
section
variable {w0 w : World} {b r n k : Nat} {kv : Value} {R : PR} {key : List UInt8} {ds : DSt} {P : Pg} {V : UInt32 → List UInt8}
theorem PS.ge (h : PS w0 w b kv r R n k key ds P V) : ∀ x ∈ PF R ++ DF b kv r, w0.heap.size ≤ x := by
  intro x hx
  rcases List.mem_append.1 hx with hx | hx
  · exact (h.2.2.1 x hx).1
  · exact h.1.2.2 x hx
theorem PS.lt (h : PS w0 w b kv r R n k key ds P V) : ∀ x ∈ PF R ++ DF b kv r, x < w.heap.size := by
  intro x hx
  rcases List.mem_append.1 hx with hx | hx
  · exact h.2.1.lt x hx
  · exact h.1.1.lt x hx
theorem PS.chg {w' : World} {S : List Nat} (h : PS w0 w b kv r R n k key ds P V) (hm : Chg S w w') (hn : ∀ x ∈ PF R ++ DF b kv r, x ∉ S) (hs : ∀ x ∈ S, w0.heap.size ≤ x) : PS w0 w' b kv r R n k key ds P V := by
  obtain ⟨hd, h2, h3, h4, h5⟩ := h
  exact ⟨⟨hd.1.chg hm (fun x hx => hn x (List.mem_append_right _ hx)), hd.2.1.t0 hm hs, hd.2.2⟩, h2.chg hm (fun x hx => hn x (List.mem_append_left _ hx)), h3, h4, h5⟩
theorem PS.chg0 {w' : World} (h : PS w0 w b kv r R n k key ds P V) (hm : Chg [] w w') : PS w0 w' b kv r R n k key ds P V := h.chg hm (by simp) (by simp)
theorem PS.now (h : PS w0 w b kv r R n k key ds P V) : Chg [] w0 w := h.1.2.1
theorem PS.many (h : PS w0 w b kv r R n k key ds P V) : manyN ds.kept.length = n := h.2.2.2.1.ok.many
theorem PS.small (h : PS w0 w b kv r R n k key ds P V) : ds.kept.length ≤ 4000 := h.2.2.2.1.ok.small
theorem PS.apart (h : PS w0 w b kv r R n k key ds P V) : ∀ x ∈ PF R, x ∉ DF b kv r := fun x hx => (h.2.2.1 x hx).2
theorem PS.st (h : PS w0 w b kv r R n k key ds P V) : ds.steps + 100 ≤ 1000000000000 := by
  have h1 := h.2.2.2.1.ok.steps
  have h2 := h.2.2.2.1.few
  omega
theorem new_run7 (w0 w : World) (n : Nat) (hn : n ≤ 4000) (h0 : Chg [] w0 w) :
    Ret Tryz.prog 11 #[.int .i64 n] w fun v w' => ∃ b kv r, v = .pointer (some ⟨b, 0, none⟩) ∧ RunD w0 w' b kv r (dsN n) ∧ Chg [] w w' ∧ ∀ x ∈ DF b kv r, w.heap.size ≤ x := by
  refine (SNew_ok w n hn).mono ?_
  rintro v w' ⟨b, kv, r, rfl, hd, hc, hF⟩
  exact ⟨b, kv, r, rfl, ⟨hd, h0.tr hc, fun x hx => Nat.le_trans h0.1 (hF x hx)⟩, hc, hF⟩
theorem format_run (V : UInt32 → List UInt8) (hd : RunD w0 w b kv r (dsN (32 + 8 * n))) (hn : 4 ≤ n ∧ n ≤ 400) (hk : key.length = 32) :
    Ret Tryz.prog 61 #[.pointer (some ⟨b, 0, none⟩), arrV key] w fun v w' => ∃ R a ds, v = .tuple #[.pointer (some ⟨R.pb, 0, none⟩), .int .i64 0] ∧ PS w0 w' b kv r R n 1 key ds (pgZ a) V ∧ Chg (DF b kv r) w w' ∧ ∀ x ∈ PF R, w.heap.size ≤ x := by
  obtain ⟨z1, z2, z3⟩ := PInv.zero key n hn V
  have hkl : (dsN (32 + 8 * n)).kept.length = 32 + 8 * n := List.length_replicate
  have hlt := hd.1.lt
  have k1 := hd.2.1.1
  refine (Format_ok w b r kv (dsN (32 + 8 * n)) key hk hd.1 (dsN_fine _ (by omega)) rfl (by omega) (by show 0 + 60 ≤ _; omega)).mono ?_
  rintro v w' ⟨⟨e, P, ds', hF, hd', hv⟩, hc⟩
  rcases hF with ⟨q, _⟩ | ⟨_, i, hi, _, q, _⟩ | ⟨_, _, rfl, rfl, rfl⟩
  · exfalso; rw [manyN_of hkl hn.2] at q; omega
  · exact absurd (z1 (i + 1) (by omega)) q
  · rcases hv with ⟨q, _⟩ | ⟨P', R, hP', rfl, hP, hR⟩
    · cases q
    · cases hP'
      rw [z2] at hP
      exact ⟨R, _, _, rfl, ⟨⟨hd', hd.2.1.t0 hc hd.2.2, hd.2.2⟩, hP, fun x hx => ⟨by have := hR x hx; omega, fun hh => by have := hR x hx; have := hlt x hh; omega⟩, z3, hk⟩, hc, hR⟩
theorem format_small {n : Nat} (hd : RunD w0 w b kv r (dsN n)) (hn : n < 64) (hk : key.length = 32) :
    Ret Tryz.prog 61 #[.pointer (some ⟨b, 0, none⟩), arrV key] w fun v w' => v = .tuple #[.pointer none, .int .i64 70] ∧ Chg (DF b kv r) w w' := by
  have hkl : (dsN n).kept.length = n := List.length_replicate
  refine (Format_ok w b r kv (dsN n) key hk hd.1 (dsN_fine _ (by omega)) rfl (by omega) (by show 0 + 60 ≤ _; omega)).mono ?_
  rintro v w' ⟨⟨e, P, ds', hF, hd', hv⟩, hc⟩
  have hm : manyN (dsN n).kept.length < 4 := by rw [hkl]; unfold manyN; omega
  rcases hF with ⟨_, rfl, rfl, _⟩ | ⟨q, _⟩ | ⟨q, _⟩
  · rcases hv with ⟨_, rfl⟩ | ⟨P', R, hP', _⟩
    · exact ⟨rfl, hc⟩
    · cases hP'
  · omega
  · omega
theorem len_run (h : PS w0 w b kv r R n k key ds P V) :
    Ret Tryz.prog 31 #[.pointer (some ⟨R.pb, 0, none⟩)] w fun v w' => v = .int .i64 (n : Int) ∧ PS w0 w' b kv r R n k key ds P V ∧ Chg [] w w' := by
  refine (PLen_ok w R b r kv ds key h.2.2.2.2 P h.2.1 h.1.1 h.small).mono ?_
  rintro v w' ⟨rfl, hh⟩
  rw [h.many]
  exact ⟨rfl, h.chg0 (Chg.heap hh), Chg.heap hh⟩
theorem room_run (h : PS w0 w b kv r R n k key ds P V) :
    Ret Tryz.prog 32 #[.pointer (some ⟨R.pb, 0, none⟩)] w fun v w' => v = .int .i64 (roomN P n) ∧ PS w0 w' b kv r R n k key ds P V ∧ Chg [] w w' := by
  refine (Room_ok w R b r kv ds key h.2.2.2.2 P h.2.1 h.1.1 h.small n h.many).mono ?_
  rintro v w' ⟨rfl, hh⟩
  exact ⟨rfl, h.chg0 (Chg.heap hh), Chg.heap hh⟩
theorem root_run (h : PS w0 w b kv r R n k key ds P V) :
    Ret Tryz.prog 37 #[.pointer (some ⟨R.pb, 0, none⟩)] w fun v w' => v = .int .u32 P.now.root.toNat ∧ PS w0 w' b kv r R n k key ds P V ∧ Chg [] w w' := by
  refine (Root_ok w R b key P h.2.1).mono ?_
  rintro v w' ⟨rfl, hh⟩
  exact ⟨rfl, h.chg0 (Chg.heap hh), Chg.heap hh⟩
theorem meta_run (h : PS w0 w b kv r R n k key ds P V) :
    Ret Tryz.prog 38 #[.pointer (some ⟨R.pb, 0, none⟩)] w fun v w' => v = str P.now.txt ∧ PS w0 w' b kv r R n k key ds P V ∧ Chg [] w w' := by
  refine (Meta_ok w R b key P h.2.1).mono ?_
  rintro v w' ⟨rfl, hh⟩
  exact ⟨rfl, h.chg0 (Chg.heap hh), Chg.heap hh⟩
theorem PS.same {w' : World} (h : PS w0 w b kv r R n k key ds P V) (hd : DiskAt w' b kv r ds) (hc : Chg (DF b kv r) w w') : PS w0 w' b kv r R n k key ds P V :=
  ⟨⟨hd, h.1.2.1.t0 hc h.1.2.2, h.1.2.2⟩, h.2.1.chg hc h.apart, h.2.2⟩
theorem mono_u {S : List Nat} (R : PR) (b : Nat) (kv : Value) (r : Nat) {w w' : World} (hc : Chg S w w') (hS : ∀ x ∈ S, x ∈ PF R) : Chg (PF R ++ DF b kv r) w w' := hc.mono (fun x hx _ => List.mem_append_left _ (hS x hx))
theorem PS.step {w' : World} {P' : Pg} {k' : Nat} {ds' : DSt} {V' : UInt32 → List UInt8} (h : PS w0 w b kv r R n k key ds P V) (hd : DiskAt w' b kv r ds') (hP : PagerAt w' R b key P') (hI : PInv n k' key ds' P' V') (hc : Chg (PF R ++ DF b kv r) w w') : PS w0 w' b kv r R n k' key ds' P' V' :=
  ⟨⟨hd, h.1.2.1.t0 hc h.ge, h.1.2.2⟩, hP, h.2.2.1, hI, h.2.2.2.2⟩
theorem alloc_at (h : PS w0 w b kv r R n k key ds P V) (i : Nat) (hi : i < n) (h0 : ∀ j, j < i → P.free (UInt32.ofNat j) = false) (h1 : P.free (UInt32.ofNat i) = true) :
    Ret Tryz.prog 21 #[.pointer (some ⟨R.pb, 0, none⟩)] w fun v w' => v = .tuple #[.int .u32 (UInt32.ofNat i).toNat, .int .i64 0] ∧ PS w0 w' b kv r R n k key ds { P with now := { P.now with used := addPg P.now.used (UInt32.ofNat i) } } V ∧ Chg (PF R ++ DF b kv r) w w' := by
  have hn := h.2.2.2.1.ok.size
  have hap := h.apart
  refine (Alloc_ok w R b r kv ds key h.2.2.2.2 P h.2.1 h.1.1 h.small n h.many).mono ?_
  rintro v w' ⟨⟨P', hA, hP⟩, hc⟩
  have hd := h.1.1.chg hc (fun x hx hh => by simp at hh; subst hh; exact hap R.u (by simp [PF]) hx)
  have hc2 := mono_u R b kv r hc (by simp [PF])
  rcases hA with ⟨q, _⟩ | ⟨_, q, _⟩ | ⟨_, i', hi', q0, q1, rfl, rfl⟩
  · rw [h.2.2.2.1.ok.broken] at q; cases q
  · rw [q i hi] at h1; cases h1
  · have : i' = i := by
      rcases Nat.lt_trichotomy i' i with hh | hh | hh
      · rw [h0 i' hh] at q1; cases q1
      · exact hh
      · rw [q0 i hh] at h1; cases h1
    subst this
    have hI := h.2.2.2.1.alloc (UInt32.ofNat i') (by rw [UInt32.toNat_ofNat']; omega)
    exact ⟨rfl, h.step hd hP hI hc2, hc2⟩
theorem alloc_none (h : PS w0 w b kv r R n k key ds P V) (h0 : ∀ j, j < n → P.free (UInt32.ofNat j) = false) :
    Ret Tryz.prog 21 #[.pointer (some ⟨R.pb, 0, none⟩)] w fun v w' => v = .tuple #[.int .u32 0, .int .i64 70] ∧ PS w0 w' b kv r R n k key ds P V ∧ Chg (PF R ++ DF b kv r) w w' := by
  have hap := h.apart
  refine (Alloc_ok w R b r kv ds key h.2.2.2.2 P h.2.1 h.1.1 h.small n h.many).mono ?_
  rintro v w' ⟨⟨P', hA, hP⟩, hc⟩
  have hd := h.1.1.chg hc (fun x hx hh => by simp at hh; subst hh; exact hap R.u (by simp [PF]) hx)
  have hc2 := mono_u R b kv r hc (by simp [PF])
  rcases hA with ⟨q, _⟩ | ⟨_, q, rfl, rfl⟩ | ⟨_, i', hi', q0, q1, _⟩
  · rw [h.2.2.2.1.ok.broken] at q; cases q
  · exact ⟨rfl, h.step hd hP h.2.2.2.1 hc2, hc2⟩
  · rw [h0 i' hi'] at q1; cases q1
theorem write_run (h : PS w0 w b kv r R n k key ds P V) (hk : k + 1 ≤ 40000) (i : UInt32) (hi : P.fresh i = true) (lv : Value) (l : List UInt8) (hl : l.length ≤ 480) (hb : SlE w lv l) (hbb : l ≠ [] → ∀ x ∈ blkOf lv, x ∉ PF R ++ DF b kv r) :
    Ret Tryz.prog 22 #[.pointer (some ⟨R.pb, 0, none⟩), .int .u32 i.toNat, lv] w fun v w' => v = .int .i64 0 ∧ (∃ ds', PS w0 w' b kv r R n (k + 1) key ds' { P with count := P.count + 1, now := { P.now with written := addPg P.now.written i }, gens := setG P.gens i P.gen } (setV V i l)) ∧ Chg (PF R ++ DF b kv r) w w' := by
  have hst := h.st
  have hin := h.2.2.2.1.ok.used i (fresh_iff.1 hi).1
  have hsz := h.2.2.2.1.ok.size
  obtain ⟨e0, hI⟩ := h.2.2.2.1.write hk i hi l hl
  refine (Write_ok3 w R b r kv lv ds key h.2.2.2.2 P h.2.1 h.1.1 h.2.2.2.1.ok.fine (by omega) h.apart i (by omega) l hb (fun hne x hx => ⟨fun hh => hbb hne x hx (List.mem_append_left _ hh), fun hh => hbb hne x hx (List.mem_append_right _ hh)⟩)).mono ?_
  rintro v w' ⟨⟨P', ds', hW, hP, hd⟩, hc⟩
  rcases hW with ⟨q, _⟩ | ⟨_, q, _⟩ | ⟨_, _, q, _⟩ | ⟨_, _, _, rfl, rfl, rfl⟩
  · rw [h.2.2.2.1.ok.broken] at q; cases q
  · rw [hi] at q; cases q
  · omega
  · rw [if_pos e0] at hP
    exact ⟨congrArg (Value.int .i64) e0, ⟨_, h.step hd hP hI hc⟩, hc⟩
theorem write_bad (h : PS w0 w b kv r R n k key ds P V) (i : UInt32) (hi2 : i.toNat ≤ 400) (lv : Value) (l : List UInt8) (e : Int) (hi : (P.fresh i = false ∧ e = 71) ∨ (P.fresh i = true ∧ 480 < l.length ∧ e = 11)) (hb : SlE w lv l) (hbb : l ≠ [] → ∀ x ∈ blkOf lv, x ∉ PF R ++ DF b kv r) :
    Ret Tryz.prog 22 #[.pointer (some ⟨R.pb, 0, none⟩), .int .u32 i.toNat, lv] w fun v w' => v = .int .i64 e ∧ PS w0 w' b kv r R n k key ds P V ∧ Chg (PF R ++ DF b kv r) w w' := by
  have hst := h.st
  refine (Write_ok3 w R b r kv lv ds key h.2.2.2.2 P h.2.1 h.1.1 h.2.2.2.1.ok.fine (by omega) h.apart i (by omega) l hb (fun hne x hx => ⟨fun hh => hbb hne x hx (List.mem_append_left _ hh), fun hh => hbb hne x hx (List.mem_append_right _ hh)⟩)).mono ?_
  rintro v w' ⟨⟨P', ds', hW, hP, hd⟩, hc⟩
  rcases hW with ⟨q, _⟩ | ⟨_, q, rfl, rfl, rfl⟩ | ⟨_, q0, q, rfl, rfl, rfl⟩ | ⟨_, q0, q, rfl, rfl, rfl⟩
  · rw [h.2.2.2.1.ok.broken] at q; cases q
  · rcases hi with ⟨_, rfl⟩ | ⟨q2, _⟩
    · exact ⟨rfl, h.step hd hP h.2.2.2.1 hc, hc⟩
    · rw [q] at q2; cases q2
  · rcases hi with ⟨q2, _⟩ | ⟨_, _, rfl⟩
    · rw [q0] at q2; cases q2
    · exact ⟨rfl, h.step hd hP h.2.2.2.1 hc, hc⟩
  · rcases hi with ⟨q2, _⟩ | ⟨_, q2, _⟩
    · rw [q0] at q2; cases q2
    · omega
theorem read_run (h : PS w0 w b kv r R n k key ds P V) (i : UInt32) (hi : P.now.written i = true) :
    Ret Tryz.prog 29 #[.pointer (some ⟨R.pb, 0, none⟩), .int .u32 i.toNat] w fun v w' => (∃ rv, v = .tuple #[rv, .int .i64 0] ∧ Sl w' rv (V i)) ∧ PS w0 w' b kv r R n k key ds P V ∧ Chg [] w w' := by
  have hu := h.2.2.2.1.ok.written i hi
  obtain ⟨e1, e2⟩ := h.2.2.2.1.ok.read hi
  refine (Read_ok3 w R b r kv ds key h.2.2.2.2 P h.2.1 h.1.1 (fun _ => h.2.2.2.1.ok.offF) h.small i (fun q => h.2.2.2.1.ok.inn q)).mono ?_
  rintro v w' ⟨hR, hc⟩
  rcases hR with ⟨q, _⟩ | ⟨_, q, _⟩ | ⟨_, _, _, q, _⟩ | ⟨_, _, _, _, l, rv, q, rfl, hs⟩
  · rw [h.2.2.2.1.ok.broken] at q; cases q
  · rw [hu, hi] at q; rcases q with q | q <;> cases q
  · rcases q with q | q
    · exact absurd e1 q
    · rw [e2] at q; cases q
  · rw [e2] at q; cases q
    exact ⟨⟨rv, rfl, hs⟩, h.chg0 hc, hc⟩
theorem read_none (h : PS w0 w b kv r R n k key ds P V) (i : UInt32) (hi : P.now.written i = false) :
    Ret Tryz.prog 29 #[.pointer (some ⟨R.pb, 0, none⟩), .int .u32 i.toNat] w fun v w' => v = .tuple #[.slice none 0 0, .int .i64 71] ∧ PS w0 w' b kv r R n k key ds P V ∧ Chg [] w w' := by
  refine (Read_ok3 w R b r kv ds key h.2.2.2.2 P h.2.1 h.1.1 (fun _ => h.2.2.2.1.ok.offF) h.small i (fun q => h.2.2.2.1.ok.inn q)).mono ?_
  rintro v w' ⟨hR, hc⟩
  rcases hR with ⟨q, _⟩ | ⟨_, q, rfl⟩ | ⟨_, _, q, _⟩ | ⟨_, _, q, _⟩
  · rw [h.2.2.2.1.ok.broken] at q; cases q
  · exact ⟨rfl, h.chg0 hc, hc⟩
  · rw [hi] at q; cases q
  · rw [hi] at q; cases q
theorem free_run (h : PS w0 w b kv r R n k key ds P V) (i : UInt32) (hi : P.now.used i = true) :
    Ret Tryz.prog 33 #[.pointer (some ⟨R.pb, 0, none⟩), .int .u32 i.toNat] w fun v w' => v = .int .i64 0 ∧ PS w0 w' b kv r R n k key ds { P with now := { P.now with used := delPg P.now.used i, written := delPg P.now.written i } } V ∧ Chg (PF R ++ DF b kv r) w w' := by
  have hap := h.apart
  refine (Free_ok w R b key h.2.2.2.2 P h.2.1 i).mono ?_
  rintro v w' ⟨⟨P', hA, hP⟩, hc⟩
  have hd := h.1.1.chg hc (fun x hx hh => by
    simp at hh
    rcases hh with rfl | rfl
    · exact hap R.u (by simp [PF]) hx
    · exact hap R.r (by simp [PF]) hx)
  have hc2 := mono_u R b kv r hc (by simp [PF])
  rcases hA with ⟨q, _⟩ | ⟨_, q, _⟩ | ⟨_, _, rfl, rfl⟩
  · rw [h.2.2.2.1.ok.broken] at q; cases q
  · rw [hi] at q; cases q
  · exact ⟨rfl, h.step hd hP (h.2.2.2.1.free i) hc2, hc2⟩
theorem free_none (h : PS w0 w b kv r R n k key ds P V) (i : UInt32) (hi : P.now.used i = false) :
    Ret Tryz.prog 33 #[.pointer (some ⟨R.pb, 0, none⟩), .int .u32 i.toNat] w fun v w' => v = .int .i64 71 ∧ PS w0 w' b kv r R n k key ds P V ∧ Chg (PF R ++ DF b kv r) w w' := by
  have hap := h.apart
  refine (Free_ok w R b key h.2.2.2.2 P h.2.1 i).mono ?_
  rintro v w' ⟨⟨P', hA, hP⟩, hc⟩
  have hd := h.1.1.chg hc (fun x hx hh => by
    simp at hh
    rcases hh with rfl | rfl
    · exact hap R.u (by simp [PF]) hx
    · exact hap R.r (by simp [PF]) hx)
  have hc2 := mono_u R b kv r hc (by simp [PF])
  rcases hA with ⟨q, _⟩ | ⟨_, q, rfl, rfl⟩ | ⟨_, q, _⟩
  · rw [h.2.2.2.1.ok.broken] at q; cases q
  · exact ⟨rfl, h.step hd hP h.2.2.2.1 hc2, hc2⟩
  · rw [hi] at q; cases q
theorem commit_run (h : PS w0 w b kv r R n k key ds P V) (hk : k + 1 ≤ 40000) (root : UInt32) (txt : List UInt8) (ht : txt.length ≤ 200) (hun : ∀ i, P.fresh i = true → P.now.written i = true) :
    Ret Tryz.prog 23 #[.pointer (some ⟨R.pb, 0, none⟩), .int .u32 root.toNat, str txt] w fun v w' => v = .int .i64 0 ∧ (∃ u r' ku kr ds', (∀ x ∈ PF ({ R with u := u, r := r', ku := ku, kr := kr } : PR), x ∈ PF R ∨ w.heap.size ≤ x) ∧ PS w0 w' b kv r { R with u := u, r := r', ku := ku, kr := kr } n (k + 1) key ds' { P with now := (comS P root txt).st, kept := comS P root txt, at_ := (P.at_ + 1) % 2 } V ∧ ds'.pend = [] ∧ ∃ ds1, Laid key ds1 ds' ((P.at_ + 1) % 2) (comS P root txt) ∧ SupAt key ds1 P.at_ P.kept ∧ ds1.kept.length = 32 + 8 * n) ∧ Chg (PF R ++ DF b kv r) w w' := by
  have hst := h.st
  have hsz := h.2.2.2.1.ok.size
  have hlt := h.lt
  have hge := h.ge
  have hk1 := h.now.1
  obtain ⟨e0, e1, hI, hL, hS⟩ := h.2.2.2.1.commit hk root txt ht
  refine (Commit_ok w R b r kv ds key h.2.2.2.2 P h.2.1 h.1.1 h.2.2.2.1.ok.fine (by omega) h.apart h.2.2.2.1.ok.at_ (fun i q => by have := h.2.2.2.1.ok.used i q; omega) (fun i q => by have := h.2.2.2.1.ok.used i (h.2.2.2.1.ok.written i q); omega) root txt).mono ?_
  rintro v w' ⟨⟨e, R', P', ds', rfl, hpb, hg, hR, hC, hP, hd⟩, hc⟩
  rcases hC with ⟨q, _⟩ | ⟨_, q, _⟩ | ⟨_, _, ⟨i, q1, q2⟩, _⟩ | ⟨_, _, _, ⟨q, _⟩ | ⟨_, q, _⟩ | ⟨_, _, rfl, rfl, rfl⟩⟩
  · rw [h.2.2.2.1.ok.broken] at q; cases q
  · omega
  · rw [hun i q1] at q2; cases q2
  · exact absurd e0 q
  · exact absurd e1 q
  · obtain ⟨pb', u, r', ku, kr, g'⟩ := R'
    simp only at hpb hg
    subst hpb hg
    refine ⟨rfl, ⟨u, r', ku, kr, _, hR, ⟨⟨hd, h.1.2.1.t0 hc hge, h.1.2.2⟩, hP, fun x hx => ?_, hI, h.2.2.2.2⟩, hL.pend, ds.flush.1, hL, hS, by rw [DSt.flush_len]; exact h.2.2.2.1.ok.len⟩, hc⟩
    rcases hR x hx with hh | hh
    · exact h.2.2.1 x hh
    · exact ⟨by omega, fun h2 => by have := hlt _ (List.mem_append_right _ h2); omega⟩
theorem commit_bad (h : PS w0 w b kv r R n k key ds P V) (root : UInt32) (txt : List UInt8) (e : Int) (hb : (200 < txt.length ∧ e = 11) ∨ (txt.length ≤ 200 ∧ (∃ i, P.fresh i = true ∧ P.now.written i = false) ∧ e = 71)) :
    Ret Tryz.prog 23 #[.pointer (some ⟨R.pb, 0, none⟩), .int .u32 root.toNat, str txt] w fun v w' => v = .int .i64 e ∧ (∃ u r' ku kr, (∀ x ∈ PF ({ R with u := u, r := r', ku := ku, kr := kr } : PR), x ∈ PF R ∨ w.heap.size ≤ x) ∧ PS w0 w' b kv r { R with u := u, r := r', ku := ku, kr := kr } n k key ds P V) ∧ Chg (PF R ++ DF b kv r) w w' := by
  have hst := h.st
  have hsz := h.2.2.2.1.ok.size
  have hlt := h.lt
  have hge := h.ge
  have hk1 := h.now.1
  refine (Commit_ok w R b r kv ds key h.2.2.2.2 P h.2.1 h.1.1 h.2.2.2.1.ok.fine (by omega) h.apart h.2.2.2.1.ok.at_ (fun i q => by have := h.2.2.2.1.ok.used i q; omega) (fun i q => by have := h.2.2.2.1.ok.used i (h.2.2.2.1.ok.written i q); omega) root txt).mono ?_
  rintro v w' ⟨⟨e', R', P', ds', rfl, hpb, hg, hR, hC, hP, hd⟩, hc⟩
  obtain ⟨pb', u, r', ku, kr, g'⟩ := R'
  simp only at hpb hg
  subst hpb hg
  have hPS : PagerAt w' { R with u := u, r := r', ku := ku, kr := kr } b key P → DiskAt w' b kv r ds → PS w0 w' b kv r { R with u := u, r := r', ku := ku, kr := kr } n k key ds P V := fun hP hd => ⟨⟨hd, h.1.2.1.t0 hc hge, h.1.2.2⟩, hP, fun x hx => by
    rcases hR x hx with hh | hh
    · exact h.2.2.1 x hh
    · exact ⟨by omega, fun h2 => by have := hlt _ (List.mem_append_right _ h2); omega⟩, h.2.2.2.1, h.2.2.2.2⟩
  rcases hC with ⟨q, _⟩ | ⟨_, q, rfl, rfl, rfl⟩ | ⟨_, q, q2, rfl, rfl, rfl⟩ | ⟨_, q0, q, _⟩
  · rw [h.2.2.2.1.ok.broken] at q; cases q
  · rcases hb with ⟨_, rfl⟩ | ⟨q2, _⟩
    · exact ⟨rfl, ⟨u, r', ku, kr, hR, hPS hP hd⟩, hc⟩
    · omega
  · rcases hb with ⟨q3, _⟩ | ⟨_, _, rfl⟩
    · omega
    · exact ⟨rfl, ⟨u, r', ku, kr, hR, hPS hP hd⟩, hc⟩
  · rcases hb with ⟨q3, _⟩ | ⟨_, q2, _⟩
    · omega
    · exact absurd q2 q
theorem crash_still (h : PS w0 w b kv r R n k key ds P V) (hp : ds.pend = []) (cv : Value) (hcf : ∃ p c, cv = .slice p 0 c) :
    Ret Tryz.prog 30 #[.pointer (some ⟨b, 0, none⟩), cv] w fun v w' => PS w0 w' b kv r R n k key ds P V ∧ Chg (PF R ++ DF b kv r) w w' := by
  have hap := h.apart
  refine (Crash_ok w b r kv cv ds [] h.1.1 h.2.2.2.1.ok.fine (by rw [hp]; exact Nat.zero_le _) hcf (.inl rfl) (by decide)).mono ?_
  rintro v w' ⟨hd, hc⟩
  have e : ds.crash [] = ds := by
    have h0 := h.2.2.2.1.ok.off
    obtain ⟨s, o, kk, p⟩ := ds
    cases hp
    cases h0
    simp [DSt.crash, sortI, crashL]
  rw [e] at hd
  have hc2 : Chg (PF R ++ DF b kv r) w w' := hc.mono (fun x hx _ => List.mem_append_right _ hx)
  exact ⟨h.step hd (h.2.1.chg hc hap) h.2.2.2.1 hc2, hc2⟩
theorem open_run {a : Nat} {s : Sup} (hd : RunD w0 w b kv r ds) (hC : PCra n k key ds a s V) (hk : k + 1 ≤ 40000) (hkl : key.length = 32) :
    Ret Tryz.prog 44 #[.pointer (some ⟨b, 0, none⟩), arrV key] w fun v w' => ∃ R f ds', v = .tuple #[.pointer (some ⟨R.pb, 0, none⟩), .int .i64 0] ∧ PS w0 w' b kv r R n (k + 1) key ds' ⟨s.st, opS key ds s, (a + 1) % 2, 0, f, false⟩ V ∧ Laid key ds ds' ((a + 1) % 2) (opS key ds s) ∧ (opS key ds s).commit.toNat = s.commit.toNat + 1 ∧ ds'.pend = [] ∧ Chg (DF b kv r) w w' ∧ ∀ x ∈ PF R, w.heap.size ≤ x := by
  obtain ⟨e0, e1, hI, hL, hcm⟩ := hC.open hk
  have hlen := hC.len
  have hsz := hC.size
  have hst := hC.steps
  have hfew := hC.few
  have hlt := hd.1.lt
  have k1 := hd.2.1.1
  refine (POpen_ok w b r kv ds key hkl hd.1 hC.fine (by unfold DSt.off; rw [hC.off]; rfl) (by omega) (by omega) (fun s' a' hs' i hi => ?_)).mono ?_
  · rw [e0] at hs'; cases hs'
    have := hC.used i (hC.written i hi)
    omega
  · rintro v w' ⟨⟨e, P, ds', hO, hd', hv⟩, hc⟩
    rcases hO with ⟨q, _⟩ | ⟨_, q, _⟩ | ⟨_, s', a', hn, hO⟩
    · exfalso; rw [manyN_of hlen hsz.2] at q; omega
    · rw [e0] at q; cases q
    · rw [e0] at hn
      cases hn
      rcases hO with ⟨q, _⟩ | ⟨_, rfl, rfl, f, hf, rfl⟩
      · exact absurd e1 q
      · rcases hv with ⟨q, _⟩ | ⟨P', R, hP', rfl, hP, hR⟩
        · cases q
        · cases hP'
          exact ⟨R, f, _, rfl, ⟨⟨hd', hd.2.1.t0 hc hd.2.2, hd.2.2⟩, hP, fun x hx => ⟨by have := hR x hx; omega, fun hh => by have := hR x hx; have := hlt x hh; omega⟩, hI f hf, hkl⟩, hL, hcm, hL.pend, hc, hR⟩
theorem open_wrong (hd : RunD w0 w b kv r ds) (hf : ds.Fine) (hoff : ds.offAt = 0) (hst : ds.steps + 60 ≤ 1000000000000) (hl : ds.kept.length ≤ 4000) (hn : newest key ds = none) (hkl : key.length = 32) :
    Ret Tryz.prog 44 #[.pointer (some ⟨b, 0, none⟩), arrV key] w fun v w' => v = .tuple #[.pointer none, .int .i64 72] ∧ DiskAt w' b kv r ds ∧ Chg (DF b kv r) w w' := by
  refine (POpen_ok w b r kv ds key hkl hd.1 hf (by unfold DSt.off; rw [hoff]; rfl) hl hst (fun s' a' hs' i hi => by rw [hn] at hs'; cases hs')).mono ?_
  rintro v w' ⟨⟨e, P, ds', hO, hd', hv⟩, hc⟩
  rcases hO with ⟨_, rfl, rfl, rfl⟩ | ⟨_, _, rfl, rfl, rfl⟩ | ⟨_, s', a', q, _⟩
  · rcases hv with ⟨_, rfl⟩ | ⟨_, _, q, _⟩
    · exact ⟨rfl, hd', hc⟩
    · cases q
  · rcases hv with ⟨_, rfl⟩ | ⟨_, _, q, _⟩
    · exact ⟨rfl, hd', hc⟩
    · cases q
  · rw [hn] at q; cases q
end
end Go.Proofs.YtenhmbhflgnhlaaGreat

