/- A wrapped key stands on the disk as it is said to, is told by its key, and by another one as the document's unwrapping tells. It holds for every input; there are no conditions. -/
import Derived.Test.YtenhmbhflgnhlaaGreatQSlots2
import Derived.Test.YtenhmbhflgnhlaaGreatQSector2
import Derived.Test.YtenhmbhflgnhlaaGreatSac1
namespace Go.Proofs.YtenhmbhflgnhlaaGreat
open Go Go.Sac
set_option maxRecDepth 100000
set_option maxHeartbeats 4000000
def Sess (w0 w : World) (b : Nat) (kv : Value) (r sb fr n k : Nat) (C : Cont) (ds : DSt) (s : SSt) : Prop := RunD w0 w b kv r ds ∧ RunS w0 w sb fr b kv r s ∧ SOK n k ds s C
def Disk0 (w0 w : World) (b : Nat) (kv : Value) (r n k : Nat) (ds : DSt) : Prop := RunD w0 w b kv r ds ∧ ds.offAt = 0 ∧ ds.pend = [] ∧ ds.kept.length = n ∧ ds.steps ≤ 100 * k ∧ n ≤ 4000
def DiskC (w0 w : World) (b : Nat) (kv : Value) (r n k : Nat) (C : Cont) (ds : DSt) : Prop := RunD w0 w b kv r ds ∧ SOK n k ds (openS ds 26) C
abbrev SF (sb fr b : Nat) (kv : Value) (r : Nat) : List Nat := sb :: fr :: DF b kv r
theorem drw (w : World) : Chg [] w { w with drawn := w.drawn + 1 } := Chg.heap rfl
section
variable {w0 w : World} {b r sb fr n k : Nat} {kv : Value} {C : Cont} {ds : DSt} {s : SSt}
theorem Sess.ge (h : Sess w0 w b kv r sb fr n k C ds s) : ∀ x ∈ SF sb fr b kv r, w0.heap.size ≤ x := by
  obtain ⟨hd, hs, hk⟩ := h
  intro x hx
  simp only [SF, List.mem_cons] at hx
  rcases hx with rfl | rfl | hx
  · exact hs.2.2.1
  · exact hs.2.2.2
  · exact hd.2.2 x hx
theorem Sess.lt (h : Sess w0 w b kv r sb fr n k C ds s) : ∀ x ∈ SF sb fr b kv r, x < w.heap.size := by
  obtain ⟨hd, hs, hk⟩ := h
  intro x hx
  simp only [SF, List.mem_cons] at hx
  rcases hx with rfl | rfl | hx
  · exact hs.1.1.lt
  · exact hs.1.2.1.lt
  · exact hd.1.lt x hx
theorem Sess.chg {w' : World} {S : List Nat} (h : Sess w0 w b kv r sb fr n k C ds s) (hm : Chg S w w') (hn : ∀ x ∈ SF sb fr b kv r, x ∉ S) (hs : ∀ x ∈ S, w0.heap.size ≤ x) : Sess w0 w' b kv r sb fr n k C ds s := by
  obtain ⟨hd, h2, hk⟩ := h
  exact ⟨⟨hd.1.chg hm (fun x hx => hn x (by simp only [SF, List.mem_cons]; exact .inr (.inr hx))), hd.2.1.t0 hm hs, hd.2.2⟩,
    ⟨h2.1.chg hm (hn sb (by simp [SF])) (hn fr (by simp [SF])), h2.2⟩, hk⟩
theorem Sess.chg0 {w' : World} (h : Sess w0 w b kv r sb fr n k C ds s) (hm : Chg [] w w') : Sess w0 w' b kv r sb fr n k C ds s := h.chg hm (by simp) (by simp)
theorem Sess.disk (h : Sess w0 w b kv r sb fr n k C ds s) : Disk0 w0 w b kv r n k ds := by
  obtain ⟨hd, h2, hk⟩ := h
  exact ⟨hd, hk.off, hk.inv.pend, hk.len, hk.steps, hk.small⟩
theorem Disk0.chg0 {w' : World} (h : Disk0 w0 w b kv r n k ds) (hm : Chg [] w w') : Disk0 w0 w' b kv r n k ds := by
  obtain ⟨hd, h2⟩ := h
  exact ⟨hd.chg0 hm, h2⟩
theorem Disk0.chg {w' : World} {S : List Nat} (h : Disk0 w0 w b kv r n k ds) (hm : Chg S w w') (hn : ∀ x ∈ DF b kv r, x ∉ S) (hs : ∀ x ∈ S, w0.heap.size ≤ x) : Disk0 w0 w' b kv r n k ds := by
  obtain ⟨hd, h2⟩ := h
  exact ⟨⟨hd.1.chg hm hn, hd.2.1.t0 hm hs, hd.2.2⟩, h2⟩
theorem Disk0.lt (h : Disk0 w0 w b kv r n k ds) : ∀ x ∈ DF b kv r, x < w.heap.size := h.1.1.lt
theorem Disk0.ge (h : Disk0 w0 w b kv r n k ds) : ∀ x ∈ DF b kv r, w0.heap.size ≤ x := h.1.2.2
theorem DiskC.chg {w' : World} {S : List Nat} (h : DiskC w0 w b kv r n k C ds) (hm : Chg S w w') (hn : ∀ x ∈ DF b kv r, x ∉ S) (hs : ∀ x ∈ S, w0.heap.size ≤ x) : DiskC w0 w' b kv r n k C ds := by
  obtain ⟨hd, h2⟩ := h
  exact ⟨⟨hd.1.chg hm hn, hd.2.1.t0 hm hs, hd.2.2⟩, h2⟩
theorem DiskC.chg0 {w' : World} (h : DiskC w0 w b kv r n k C ds) (hm : Chg [] w w') : DiskC w0 w' b kv r n k C ds := by
  obtain ⟨hd, h2⟩ := h
  exact ⟨hd.chg0 hm, h2⟩
theorem Sess.now (h : Sess w0 w b kv r sb fr n k C ds s) : Chg [] w0 w := by
  obtain ⟨hd, h2, hk⟩ := h
  exact hd.2.1
theorem new_run (w0 w : World) (n : Nat) (hn : n ≤ 4000) (h0 : Chg [] w0 w) :
    Ret Tryz.prog 11 #[.int .i64 n] w fun v w' => ∃ b kv r, v = .pointer (some ⟨b, 0, none⟩) ∧ Disk0 w0 w' b kv r n 0 (dsN n) ∧ Chg [] w w' ∧ ∀ x ∈ DF b kv r, w.heap.size ≤ x := by
  refine (SNew_ok w n hn).mono ?_
  rintro v w' ⟨b, kv, r, rfl, hd, hc, hF⟩
  exact ⟨b, kv, r, rfl, ⟨⟨hd, h0.tr hc, fun x hx => Nat.le_trans h0.1 (hF x hx)⟩, rfl, rfl, List.length_replicate, Nat.zero_le _, hn⟩, hc, hF⟩
theorem make_run (h : Disk0 w0 w b kv r n k ds) (h64 : 64 ≤ n) (hk : k + 1 ≤ 1000000) :
    Ret Tryz.prog 12 #[.pointer (some ⟨b, 0, none⟩)] w fun v w' => ∃ sb fr, v = .tuple #[.pointer (some ⟨sb, 0, none⟩), .int .i64 0] ∧ Sess w0 w' b kv r sb fr n (k + 1) (fun _ => none) (makeD ds).1 ss0 ∧ Chg (DF b kv r) w w' ∧ w.heap.size ≤ sb ∧ w.heap.size ≤ fr := by
  obtain ⟨hd, h1, h2, h3, h4, h5⟩ := h
  obtain ⟨hz, hok⟩ := SOK.make h1 h2 h3 h64 h4 h5 hk
  refine (Make_ok w b r kv ds hd.1 (fine_of h1 h2 (by omega) (by omega)) (by omega)).mono ?_
  rintro v w' ⟨hv, hd', hc⟩
  unfold newV at hv
  rw [if_pos hz] at hv
  obtain ⟨sb, fr, rfl, hs, hsb, hfr⟩ := hv
  have hlt := hd.1.lt
  have k1 := hd.2.1.1
  refine ⟨sb, fr, rfl, ⟨⟨hd', hd.2.1.t0 hc hd.2.2, hd.2.2⟩, ⟨hs, ⟨fun hx => ?_, fun hx => ?_⟩, by omega, by omega⟩, hok⟩, hc, hsb, hfr⟩
  · have := hlt _ hx; omega
  · have := hlt _ hx; omega
theorem make_small (h : Disk0 w0 w b kv r n k ds) (h64 : n < 64) (hk : k + 1 ≤ 1000000) :
    Ret Tryz.prog 12 #[.pointer (some ⟨b, 0, none⟩)] w fun v w' => v = .tuple #[.pointer none, .int .i64 70] ∧ Chg (DF b kv r) w w' := by
  obtain ⟨hd, h1, h2, h3, h4, h5⟩ := h
  refine (Make_ok w b r kv ds hd.1 (fine_of h1 h2 (by omega) (by omega)) (by omega)).mono ?_
  rintro v w' ⟨hv, hd', hc⟩
  rw [makeD_small (by omega)] at hv
  unfold newV at hv
  rw [if_neg (show ¬ (70 : Int) = 0 by decide)] at hv
  exact ⟨hv, hc⟩
theorem put_run (h : Sess w0 w b kv r sb fr n k C ds s) (hk : k + 1 ≤ 1000000) (i : Nat) (hi : i < 24) (kek key : List UInt8) (hkk : kek.length = 32) (hy : key.length = 32) :
    Ret Tryz.prog 13 #[.pointer (some ⟨sb, 0, none⟩), .int .i64 i, arrV kek, arrV key] w fun v w' => v = .int .i64 0 ∧ Sess w0 w' b kv r sb fr n (k + 1) (setC C i (some (kek, key))) (putD ds s i kek key hy).1 (putD ds s i kek key hy).2.1 ∧ Chg (SF sb fr b kv r) w w' := by
  have hge := h.ge
  obtain ⟨hd, hs, hok⟩ := h
  have hst := hok.steps
  obtain ⟨hz, hok'⟩ := hok.put hk hi (kek := kek) hy
  refine (Put2_ok w sb fr b r kv ds s i kek key hkk hy hs.1 hd.1 hok.fine (by omega) hs.2.1).mono ?_
  rintro v w' ⟨rfl, hd', hs', hc⟩
  exact ⟨congrArg (Value.int .i64) hz, ⟨⟨hd', hd.2.1.t0 hc hge, hd.2.2⟩, ⟨hs', hs.2⟩, hok'⟩, hc⟩
theorem put_bad (h : Sess w0 w b kv r sb fr n k C ds s) (i : Int) (hi : isSlot i = false) (kek key : List UInt8) (hkk : kek.length = 32) (hy : key.length = 32) :
    Ret Tryz.prog 13 #[.pointer (some ⟨sb, 0, none⟩), .int .i64 i, arrV kek, arrV key] w fun v w' => v = .int .i64 70 ∧ Sess w0 w' b kv r sb fr n k C ds s ∧ Chg (SF sb fr b kv r) w w' := by
  have hge := h.ge
  obtain ⟨hd, hs, hok⟩ := h
  have hst := hok.steps
  have hfw := hok.few
  have hp := hok.putBad hi (kek := kek) hy
  refine (Put2_ok w sb fr b r kv ds s i kek key hkk hy hs.1 hd.1 hok.fine (by omega) hs.2.1).mono ?_
  rintro v w' ⟨rfl, hd', hs', hc⟩
  rw [hp] at hd' hs' ⊢
  exact ⟨rfl, ⟨⟨hd', hd.2.1.t0 hc hge, hd.2.2⟩, ⟨hs', hs.2⟩, hok⟩, hc⟩
theorem put_any (h : Sess w0 w b kv r sb fr n k C ds s) (hk : k + 1 ≤ 1000000) (i : Int) (kek key : List UInt8) (hkk : kek.length = 32) (hy : key.length = 32) :
    Ret Tryz.prog 13 #[.pointer (some ⟨sb, 0, none⟩), .int .i64 i, arrV kek, arrV key] w fun v w' => (∃ e, v = .int .i64 e) ∧ (∃ C' ds' s', Sess w0 w' b kv r sb fr n (k + 1) C' ds' s') ∧ Chg (SF sb fr b kv r) w w' := by
  by_cases hi : isSlot i = true
  · have hi' : 0 ≤ i ∧ i < 24 := by simpa [isSlot] using hi
    obtain ⟨j, rfl⟩ : ∃ j : Nat, i = j := ⟨i.toNat, by omega⟩
    refine (put_run h hk j (by omega) kek key hkk hy).mono ?_
    rintro v w' ⟨rfl, h', hc⟩
    exact ⟨⟨_, rfl⟩, ⟨_, _, _, h'⟩, hc⟩
  · refine (put_bad h i (by simpa using hi) kek key hkk hy).mono ?_
    rintro v w' ⟨rfl, ⟨h1, h2, h3⟩, hc⟩
    exact ⟨⟨_, rfl⟩, ⟨_, ds, s, h1, h2, ⟨h3.inv, h3.holds, h3.off, h3.len, h3.dead, by have := h3.steps; omega, by have := h3.puts; omega, h3.small, hk⟩⟩, hc⟩
theorem erase_run (h : Sess w0 w b kv r sb fr n k C ds s) (hk : k + 1 ≤ 1000000) (i : Nat) (hi : i < 24) :
    Ret Tryz.prog 50 #[.pointer (some ⟨sb, 0, none⟩), .int .i64 i] w fun v w' => v = .int .i64 0 ∧ Sess w0 w' b kv r sb fr n (k + 1) (setC C i none) (eraseD ds s i).1 (eraseD ds s i).2.1 ∧ Chg (SF sb fr b kv r) w w' := by
  have hge := h.ge
  obtain ⟨hd, hs, hok⟩ := h
  have hst := hok.steps
  obtain ⟨hz, hok'⟩ := hok.erase hk hi
  refine (Erase_ok w sb fr b r kv ds s i hs.1 hd.1 hok.fine (by omega) hs.2.1).mono ?_
  rintro v w' ⟨rfl, hd', hs', hc⟩
  exact ⟨congrArg (Value.int .i64) hz, ⟨⟨hd', hd.2.1.t0 hc hge, hd.2.2⟩, ⟨hs', hs.2⟩, hok'⟩, hc⟩
theorem erase_bad (h : Sess w0 w b kv r sb fr n k C ds s) (i : Int) (hi : isSlot i = false) :
    Ret Tryz.prog 50 #[.pointer (some ⟨sb, 0, none⟩), .int .i64 i] w fun v w' => v = .int .i64 70 ∧ Sess w0 w' b kv r sb fr n k C ds s ∧ Chg (SF sb fr b kv r) w w' := by
  have hge := h.ge
  obtain ⟨hd, hs, hok⟩ := h
  have hst := hok.steps
  have hfw := hok.few
  have hp := hok.eraseBad hi
  refine (Erase_ok w sb fr b r kv ds s i hs.1 hd.1 hok.fine (by omega) hs.2.1).mono ?_
  rintro v w' ⟨rfl, hd', hs', hc⟩
  rw [hp] at hd' hs' ⊢
  exact ⟨rfl, ⟨⟨hd', hd.2.1.t0 hc hge, hd.2.2⟩, ⟨hs', hs.2⟩, hok⟩, hc⟩
theorem get_some (h : Sess w0 w b kv r sb fr n k C ds s) (i : Nat) (hi : i < 24) (kek y : List UInt8) (hc : C i = some (kek, y)) (hkk : kek.length = 32) :
    Ret Tryz.prog 15 #[.pointer (some ⟨sb, 0, none⟩), .int .i64 i, arrV kek] w fun v w' => v = .tuple #[arrV y, .int .i64 0] ∧ Sess w0 w' b kv r sb fr n k C ds s ∧ Chg [] w w' := by
  have h' := h
  obtain ⟨hd, hs, hok⟩ := h
  refine (Get2_ok w sb fr b s i kek hs.1 hkk).mono ?_
  rintro v w' ⟨rfl, hcc⟩
  rw [hok.get hi hc]
  exact ⟨rfl, h'.chg0 hcc, hcc⟩
theorem get_none (h : Sess w0 w b kv r sb fr n k C ds s) (i : Nat) (hi : i < 24) (kek : List UInt8) (hc : C i = none) (hkk : kek.length = 32) :
    Ret Tryz.prog 15 #[.pointer (some ⟨sb, 0, none⟩), .int .i64 i, arrV kek] w fun v w' => v = .tuple #[arrV (List.replicate 32 (0 : UInt8)), .int .i64 120] ∧ Sess w0 w' b kv r sb fr n k C ds s ∧ Chg [] w w' := by
  have h' := h
  obtain ⟨hd, hs, hok⟩ := h
  refine (Get2_ok w sb fr b s i kek hs.1 hkk).mono ?_
  rintro v w' ⟨rfl, hcc⟩
  rw [hok.getNone hi hc]
  exact ⟨rfl, h'.chg0 hcc, hcc⟩
theorem get_bad (h : Sess w0 w b kv r sb fr n k C ds s) (i : Int) (hi : isSlot i = false) (kek : List UInt8) (hkk : kek.length = 32) :
    Ret Tryz.prog 15 #[.pointer (some ⟨sb, 0, none⟩), .int .i64 i, arrV kek] w fun v w' => v = .tuple #[arrV (List.replicate 32 (0 : UInt8)), .int .i64 70] ∧ Sess w0 w' b kv r sb fr n k C ds s ∧ Chg [] w w' := by
  have h' := h
  obtain ⟨hd, hs, hok⟩ := h
  refine (Get2_ok w sb fr b s i kek hs.1 hkk).mono ?_
  rintro v w' ⟨rfl, hcc⟩
  rw [getBad s hi]
  exact ⟨rfl, h'.chg0 hcc, hcc⟩
theorem get_run (h : Sess w0 w b kv r sb fr n k C ds s) (i : Int) (kek : List UInt8) (hkk : kek.length = 32) :
    Ret Tryz.prog 15 #[.pointer (some ⟨sb, 0, none⟩), .int .i64 i, arrV kek] w fun v w' => v = .tuple #[arrV (getS s i kek).1, .int .i64 (getS s i kek).2] ∧ Sess w0 w' b kv r sb fr n k C ds s ∧ Chg [] w w' := by
  refine (Get2_ok w sb fr b s i kek h.2.1.1 hkk).mono ?_
  rintro v w' ⟨rfl, hcc⟩
  exact ⟨rfl, h.chg0 hcc, hcc⟩
theorem used_run (h : Sess w0 w b kv r sb fr n k C ds s) :
    Ret Tryz.prog 49 #[.pointer (some ⟨sb, 0, none⟩)] w fun v w' => Own w' v (usedC C) ∧ Sess w0 w' b kv r sb fr n k C ds s ∧ Chg [] w w' := by
  have h' := h
  obtain ⟨hd, hs, hok⟩ := h
  refine (Used_ok w sb fr b s hs.1).mono ?_
  rintro v w' ⟨ho, hcc⟩
  rw [hok.used] at ho
  exact ⟨ho, h'.chg0 hcc, hcc⟩
theorem free_run (h : Sess w0 w b kv r sb fr n k C ds s) :
    Ret Tryz.prog 46 #[.pointer (some ⟨sb, 0, none⟩)] w fun v w' => v = .int .i64 (freeC C 24 0) ∧ Sess w0 w' b kv r sb fr n k C ds s ∧ Chg [] w w' := by
  have h' := h
  obtain ⟨hd, hs, hok⟩ := h
  refine (Free_ok w sb fr b s hs.1).mono ?_
  rintro v w' ⟨rfl, hcc⟩
  rw [hok.free]
  exact ⟨rfl, h'.chg0 hcc, hcc⟩
theorem crash_run (h : Sess w0 w b kv r sb fr n k C ds s) (cv : Value) (ch : List UInt8) (hch : Sl w cv ch) (hcl : ch.length ≤ 100000) (hdis : ∀ x ∈ blkOf cv, x ∉ DF b kv r) :
    Ret Tryz.prog 30 #[.pointer (some ⟨b, 0, none⟩), cv] w fun v w' => DiskC w0 w' b kv r n k C (ds.crash ch) ∧ Chg (DF b kv r) w w' := by
  obtain ⟨hd, hs, hok⟩ := h
  refine (Crash_ok w b r kv cv ds ch hd.1 hok.fine (by rw [hok.inv.pend]; exact Nat.zero_le _) (hch.form rfl) (.inr ⟨hch, hdis⟩) hcl).mono ?_
  rintro v w' ⟨hd', hc⟩
  exact ⟨⟨⟨hd', hd.2.1.t0 hc hd.2.2, hd.2.2⟩, hok.crash ch⟩, hc⟩
theorem open_run (h : DiskC w0 w b kv r n k C ds) :
    Ret Tryz.prog 48 #[.pointer (some ⟨b, 0, none⟩)] w fun v w' => ∃ sb fr, v = .tuple #[.pointer (some ⟨sb, 0, none⟩), .int .i64 0] ∧ Sess w0 w' b kv r sb fr n k C ds (openS ds 26) ∧ Chg [] w w' ∧ w.heap.size ≤ sb ∧ w.heap.size ≤ fr := by
  obtain ⟨hd, hok⟩ := h
  refine (Open2_ok w b r kv ds hd.1).mono ?_
  rintro v w' ⟨hv, hc⟩
  have hoff : ds.off = false := by simp [DSt.off, hok.off]
  rw [if_neg (by have := hok.inv.len; omega), if_neg (by rw [hoff]; decide)] at hv
  unfold newV at hv
  rw [if_pos rfl] at hv
  obtain ⟨sb, fr, rfl, hs, hsb, hfr⟩ := hv
  have hlt := hd.1.lt
  have k1 := hd.2.1.1
  refine ⟨sb, fr, rfl, ⟨hd.chg0 hc, ⟨hs, ⟨fun hx => ?_, fun hx => ?_⟩, by omega, by omega⟩, hok⟩, hc, hsb, hfr⟩
  · have := hlt _ hx; omega
  · have := hlt _ hx; omega
end
theorem image_run {w0 w : World} {b r sb fr n k : Nat} {kv : Value} {C : Cont} {ds : DSt} {s : SSt} (h : Sess w0 w b kv r sb fr n k C ds s) :
    Ret Tryz.prog 18 #[.pointer (some ⟨b, 0, none⟩)] w fun v w' => Own w' v (imageOf ds.kept) ∧ Sess w0 w' b kv r sb fr n k C ds s ∧ Chg [] w w' := by
  refine (Image_ok w b r kv ds h.1.1 h.2.2.fine).mono ?_
  rintro v w' ⟨ho, hc⟩
  exact ⟨ho, h.chg0 hc, hc⟩
theorem key_ok (n : UInt8) (w : World) : Ret Tryz.prog 47 #[.int .u8 n.toNat] w fun v w' => v = arrV (keyN n) ∧ Chg [] w w' := by
  refine enterR [.cell 2 23] Tryz.func47 rfl rfl (Nat.le_of_ble_eq_true rfl) ?_
  refine wpE_seq ?_
  refine wpE_region ?_
  refine wpL_allocA (List.replicate 32 (0 : UInt8)) I23 rfl rfl rfl ?_
  rintro w1 b1 hn1 ha1 hc1 hl1
  refine wpL_nil (thenE_norm ?_)
  refine wpE_seq ?_
  refine wpE_region ?_
  refine wpL_value rfl x_move ?_
  refine wpL_value rfl (x_buildV (List.replicate 32 (0 : UInt8)) ([(0, n), (31, 200)]) (l := keyN n) Tryz.underlying23 I23 rfl I5 (by kernel_rfl) rfl (by kernel_rfl) rfl (by kernel_rfl)) ?_
  refine wpL_exs rfl (x_storeN 32 I23 rfl (ha1) rfl rfl (rfl) (rfl)) ?_
  rintro w2 ⟨ha2, hc2, hs2⟩
  refine wpL_nil (thenE_norm ?_)
  refine wpE_ret (fin_retR ?_)
  exact ⟨[arrV (keyN n)], ⟨⟨_, rfl, run_loadN 32 Tryz.underlying23 rfl I23 rfl ha2 rfl⟩, trivial⟩, rfl, hc1.t1 hc2 hn1⟩
theorem known_ok (w : World) : Ret Tryz.prog 10 #[] w fun v w' => v = .bool true ∧ Chg [] w w' := by
  refine enter [0] Tryz.func10 rfl rfl (Nat.le_of_ble_eq_true rfl) ?_
  refine wpE_seq ?_
  refine wpE_region ?_
  refine wpL_value rfl x_assign ?_
  refine wpL_nil (thenE_norm ?_)
  refine wpE_seq ?_
  refine wpE_region ?_
  refine wpL_call rfl C11 (new_run w w 64 (by decide) (Chg.refl _)) ?_
  rintro _ w1 ⟨b, kv, r, rfl, hd1, hc1, hF1⟩
  refine wpL_value rfl x_assign ?_
  refine wpL_nil (thenE_norm ?_)
  refine wpE_seq ?_
  refine wpE_region ?_
  refine wpL_value rfl x_move ?_
  refine wpL_call rfl C12 (make_run hd1 (by decide) (by decide)) ?_
  rintro _ w2 ⟨sb, fr, rfl, hS2, hc2, hsb, hfr⟩
  refine wpL_value rfl x_move (wpL_value rfl (x_extract rfl rfl) (wpL_value rfl (x_extract rfl rfl) (wpL_value rfl x_assign (wpL_value rfl x_assign ?_))))
  refine wpL_nil (thenE_norm ?_)
  refine wpE_seq ?_
  refine wpE_seq ?_
  refine wpE_region ?_
  refine wpL_value rfl x_move ?_
  refine wpL_value rfl (x_to (x_neq rfl rfl) (congrArg Value.bool (decide_eq_false (fun h => h rfl)))) ?_
  refine wpL_value rfl x_move (wpL_yes rfl (wpL_value rfl x_move (wpL_yes rfl ?_)))
  refine wpL_call rfl C46 (free_run hS2) ?_
  rintro _ w3 ⟨rfl, hS3, hc3⟩
  refine wpL_yes rfl ?_
  refine wpL_value rfl (x_to (x_neq rfl rfl) (congrArg Value.bool (decide_eq_false (fun h => h rfl)))) ?_
  refine wpL_value rfl (x_pick_f rfl) (wpL_value rfl x_move (wpL_yes rfl (wpL_value rfl x_move (wpL_yes rfl ?_))))
  refine wpL_call rfl C47 (key_ok 1 w3) ?_
  rintro _ w4 ⟨rfl, hc4⟩
  refine wpL_yes rfl ?_
  refine wpL_call rfl C47 (key_ok 2 w4) ?_
  rintro _ w5 ⟨rfl, hc5⟩
  refine wpL_yes rfl ?_
  refine wpL_call rfl C13 (put_run ((hS3.chg0 hc4).chg0 hc5) (by decide) 3 (by decide) (keyN 1) (keyN 2) rfl rfl) ?_
  rintro _ w6 ⟨rfl, hS6, hc6⟩
  refine wpL_yes rfl ?_
  refine wpL_value rfl (x_to (x_neq rfl rfl) (congrArg Value.bool (decide_eq_false (fun h => h rfl)))) ?_
  refine wpL_value rfl (x_pick_f rfl) (wpL_value rfl x_move (wpL_yes rfl (wpL_value rfl x_move (wpL_yes rfl ?_))))
  refine wpL_call rfl C47 (key_ok 1 w6) ?_
  rintro _ w7 ⟨rfl, hc7⟩
  refine wpL_yes rfl ?_
  refine wpL_call rfl C47 (key_ok 2 w7) ?_
  rintro _ w8 ⟨rfl, hc8⟩
  refine wpL_yes rfl ?_
  refine wpL_call rfl C13 (put_bad ((hS6.chg0 hc7).chg0 hc8) 24 rfl (keyN 1) (keyN 2) rfl rfl) ?_
  rintro _ w9 ⟨rfl, hS9, hc9⟩
  refine wpL_yes rfl (wpL_value rfl (x_neq rfl rfl) (wpL_value rfl (x_pick_f rfl) ?_))
  refine wpL_nil (thenE_norm ?_)
  refine wpE_cond_df rfl (fun h => h rfl) ?_
  refine wpE_skip (thenE_norm ?_)
  refine wpE_seq ?_
  refine wpE_region ?_
  refine wpL_value rfl x_move ?_
  refine wpL_call rfl C30 (crash_run hS9 (.slice none 0 0) [] (Sl.nil w9 0) (by decide) (fun x hx => by simp [blkOf] at hx)) ?_
  rintro _ w10 ⟨hD10, hc10⟩
  refine wpL_nil (thenE_norm ?_)
  refine wpE_seq ?_
  refine wpE_region ?_
  refine wpL_value rfl x_move ?_
  refine wpL_call rfl C48 (open_run hD10) ?_
  rintro _ w11 ⟨sb1, fr1, rfl, hS11, hc11, hsb1, hfr1⟩
  refine wpL_value rfl x_move (wpL_value rfl (x_extract rfl rfl) (wpL_value rfl (x_extract rfl rfl) (wpL_value rfl x_assign (wpL_value rfl x_assign ?_))))
  refine wpL_nil (thenE_norm ?_)
  refine wpE_seq ?_
  refine wpE_seq ?_
  refine wpE_region ?_
  refine wpL_value rfl x_move (wpL_value rfl (x_neq rfl rfl) ?_)
  refine wpL_nil (thenE_norm ?_)
  refine wpE_cond_df rfl (fun h => h rfl) ?_
  refine wpE_skip (thenE_norm ?_)
  refine wpE_seq ?_
  refine wpE_region ?_
  refine wpL_value rfl x_move ?_
  refine wpL_call rfl C47 (key_ok 1 w11) ?_
  rintro _ w12 ⟨rfl, hc12⟩
  refine wpL_call rfl C15 (get_some (hS11.chg0 hc12) 3 (by decide) (keyN 1) (keyN 2) rfl rfl) ?_
  rintro _ w13 ⟨rfl, hS13, hc13⟩
  refine wpL_value rfl x_move (wpL_value rfl (x_extract rfl rfl) (wpL_value rfl (x_extract rfl rfl) ?_))
  refine wpL_allocA (List.replicate 32 (0 : UInt8)) I23 rfl rfl rfl ?_
  rintro w14 b14 hn14 ha14 hc14 hl14
  refine wpL_exs rfl (x_storeN 32 I23 rfl (ha14) rfl rfl (rfl) (rfl)) ?_
  rintro w15 ⟨ha15, hc15, hs15⟩
  refine wpL_value rfl x_assign ?_
  refine wpL_nil (thenE_norm ?_)
  refine wpE_seq ?_
  refine wpE_region ?_
  refine wpL_value rfl x_move ?_
  have hc13' : Chg [] w13 w15 := hc14.t1 hc15 hn14
  have hS15 := hS13.chg0 hc13'
  refine wpL_call rfl C47 (key_ok 2 w15) ?_
  rintro _ w16 ⟨rfl, hc16⟩
  have hg := known_wrong hS2.2.2 rfl []
  refine wpL_call rfl C15 (get_run (hS15.chg0 hc16) ((3 : Nat) : Int) (keyN 2) rfl) ?_
  rintro v17 w17 ⟨hv17, hS17, hc17⟩
  rw [hg] at hv17
  subst hv17
  refine wpL_value rfl x_move (wpL_value rfl (x_extract rfl rfl) (wpL_value rfl (x_extract rfl rfl) ?_))
  refine wpL_allocA (List.replicate 32 (0 : UInt8)) I23 rfl rfl rfl ?_
  rintro w18 b18 hn18 ha18 hc18 hl18
  refine wpL_exs rfl (x_storeN 32 I23 rfl (ha18) rfl rfl (rfl) (rfl)) ?_
  rintro w19 ⟨ha19, hc19, hs19⟩
  refine wpL_value rfl x_assign ?_
  refine wpL_nil (thenE_norm ?_)
  refine wpE_seq ?_
  refine wpE_region ?_
  refine wpL_value rfl x_move ?_
  have hS19 := hS17.chg0 (hc18.t1 hc19 hn18)
  refine wpL_call rfl C47 (key_ok 1 w19) ?_
  rintro _ w20 ⟨rfl, hc20⟩
  refine wpL_call rfl C15 (get_none (hS19.chg0 hc20) 4 (by decide) (keyN 1) rfl rfl) ?_
  rintro _ w21 ⟨rfl, hS21, hc21⟩
  refine wpL_value rfl x_move (wpL_value rfl (x_extract rfl rfl) (wpL_value rfl (x_extract rfl rfl) ?_))
  refine wpL_allocA (List.replicate 32 (0 : UInt8)) I23 rfl rfl rfl ?_
  rintro w22 b22 hn22 ha22 hc22 hl22
  refine wpL_exs rfl (x_storeN 32 I23 rfl (ha22) rfl rfl (rfl) (rfl)) ?_
  rintro w23 ⟨ha23, hc23, hs23⟩
  refine wpL_value rfl x_assign ?_
  refine wpL_nil (thenE_norm ?_)
  refine wpE_seq ?_
  refine wpE_region ?_
  have hS23 := hS21.chg0 (hc22.t1 hc23 hn22)
  refine wpL_call rfl C11 (new_run w w23 63 (by decide) hS23.now) ?_
  rintro _ w24 ⟨b2, kv2, r2, rfl, hd24, hc24, hF24⟩
  refine wpL_call rfl C12 (make_small hd24 (by decide) (by decide)) ?_
  rintro _ w25 ⟨rfl, hc25⟩
  refine wpL_value rfl x_move (wpL_value rfl (x_extract rfl rfl) (wpL_value rfl (x_extract rfl rfl) (wpL_value rfl x_assign (wpL_value rfl x_assign ?_))))
  refine wpL_nil (thenE_norm ?_)
  refine wpE_seq ?_
  refine wpE_region ?_
  refine wpL_value rfl x_move ?_
  have hlt23 := hS23.lt
  have hnow23 := hS23.now.1
  have hS25 := (hS23.chg0 hc24).chg hc25 (fun x hx h => by have := hlt23 x hx; have := hF24 x h; omega) (fun x hx => by have := hF24 x hx; omega)
  refine wpL_call rfl C49 (used_run hS25) ?_
  rintro v26 w26 ⟨ho26, hS26, hc26⟩
  rw [show usedC (setC (fun _ => none) 3 (some (keyN 1, keyN 2))) = [3] by decide] at ho26
  have hf26 := ho26.some (n := 1) rfl (by decide)
  obtain ⟨b26, o26, c26, hv26⟩ := hf26
  subst hv26
  have hc1523 : Chg [] w15 w23 := ((((hc16.tr hc17).tr (hc18.t1 hc19 hn18)).tr hc20).tr hc21).tr (hc22.t1 hc23 hn22)
  have ha26 := (((ha15.chg0 hc1523).chg0 hc24).chg hc25 (fun h => by have := hF24 _ h; have := hc1523.1; have := ha15.lt; omega)).chg0 hc26
  refine wpL_value rfl x_assign ?_
  refine wpL_nil (thenE_norm ?_)
  refine wpE_seq ?_
  refine wpE_draw mixed (.pure 0 (.pure 1 (.pure 2 (.read 3 (.eff 4 [3] (.pure 5 (.pure 6 (.pure 7 (.pure 8 (.pure 9 (.pure 10 (.pure 11 (.pure 12 (.pure 13 (.pure 14 (.pure 15 (.pure 16 (.pure 17 (.pure 18 (.pure 19 (.pure 20 (.pure 21 (.pure 22 (.pure 23 (.pure 24 (.pure 25 (.pure 26 (.read 27 (.pure 28 (.pure 29 (.pure 30 (.pure 31 (.eff 32 [] (.pure 33 (.pure 34 (.pure 35 (.pure 36 (.eff 37 [] (.pure 38 (.pure 39 (.pure 40 (.pure 41 .nil)))))))))))))))))))))))))))))))))))))))))) (by kernel_rfl) ?_
  refine wpP_pure rfl rfl rfl (fun _ => x_move) ?_
  refine wpP_pure rfl rfl rfl (fun _ => x_to (x_eql rfl rfl) (congrArg Value.bool (decide_eq_true (rfl)))) ?_
  refine wpP_pure rfl rfl rfl (fun _ => x_move) ?_
  refine wpP_rdA 32 rfl rfl rfl Tryz.underlying23 rfl I23 rfl rfl (ha26) (rfl) ?_
  refine wpP_call rfl rfl rfl C47 (key_ok 2 _) ?_
  rintro _ w27 ⟨rfl, hc27⟩
  have hc27 : Chg [] w26 w27 := hc27
  refine ⟨⟨ha26.chg0 hc27, trivial⟩, ?_⟩
  refine wpP_pure rfl rfl rfl (fun _ => x_eqArr Tryz.underlying23 I5 rfl Tryz.underlying5 (by kernel_rfl) rfl rfl (rfl) (rfl)) ?_
  refine wpP_pure rfl rfl rfl (fun _ => (x_pick_t rfl)) ?_
  refine wpP_pure rfl rfl rfl (fun _ => x_move) ?_
  refine wpP_pure rfl rfl rfl (fun _ => x_move) ?_
  refine wpP_pure rfl rfl rfl (fun _ => x_to (x_eql rfl rfl) (congrArg Value.bool (decide_eq_true (rfl)))) ?_
  refine wpP_pure rfl rfl rfl (fun _ => (x_pick_t rfl)) ?_
  refine wpP_pure rfl rfl rfl (fun _ => x_move) ?_
  refine wpP_pure rfl rfl rfl (fun _ => x_move) ?_
  refine wpP_pure rfl rfl rfl (fun _ => x_to (x_eql rfl rfl) (congrArg Value.bool (decide_eq_true (rfl)))) ?_
  refine wpP_pure rfl rfl rfl (fun _ => (x_pick_t rfl)) ?_
  refine wpP_pure rfl rfl rfl (fun _ => x_move) ?_
  refine wpP_pure rfl rfl rfl (fun _ => x_move) ?_
  refine wpP_pure rfl rfl rfl (fun _ => x_to (x_eql rfl rfl) (congrArg Value.bool (decide_eq_true (rfl)))) ?_
  refine wpP_pure rfl rfl rfl (fun _ => (x_pick_t rfl)) ?_
  refine wpP_pure rfl rfl rfl (fun _ => x_move) ?_
  refine wpP_pure rfl rfl rfl (fun _ => x_move) ?_
  refine wpP_pure rfl rfl rfl (fun _ => (x_len_slice rfl Tryz.underlying95)) ?_
  refine wpP_pure rfl rfl rfl (fun _ => x_to (x_eql rfl rfl) (congrArg Value.bool (decide_eq_true (rfl)))) ?_
  refine wpP_pure rfl rfl rfl (fun _ => (x_pick_t rfl)) ?_
  refine wpP_pure rfl rfl rfl (fun _ => x_move) ?_
  refine wpP_pure rfl rfl rfl (fun _ => x_move) ?_
  refine wpP_ex rfl rfl rfl (x_idx (0) Tryz.underlying95 I3 rfl ((ho26.mod0 hc27).sl) rfl rfl (by first | rfl | omega) (by decide)) ?_
  rintro _ ⟨bi, oi, rfl, hei, hbi⟩
  refine wpP_rd rfl rfl rfl Tryz.underlying3 rfl rfl (((ho26.mod0 hc27).sl.at hei rfl).c0 rfl) ?_
  refine wpP_pure rfl rfl rfl (fun _ => x_to (x_eql rfl rfl) (congrArg Value.bool (decide_eq_true (rfl)))) ?_
  refine wpP_pure rfl rfl rfl (fun _ => (x_pick_t rfl)) ?_
  refine wpP_pure rfl rfl rfl (fun _ => x_move) ?_
  refine wpP_pure rfl rfl rfl (fun _ => x_move) ?_
  refine wpP_call rfl rfl rfl C50 (erase_run (hS26.chg0 hc27) (by decide) 3 (by decide)) ?_
  rintro _ w28 ⟨rfl, hS28, hc28⟩
  refine ⟨trivial, ?_⟩
  refine wpP_pure rfl rfl rfl (fun _ => x_to (x_eql rfl rfl) (congrArg Value.bool (decide_eq_true (rfl)))) ?_
  refine wpP_pure rfl rfl rfl (fun _ => (x_pick_t rfl)) ?_
  refine wpP_pure rfl rfl rfl (fun _ => x_move) ?_
  refine wpP_pure rfl rfl rfl (fun _ => x_move) ?_
  refine wpP_call rfl rfl rfl C49 (used_run hS28) ?_
  rintro v29 w29 ⟨ho29, hS29, hc29⟩
  refine ⟨trivial, ?_⟩
  rw [show usedC (setC (setC (fun _ => none) 3 (some (keyN 1, keyN 2))) 3 none) = [] by decide] at ho29
  have hf29 := ho29.form (n := 0) rfl
  obtain ⟨p29, c29, hv29⟩ := hf29
  subst hv29
  refine wpP_pure rfl rfl rfl (fun _ => (x_len_slice rfl Tryz.underlying95)) ?_
  refine wpP_pure rfl rfl rfl (fun _ => (x_eql rfl rfl)) ?_
  refine wpP_pure rfl rfl rfl (fun _ => (x_pick_t rfl)) ?_
  refine wpP_pure rfl rfl rfl (fun _ => x_assign) ?_
  refine wpP_nil (thenE_norm ?_)
  refine wpE_ret (fin_ret ?_)
  exact ⟨rfl, hS29.now⟩
end Go.Proofs.YtenhmbhflgnhlaaGreat
