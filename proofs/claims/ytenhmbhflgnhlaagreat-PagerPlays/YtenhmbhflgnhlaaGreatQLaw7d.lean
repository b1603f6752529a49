/- every row of calls, crashes, the power going within a commit: what each tells -/
import Derived.Test.YtenhmbhflgnhlaaGreatQOne7
namespace Go.Proofs.YtenhmbhflgnhlaaGreat
open Go Go.Sac
set_option maxRecDepth 100000
set_option maxHeartbeats 4000000
theorem nodup_lt : ∀ (L : Nat) (l : List Nat), l.Nodup → (∀ x ∈ l, x < L) → l.length ≤ L
  | 0, l, _, h => by
    cases l with
    | nil => simp
    | cons a l => exact absurd (h a (by simp)) (by omega)
  | L + 1, l, hn, h => by
    by_cases hm : L ∈ l
    · have h1 := nodup_lt L (l.erase L) (hn.erase L) (fun x hx => by
        have h2 := (hn.mem_erase_iff).1 hx
        have h3 := h x h2.2
        have h4 := h2.1
        omega)
      rw [List.length_erase_of_mem hm] at h1
      omega
    · have := nodup_lt L l hn (fun x hx => by
        have h3 := h x hx
        have h4 : x ≠ L := fun e => hm (e ▸ hx)
        omega)
      omega
section
variable {w0 w : World} {b r n k : Nat} {kv : Value} {R : PR} {key : List UInt8} {ds dp : DSt} {P : Pg} {V : UInt32 → List UInt8}
theorem pend_len (hd : DiskAt w b kv r ds) (hf : ds.Fine) : ds.pend.length ≤ 100000 := by
  obtain ⟨_, _, hm, _⟩ := hd
  obtain ⟨es, cl, _, _, hn, _⟩ := hm
  have hn : ((vPend ds.pend).map (·.1)).Nodup := hn
  rw [vPend_keys] at hn
  have h2 : ((ds.pend.map (·.1)).map Int.toNat).Nodup := by
    unfold List.Nodup at hn ⊢
    rw [List.pairwise_map]
    refine hn.imp_of_mem fun {a b} ha hb hab e => hab ?_
    obtain ⟨p, hp, rfl⟩ := List.mem_map.1 ha
    obtain ⟨q, hq, rfl⟩ := List.mem_map.1 hb
    have := hf.keys p hp
    have := hf.keys q hq
    omega
  have h3 := nodup_lt ds.kept.length _ h2 (fun x hx => by
    obtain ⟨a, ha, rfl⟩ := List.mem_map.1 hx
    obtain ⟨p, hp, rfl⟩ := List.mem_map.1 ha
    have := hf.keys p hp
    omega)
  rw [List.length_map, List.length_map] at h3
  have := hf.size
  omega
theorem crash_run (hd : RunD w0 w b kv r ds) (hf : ds.Fine) (cv : Value) (ch : List UInt8) (hs : SlE w cv ch) (hlt : ch ≠ [] → ∀ x ∈ blkOf cv, x < w0.heap.size) (hl : ch.length ≤ 1000) :
    Ret Tryz.prog 30 #[.pointer (some ⟨b, 0, none⟩), cv] w fun v w' => RunD w0 w' b kv r (ds.crash ch) ∧ Chg (DF b kv r) w w' := by
  have hfm := hs.form
  refine (Crash_ok w b r kv cv ds ch hd.1 hf (pend_len hd.1 hf) hfm ?_ (by omega)).mono ?_
  · rcases hs with hs | ⟨h0, _⟩
    · by_cases h0 : ch = []
      · exact .inl h0
      · exact .inr ⟨hs, fun x hx hh => by have := hlt h0 x hx; have := hd.2.2 x hh; omega⟩
    · exact .inl h0
  · rintro v w' ⟨h1, hc⟩
    exact ⟨⟨h1, hd.2.1.t0 hc hd.2.2, hd.2.2⟩, hc⟩
theorem open_runM {a M : Nat} {s : Sup} (hd : RunD w0 w b kv r ds) (hC : PCraM n k key ds a s V M) (hk : k + 1 ≤ 40000) (hkl : key.length = 32) :
    Ret Tryz.prog 44 #[.pointer (some ⟨b, 0, none⟩), arrV key] w fun v w' => ∃ R f ds', v = .tuple #[.pointer (some ⟨R.pb, 0, none⟩), .int .i64 0] ∧ PS w0 w' b kv r R n (k + 1) key ds' ⟨s.st, opS key ds s, (a + 1) % 2, 0, f, false⟩ V ∧ (opS key ds s).commit.toNat ≤ M + 1 ∧ Chg (DF b kv r) w w' ∧ ∀ x ∈ PF R, w.heap.size ≤ x := by
  obtain ⟨e0, e1, hI, hL, hcm⟩ := open_pokM hC hk
  have hlen := hC.len
  have hsz := hC.size
  have hst := hC.steps
  have hfew := hC.few
  have hlt := hd.1.lt
  have k1 := hd.2.1.1
  refine (POpen_ok w b r kv ds key hkl hd.1 hC.fine (by unfold DSt.off; rw [hC.off]; rfl) (by omega) (by omega) (fun s' a' hs' i hi => ?_)).mono ?_
  · rw [e0] at hs'; cases hs'
    have := hC.used i (hC.written i hi)
    omega
  · rintro v w' ⟨⟨e, P, ds', hO, hd', hv⟩, hc⟩
    rcases hO with ⟨q, _⟩ | ⟨_, q, _⟩ | ⟨_, s', a', hn, hO⟩
    · exfalso; rw [manyN_of hlen hsz.2] at q; omega
    · rw [e0] at q; cases q
    · rw [e0] at hn
      cases hn
      rcases hO with ⟨q, _⟩ | ⟨_, rfl, rfl, f, hf, rfl⟩
      · exact absurd e1 q
      · rcases hv with ⟨q, _⟩ | ⟨P', R, hP', rfl, hP, hR⟩
        · cases q
        · cases hP'
          exact ⟨R, f, _, rfl, ⟨⟨hd', hd.2.1.t0 hc hd.2.2, hd.2.2⟩, hP, fun x hx => ⟨by have := hR x hx; omega, fun hh => by have := hR x hx; have := hlt x hh; omega⟩, hI f hf, hkl⟩, hcm, hc, hR⟩
theorem cut_run (hd : RunD w0 w b kv r dp) (hP : PagerAt w R b key P) (hap : ∀ x ∈ PF R, w0.heap.size ≤ x ∧ x ∉ DF b kv r) (hI : PInv n k key ds P V) (e1 : dp.kept = ds.kept) (e2 : dp.pend = ds.pend) (e3 : dp.steps = ds.steps) (hf : dp.Fine) (hkl : key.length = 32) (hk : k + 1 ≤ 40000) (hcm : P.kept.commit.toNat + 1 < 256) (root : UInt32) (txt : List UInt8) :
    Ret Tryz.prog 23 #[.pointer (some ⟨R.pb, 0, none⟩), .int .u32 root.toNat, str txt] w fun v w' => ∃ (e : Int) (dq : DSt), v = .int .i64 e ∧ RunD w0 w' b kv r dq ∧ dq.Fine ∧ Chg (PF R ++ DF b kv r) w w' ∧
      ((200 < txt.length ∧ e = 11 ∧ ∀ ch, PCraM n (k + 1) key (dq.crash ch) P.at_ P.kept V P.kept.commit.toNat) ∨
       (txt.length ≤ 200 ∧ (∃ i, P.fresh i = true ∧ P.now.written i = false) ∧ e = 71 ∧ ∀ ch, PCraM n (k + 1) key (dq.crash ch) P.at_ P.kept V P.kept.commit.toNat) ∨
       (txt.length ≤ 200 ∧ (∀ i, P.fresh i = true → P.now.written i = true) ∧ e = 0 ∧ ∀ ch, PCraM n (k + 1) key (dq.crash ch) ((P.at_ + 1) % 2) (comS P root txt) V (P.kept.commit.toNat + 1)) ∨
       (txt.length ≤ 200 ∧ (∀ i, P.fresh i = true → P.now.written i = true) ∧ e = 61 ∧ 0 < dp.offAt ∧ ∀ ch, (∃ M, M ≤ P.kept.commit.toNat + 1 ∧ PCraM n (k + 1) key (dq.crash ch) P.at_ P.kept V M) ∨ PCraM n (k + 1) key (dq.crash ch) ((P.at_ + 1) % 2) (comS P root txt) V (P.kept.commit.toNat + 1))) := by
  have hst := hI.ok.steps
  have hsz := hI.ok.size
  have hfew := hI.few
  have hge : ∀ x ∈ PF R ++ DF b kv r, w0.heap.size ≤ x := fun x hx => by
    rcases List.mem_append.1 hx with hx | hx
    · exact (hap x hx).1
    · exact hd.2.2 x hx
  refine (Commit_ok w R b r kv dp key hkl P hP hd.1 hf (by omega) (fun x hx => (hap x hx).2) hI.ok.at_ (fun i q => by have := hI.ok.used i q; omega) (fun i q => by have := hI.ok.used i (hI.ok.written i q); omega) root txt).mono ?_
  rintro v w' ⟨⟨e, R', P', ds', rfl, hpb, hg, hR, hC, hP, hd'⟩, hc⟩
  have hrun : RunD w0 w' b kv r ds' := ⟨hd', hd.2.1.t0 hc hge, hd.2.2⟩
  have hun : (¬ ∃ i, P.fresh i = true ∧ P.now.written i = false) → ∀ i, P.fresh i = true → P.now.written i = true := fun h i hi => by
    cases hq : P.now.written i with
    | true => rfl
    | false => exact absurd ⟨i, hi, hq⟩ h
  have hfs := DSt.flush_steps dp
  have hff := hf.flush (by omega)
  rcases hC with ⟨q, _⟩ | ⟨_, q, rfl, rfl, rfl⟩ | ⟨_, ht, hb, rfl, rfl, rfl⟩ | ⟨_, ht, hb, ⟨q, rfl, rfl, rfl⟩ | ⟨q0, q, rfl, rfl, rfl⟩ | ⟨q0, q, rfl, rfl, rfl⟩⟩
  · rw [hI.ok.broken] at q; cases q
  · exact ⟨_, _, rfl, hrun, hf, hc, .inl ⟨q, rfl, fun ch => hI.cut0 hk e1 e2 (by omega) hf ch⟩⟩
  · exact ⟨_, _, rfl, hrun, hf, hc, .inr (.inl ⟨ht, hb, rfl, fun ch => hI.cut0 hk e1 e2 (by omega) hf ch⟩)⟩
  · rcases flush_res dp with h0 | ⟨h61, hstep, hoff⟩
    · exact absurd h0 q
    · rw [h61]
      refine ⟨_, _, rfl, hrun, hff, hc, .inr (.inr (.inr ⟨ht, hun hb, rfl, hoff, fun ch => .inl ⟨_, Nat.le_succ _, ?_⟩⟩))⟩
      refine hI.cut0 hk ?_ ?_ (by omega) hff ch
      · rw [hstep]; exact e1
      · rw [hstep]; exact e2
  · have ht2 : (comS P root txt).txt.length ≤ 200 := ht
    have hb2 := laysD_bnd key dp.flush.1 ((P.at_ + 1) % 2) (comS P root txt) hff ht2 (by omega)
    have hoff : 0 < dp.offAt := by
      apply Classical.byContradiction
      intro h0
      have hfo : dp.flush.1.offAt = 0 := by rw [flush_offAt]; omega
      exact q (laysD_ok (k := key) (a := (P.at_ + 1) % 2) (s := comS P root txt) hfo (by omega) (by rw [DSt.flush_len, e1, hI.ok.len]; omega) ht2).1
    rcases hI.cut1 hk e1 e2 e3 hf q0 root txt ht hcm [] with ⟨z, _⟩ | ⟨z, _⟩
    · exact absurd z q
    · rw [z]
      refine ⟨_, _, rfl, hrun, hb2.1, hc, .inr (.inr (.inr ⟨ht, hun hb, rfl, hoff, fun ch => ?_⟩))⟩
      rcases hI.cut1 hk e1 e2 e3 hf q0 root txt ht hcm ch with ⟨z2, _⟩ | ⟨_, z2 | z2⟩
      · exact absurd z2 q
      · exact .inl ⟨_, Nat.le_refl _, z2⟩
      · exact .inr z2
  · have ht2 : (comS P root txt).txt.length ≤ 200 := ht
    have hb2 := laysD_bnd key dp.flush.1 ((P.at_ + 1) % 2) (comS P root txt) hff ht2 (by omega)
    refine ⟨_, _, rfl, hrun, hb2.1, hc, .inr (.inr (.inl ⟨ht, hun hb, rfl, fun ch => ?_⟩))⟩
    rcases hI.cut1 hk e1 e2 e3 hf q0 root txt ht hcm ch with ⟨_, z2⟩ | ⟨z2, _⟩
    · exact z2
    · rw [q] at z2; cases z2
end
end Go.Proofs.YtenhmbhflgnhlaaGreat

