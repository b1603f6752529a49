/- every row of calls, crashes, the power going within a commit: what each tells -/
import Derived.Test.YtenhmbhflgnhlaaGreatQPager8
namespace Go.Proofs.YtenhmbhflgnhlaaGreat
open Go Go.Sac
set_option maxRecDepth 100000
set_option maxHeartbeats 4000000
theorem Root_ok (w : World) (R : PR) (b : Nat) (k : List UInt8) (P : Pg) (h : PagerAt w R b k P) :
    Ret Tryz.prog 37 #[.pointer (some ⟨R.pb, 0, none⟩)] w fun v w' => v = .int .u32 P.now.root.toNat ∧ Hp w' w := by
  refine enter [2] Tryz.func37 rfl rfl (Nat.le_of_ble_eq_true rfl) ?_
  refine wpE_seq ?_
  refine wpE_region ?_
  refine wpL_value rfl (x_as (v := .int .u32 ((0 : UInt32).toNat : Nat)) rfl) ?_
  refine wpL_nil (thenE_norm ?_)
  refine wpE_seq ?_
  refine wpE_region ?_
  refine wpL_value rfl x_move (wpL_value rfl (x_nil rfl) (wpL_value rfl (x_fieldAddr Tryz.underlying128 rfl I123 rfl rfl) (wpL_value rfl (x_fieldAddr Tryz.underlying123 rfl I34 rfl rfl) ?_)))
  refine wpL_value rfl (x_load Tryz.underlying34 rfl rfl (h.a 0 (by decide) rfl)) ?_
  refine wpL_value rfl x_assign ?_
  refine wpL_nil (thenE_norm ?_)
  refine wpE_ret (fin_ret ?_)
  exact ⟨rfl, rfl⟩
theorem Meta_ok (w : World) (R : PR) (b : Nat) (k : List UInt8) (P : Pg) (h : PagerAt w R b k P) :
    Ret Tryz.prog 38 #[.pointer (some ⟨R.pb, 0, none⟩)] w fun v w' => v = str P.now.txt ∧ Hp w' w := by
  refine enter [2] Tryz.func38 rfl rfl (Nat.le_of_ble_eq_true rfl) ?_
  refine wpE_seq ?_
  refine wpE_region ?_
  refine wpL_value rfl x_assign ?_
  refine wpL_nil (thenE_norm ?_)
  refine wpE_seq ?_
  refine wpE_region ?_
  refine wpL_value rfl x_move (wpL_value rfl (x_nil rfl) (wpL_value rfl (x_fieldAddr Tryz.underlying128 rfl I123 rfl rfl) (wpL_value rfl (x_fieldAddr Tryz.underlying123 rfl I9 rfl rfl) ?_)))
  refine wpL_value rfl (x_load Tryz.underlying9 rfl rfl (h.a 1 (by decide) rfl)) ?_
  refine wpL_value rfl x_assign ?_
  refine wpL_nil (thenE_norm ?_)
  refine wpE_ret (fin_ret ?_)
  exact ⟨rfl, rfl⟩
theorem Room_ok (w : World) (R : PR) (b r : Nat) (kv : Value) (ds : DSt) (k : List UInt8) (hk : k.length = 32) (P : Pg) (h : PagerAt w R b k P) (hd : DiskAt w b kv r ds) (hl : ds.kept.length ≤ 4000) (n : Nat) (hn : manyN ds.kept.length = n) :
    Ret Tryz.prog 32 #[.pointer (some ⟨R.pb, 0, none⟩)] w fun v w' => v = .int .i64 (roomN P n) ∧ Hp w' w := by
  have hn4 : n ≤ 400 := by unfold manyN at hn; omega
  refine enter [2] Tryz.func32 rfl rfl (Nat.le_of_ble_eq_true rfl) ?_
  refine wpE_seq ?_
  refine wpE_region ?_
  refine wpL_value rfl x_assign ?_
  refine wpL_nil (thenE_norm ?_)
  refine wpE_seq ?_
  refine wpE_region ?_
  refine wpL_value rfl x_assign ?_
  refine wpL_nil (thenE_norm ?_)
  refine wpE_seq ?_
  refine wpE_seq ?_
  refine wpE_region ?_
  refine wpL_value rfl x_move ?_
  refine wpL_call rfl C31 (PLen_ok w R b r kv ds k hk P h hd hl) ?_
  rintro v1 w1 ⟨hv1, hh1⟩
  rw [hn] at hv1
  subst hv1
  refine wpL_value rfl (x_conv32u rfl Tryz.underlying3 Tryz.underlying34) (wpL_value rfl (x_mas (v := .int .u32 ((0 : UInt32).toNat : Nat)) rfl) ?_)
  refine wpL_nil (thenE_norm ?_)
  refine wpE_block ?_
  have hnu : toU32 (n : Int) = UInt32.ofNat n := toU32_nat n
  have hnt : (UInt32.ofNat n).toNat = n := by rw [UInt32.toNat_ofNat']; omega
  refine wpE_loop [3, 8] [3, 4, 8, 9, 10, 11, 12, 13, 14, 15, 16] (fun m vs w' => ∃ i : Nat, vs = [.int .i64 (roomN P i), .int .u32 (UInt32.ofNat i).toNat] ∧ i + m = n ∧ Hp w' w) (n) (by kernel_rfl) ?_ ?_
  · exact ⟨0, rfl, by omega, hh1⟩
  · rintro m vs J w2 ⟨i, rfl, hi, hh2⟩
    refine wpE_seq ?_
    refine wpE_region ?_
    refine wpL_value rfl (x_lss32u rfl rfl) ?_
    refine wpL_nil (thenE_norm ?_)
    refine wpE_seq ?_
    have h2 := h.chg0 (Chg.heap hh2)
    have hit : (UInt32.ofNat i).toNat = i := by rw [UInt32.toNat_ofNat']; omega
    refine wpE_cond_d rfl (fun hlt => ?_) (fun hlt => ?_)
    · skip
      refine wpE_skip (thenE_norm ?_)
      refine wpE_seq ?_
      refine wpE_block ?_
      refine wpE_seq ?_
      refine wpE_region ?_
      refine wpL_value rfl x_move (wpL_value rfl x_assign ?_)
      refine wpL_nil (thenE_norm ?_)
      refine wpE_seq ?_
      refine wpE_region ?_
      refine wpL_value rfl x_move (wpL_value rfl x_move ?_)
      have hlt : UInt32.ofNat i < toU32 (n : Int) := hlt
      rw [hnu, UInt32.lt_iff_toNat_lt, hit, hnt] at hlt
      have hob1 : ∃ q, m = q + 1 := ⟨m - 1, by omega⟩
      obtain ⟨m, rfl⟩ := hob1
      have hnx : UInt32.ofNat i + 1 = UInt32.ofNat (i + 1) := by
        apply UInt32.toNat_inj.1
        rw [UInt32.toNat_add, hit, UInt32.toNat_ofNat']
        show (i + 1) % 4294967296 = _
        rfl
      have hrs := roomN_succ P i
      have hrl := roomN_le P i
      refine wpL_call rfl C62 (free_ok w2 R b k hk P h2 (UInt32.ofNat i)) ?_
      rintro _ w3 ⟨rfl, hh3⟩
      refine wpL_nil (thenE_norm ?_)
      refine wpE_cond rfl (fun hf => ?_) (fun hf => ?_)
      · skip
        refine wpE_region ?_
        refine wpL_value rfl x_move (wpL_value rfl (x_add64 rfl rfl (by omega)) (wpL_value rfl x_assign ?_))
        refine wpL_nil (blockE_norm (thenE_norm ?_))
        refine wpE_region ?_
        refine wpL_value rfl (x_add32u (b := 1) rfl rfl) (wpL_value rfl x_move ?_)
        refine wpL_nil (thenE_norm ?_)
        rw [if_pos hf] at hrs
        refine Exists.intro (m) (And.intro (by omega) ?_)
        exact ⟨i + 1, vs_cons (int_eq (by omega)) (vs_cons (u32_eq hnx) vs_nil), by omega, hh3.trans hh2⟩
      · skip
        refine wpE_skip (blockE_norm (thenE_norm ?_))
        refine wpE_region ?_
        refine wpL_value rfl (x_add32u (b := 1) rfl rfl) (wpL_value rfl x_move ?_)
        refine wpL_nil (thenE_norm ?_)
        rw [if_neg (by rw [hf]; decide)] at hrs
        refine Exists.intro (m) (And.intro (by omega) ?_)
        exact ⟨i + 1, vs_cons (int_eq (by omega)) (vs_cons (u32_eq hnx) vs_nil), by omega, hh3.trans hh2⟩
    · skip
      refine wpE_exit (thenE_exit (thenE_exit (blockE_exit (thenE_norm ?_))))
      refine wpE_seq ?_
      refine wpE_region ?_
      refine wpL_value rfl x_move (wpL_value rfl x_assign ?_)
      refine wpL_nil (thenE_norm ?_)
      refine wpE_ret (fin_ret ?_)
      have hlt : ¬ UInt32.ofNat i < toU32 (n : Int) := hlt
      rw [hnu, UInt32.lt_iff_toNat_lt, hit, hnt] at hlt
      have hin : i = n := by omega
      subst hin
      exact ⟨rfl, hh2⟩
def FreeR (P : Pg) (i : UInt32) (v : Value) (P' : Pg) : Prop :=
  (P.broken = true ∧ v = .int .i64 61 ∧ P' = P) ∨ (P.broken = false ∧ P.now.used i = false ∧ v = .int .i64 71 ∧ P' = P) ∨
  (P.broken = false ∧ P.now.used i = true ∧ v = .int .i64 0 ∧ P' = { P with now := { P.now with used := delPg P.now.used i, written := delPg P.now.written i } })
theorem Free_ok (w : World) (R : PR) (b : Nat) (k : List UInt8) (hk : k.length = 32) (P : Pg) (h : PagerAt w R b k P) (i : UInt32) :
    Ret Tryz.prog 33 #[.pointer (some ⟨R.pb, 0, none⟩), .int .u32 i.toNat] w fun v w' => (∃ P', FreeR P i v P' ∧ PagerAt w' R b k P') ∧ Chg [R.u, R.r] w w' := by
  have hob2 := h.2.1
  obtain ⟨m, hm, hml⟩ := hob2
  refine enter [4] Tryz.func33 rfl rfl (Nat.le_of_ble_eq_true rfl) ?_
  refine wpE_seq ?_
  refine wpE_region ?_
  refine wpL_value rfl x_assign ?_
  refine wpL_nil (thenE_norm ?_)
  refine wpE_seq ?_
  refine wpE_block ?_
  refine wpE_seq ?_
  refine wpE_region ?_
  refine wpL_value rfl x_move (wpL_value rfl (x_nil rfl) (wpL_value rfl (x_fieldAddr Tryz.underlying128 rfl I4 rfl rfl) ?_))
  refine wpL_value rfl (x_load Tryz.underlying4 rfl rfl (h.c hk 9 rfl)) ?_
  refine wpL_value rfl x_assign ?_
  refine wpL_nil (thenE_norm ?_)
  refine wpE_cond rfl (fun hbr => ?_) (fun hbr => ?_)
  · skip
    refine wpE_seq ?_
    refine wpE_region ?_
    refine wpL_value rfl x_assign ?_
    refine wpL_nil (thenE_norm ?_)
    refine wpE_ret (blockE_ret (thenE_ret (fin_ret ?_)))
    exact ⟨⟨P, .inl ⟨hbr, rfl, rfl⟩, h⟩, Chg.refl' _ _⟩
  · skip
    refine wpE_seq ?_
    refine wpE_region ?_
    refine wpL_value rfl x_move (wpL_value rfl (x_nil rfl) (wpL_value rfl (x_fieldAddr Tryz.underlying128 rfl I123 rfl rfl) (wpL_value rfl (x_fieldAddr Tryz.underlying123 rfl I121 rfl rfl) ?_)))
    have hbr : P.broken = false := by simpa using hbr
    refine wpL_value rfl (x_load Tryz.underlying121 rfl rfl (h.a 2 (by decide) rfl)) ?_
    refine wpL_value rfl x_move ?_
    refine wpL_value rfl (x_to (x_lookup (k := i) Tryz.underlying121 (keyOk_u32 Tryz.underlying34) I4 rfl rfl rfl hm) (SetAt.look hml)) ?_
    refine wpL_value rfl (x_not rfl) (wpL_value rfl x_assign ?_)
    refine wpL_nil (thenE_norm ?_)
    refine wpE_cond rfl (fun hu => ?_) (fun hu => ?_)
    · skip
      refine wpE_seq ?_
      refine wpE_region ?_
      refine wpL_value rfl x_assign ?_
      refine wpL_nil (thenE_norm ?_)
      refine wpE_ret (blockE_ret (thenE_ret (fin_ret ?_)))
      exact ⟨⟨P, .inr (.inl ⟨hbr, by simpa using hu, rfl, rfl⟩), h⟩, Chg.refl' _ _⟩
    · skip
      refine wpE_skip (blockE_norm (thenE_norm ?_))
      refine wpE_seq ?_
      refine wpE_region ?_
      refine wpL_value rfl x_move (wpL_value rfl (x_nil rfl) (wpL_value rfl (x_fieldAddr Tryz.underlying128 rfl I123 rfl rfl) (wpL_value rfl (x_fieldAddr Tryz.underlying123 rfl I121 rfl rfl) ?_)))
      have hu : P.now.used i = true := by simpa using hu
      refine wpL_value rfl (x_load Tryz.underlying121 rfl rfl (h.a 2 (by decide) rfl)) ?_
      refine wpL_value rfl x_move ?_
      refine wpL_exv rfl (x_delete (k := i) Tryz.underlying121 (keyOk_u32 Tryz.underlying34) rfl rfl hm) ?_
      rintro w1 ⟨hm1, hc1, hs1⟩
      refine wpL_nil (thenE_norm ?_)
      refine wpE_seq ?_
      refine wpE_region ?_
      refine wpL_value rfl x_move (wpL_value rfl (x_nil rfl) (wpL_value rfl (x_fieldAddr Tryz.underlying128 rfl I123 rfl rfl) (wpL_value rfl (x_fieldAddr Tryz.underlying123 rfl I121 rfl rfl) ?_)))
      have h1 := h.updU ⟨_, hm1, del_law hml hm.nodup i⟩ hc1
      have hob3 := h1.2.2.1
      obtain ⟨m2, hm2, hml2⟩ := hob3
      refine wpL_value rfl (x_load Tryz.underlying121 rfl rfl (h1.a 3 (by decide) rfl)) ?_
      refine wpL_value rfl x_move ?_
      refine wpL_exv rfl (x_delete (k := i) Tryz.underlying121 (keyOk_u32 Tryz.underlying34) rfl rfl hm2) ?_
      rintro w2 ⟨hm3, hc2, hs2⟩
      refine wpL_nil (thenE_norm ?_)
      refine wpE_seq ?_
      refine wpE_region ?_
      refine wpL_value rfl x_assign ?_
      refine wpL_nil (thenE_norm ?_)
      refine wpE_ret (fin_ret ?_)
      exact ⟨⟨_, .inr (.inr ⟨hbr, hu, rfl, rfl⟩), h1.updW ⟨_, hm3, del_law hml2 hm2.nodup i⟩ hc2⟩, (hc1.mono (by simp)).tr (hc2.mono (by simp))⟩
theorem Undo_ok (w : World) (R : PR) (b : Nat) (k : List UInt8) (hk : k.length = 32) (P : Pg) (h : PagerAt w R b k P) :
    Ret Tryz.prog 35 #[.pointer (some ⟨R.pb, 0, none⟩)] w fun v w' => ∃ u r, w.heap.size ≤ u ∧ w.heap.size ≤ r ∧ PagerAt w' { R with u := u, r := r } b k { P with now := P.kept.st } ∧ Chg [R.pb] w w' := by
  have hpk := deriveL_length k tPage 0
  have hlen : (pgL k (deriveL k tPage 0) (pgA P R b) (pgC P R)).length = 79 := pgL_length hk hpk rfl rfl
  have hat : At w R.pb 69 (stC P.kept.st R.ku R.kr) := by
    have := (h.1.at (off := 69) (l := pgC P R) (by rw [pgL_at hk hpk rfl]; exact List.take_of_length_le (Nat.le_refl _))).take 4
    exact this
  refine enter [] Tryz.func35 rfl rfl (Nat.le_of_ble_eq_true rfl) ?_
  refine wpE_region ?_
  refine wpL_value rfl x_move (wpL_value rfl x_move (wpL_value rfl (x_nil rfl) (wpL_value rfl (x_fieldAddr Tryz.underlying128 rfl I125 rfl rfl) (wpL_value rfl (x_fieldAddr Tryz.underlying125 rfl I123 rfl rfl) ?_))))
  refine wpL_value rfl (x_loadA Tryz.underlying123 rfl I123 rfl hat rfl) ?_
  refine wpL_call rfl C73 (copied_ok w P.kept.st R.ku R.kr h.2.2.2.1 h.2.2.2.2.1) ?_
  rintro _ w1 ⟨u, r, rfl, hu, hr, hc1, hnu, hnr, hne⟩
  refine wpL_value rfl (x_nil rfl) (wpL_value rfl (x_fieldAddr Tryz.underlying128 rfl I123 rfl rfl) ?_)
  have h1 := h.chg0 hc1
  refine wpL_exs rfl (x_storeB (l := stC P.kept.st u r) I123 rfl rfl h1.1 rfl rfl (by rw [hlen]; exact Nat.le_of_ble_eq_true rfl) (stC_cell _ _ _) (pgL_splA rfl 0 (stC P.kept.st u r) (Nat.le_of_ble_eq_true rfl) (A' := pgA { P with now := P.kept.st } { R with u := u, r := r } b) rfl)) ?_
  rintro w2 ⟨hB2, hc2, hs2⟩
  refine wpL_nil (fin_end ?_)
  have hlt := h.lt
  have hpb := hlt R.pb (by simp [PF])
  have hku := hlt R.ku (by simp [PF])
  have hkr := hlt R.kr (by simp [PF])
  have hg := hlt R.g (by simp [PF])
  have hob4 := PR.apart h.2.2.2.2.2.2
  obtain ⟨q1, q2, q3, q4, q5⟩ := hob4
  refine ⟨u, r, hnu, hnr, ⟨hB2, hu.mod hc2 (by simp; omega), hr.mod hc2 (by simp; omega), h1.2.2.2.1.mod hc2 (by simp; omega), h1.2.2.2.2.1.mod hc2 (by simp; omega), h1.2.2.2.2.2.1.mod hc2 (by simp; omega), ?_⟩, hc1.tr0' hc2⟩
  simp only [PF, List.nodup_cons, List.mem_cons, List.not_mem_nil, or_false, not_or, List.nodup_nil, and_true, not_false_eq_true]
  omega
end Go.Proofs.YtenhmbhflgnhlaaGreat

