/- every row of calls, crashes, the power going within a commit: what each tells -/
import Derived.Test.YtenhmbhflgnhlaaGreatQPager7
namespace Go.Proofs.YtenhmbhflgnhlaaGreat
open Go Go.Sac
set_option maxRecDepth 100000
set_option maxHeartbeats 4000000
theorem breaks_ok (w : World) (R : PR) (b : Nat) (k : List UInt8) (hk : k.length = 32) (P : Pg) (h : PagerAt w R b k P) (e : Int) :
    Ret Tryz.prog 69 #[.pointer (some ⟨R.pb, 0, none⟩), .int .i64 e] w fun v w' => v = .int .i64 e ∧ PagerAt w' R b k { P with broken := P.broken || decide (e = 61) } ∧ Chg [R.pb] w w' := by
  have hpk := deriveL_length k tPage 0
  have hnd := h.2.2.2.2.2.2
  have hlen : (pgL k (deriveL k tPage 0) (pgA P R b) (pgC P R)).length = 79 := pgL_length hk hpk rfl rfl
  have hn : R.pb ≠ R.u ∧ R.pb ≠ R.r ∧ R.pb ≠ R.ku ∧ R.pb ≠ R.kr ∧ R.pb ≠ R.g := by
    simp only [PF, List.nodup_cons, List.mem_cons, List.not_mem_nil, or_false, not_or] at hnd
    exact hnd.1
  have hfin : ∀ (x : Bool) (w' : World), Blk w' R.pb (spl (pgL k (deriveL k tPage 0) (pgA P R b) (pgC P R)) 78 [.bool x]) → Chg [R.pb] w w' → PagerAt w' R b k { P with broken := x } ∧ Chg [R.pb] w w' := fun x w' hB hc => by
    rw [show 78 = 69 + 9 from rfl, pgL_splC hk hpk rfl 9 [.bool x] (C' := pgC { P with broken := x } R) rfl] at hB
    exact ⟨⟨hB, h.2.1.mod hc (by simp; omega), h.2.2.1.mod hc (by simp; omega), h.2.2.2.1.mod hc (by simp; omega), h.2.2.2.2.1.mod hc (by simp; omega), h.2.2.2.2.2.1.mod hc (by simp; omega), hnd⟩, hc⟩
  refine enter [4] Tryz.func69 rfl rfl (Nat.le_of_ble_eq_true rfl) ?_
  refine wpE_seq ?_
  refine wpE_region ?_
  refine wpL_value rfl x_assign ?_
  refine wpL_nil (thenE_norm ?_)
  refine wpE_seq ?_
  refine wpE_region ?_
  refine wpL_value rfl x_move (wpL_value rfl x_move (wpL_value rfl (x_nil rfl) (wpL_value rfl (x_fieldAddr Tryz.underlying128 rfl I4 rfl rfl) ?_)))
  cases hb : P.broken with
  | true =>
    skip
    refine wpL_value rfl (x_load Tryz.underlying4 rfl rfl (h.c hk 9 (congrArg (fun b => some (Value.bool b)) hb))) ?_
    refine wpL_value rfl x_move (wpL_no rfl rfl (wpL_no rfl rfl (wpL_value rfl (x_pick_t rfl) (wpL_value rfl (x_nil rfl) (wpL_value rfl (x_fieldAddr Tryz.underlying128 rfl I4 rfl rfl) ?_)))))
    refine wpL_exs rfl (x_storeB1 I4 rfl rfl (h.1) rfl rfl ((by rw [hlen]; decide : 78 < _)) rfl (rfl)) ?_
    rintro w1 ⟨hB1, hc1, hs1⟩
    refine wpL_nil (thenE_norm ?_)
    refine wpE_seq ?_
    refine wpE_region ?_
    refine wpL_value rfl x_move (wpL_value rfl x_assign ?_)
    refine wpL_nil (thenE_norm ?_)
    refine wpE_ret (fin_ret ?_)
    exact ⟨rfl, hfin true _ hB1 hc1⟩
  | false =>
    skip
    refine wpL_value rfl (x_load Tryz.underlying4 rfl rfl (h.c hk 9 (congrArg (fun b => some (Value.bool b)) hb))) ?_
    refine wpL_value rfl x_move (wpL_yes rfl (wpL_value rfl x_move (wpL_yes rfl (wpL_value rfl (x_eql rfl rfl) (wpL_value rfl (x_pick_f rfl) (wpL_value rfl (x_nil rfl) (wpL_value rfl (x_fieldAddr Tryz.underlying128 rfl I4 rfl rfl) ?_)))))))
    refine wpL_exs rfl (x_storeB1 I4 rfl rfl (h.1) rfl rfl ((by rw [hlen]; decide : 78 < _)) rfl (rfl)) ?_
    rintro w1 ⟨hB1, hc1, hs1⟩
    refine wpL_nil (thenE_norm ?_)
    refine wpE_seq ?_
    refine wpE_region ?_
    refine wpL_value rfl x_move (wpL_value rfl x_assign ?_)
    refine wpL_nil (thenE_norm ?_)
    refine wpE_ret (fin_ret ?_)
    exact ⟨rfl, hfin (decide (e = 61)) _ hB1 hc1⟩
theorem PLen_ok (w : World) (R : PR) (b r : Nat) (kv : Value) (ds : DSt) (k : List UInt8) (hk : k.length = 32) (P : Pg) (h : PagerAt w R b k P) (hd : DiskAt w b kv r ds) (hl : ds.kept.length ≤ 4000) :
    Ret Tryz.prog 31 #[.pointer (some ⟨R.pb, 0, none⟩)] w fun v w' => v = .int .i64 (manyN ds.kept.length) ∧ Hp w' w := by
  refine enter [2] Tryz.func31 rfl rfl (Nat.le_of_ble_eq_true rfl) ?_
  refine wpE_seq ?_
  refine wpE_region ?_
  refine wpL_value rfl x_assign ?_
  refine wpL_nil (thenE_norm ?_)
  refine wpE_seq ?_
  refine wpE_region ?_
  refine wpL_value rfl x_move (wpL_value rfl (x_nil rfl) (wpL_value rfl (x_fieldAddr Tryz.underlying128 rfl I25 rfl rfl) ?_))
  refine wpL_value rfl (x_load Tryz.underlying25 rfl rfl (h.a 4 (by decide) rfl)) ?_
  refine wpL_call rfl C86 (many_ok w b r kv ds hd hl) ?_
  rintro _ w1 ⟨rfl, hh1⟩
  refine wpL_value rfl x_assign ?_
  refine wpL_nil (thenE_norm ?_)
  refine wpE_ret (fin_ret ?_)
  exact ⟨rfl, hh1⟩
theorem free_ok (w : World) (R : PR) (b : Nat) (k : List UInt8) (hk : k.length = 32) (P : Pg) (h : PagerAt w R b k P) (i : UInt32) :
    Ret Tryz.prog 62 #[.pointer (some ⟨R.pb, 0, none⟩), .int .u32 i.toNat] w fun v w' => v = .bool (P.free i) ∧ Hp w' w := by
  have hob1 := h.2.1
  obtain ⟨m, hm, hml⟩ := hob1
  have hob2 := h.2.2.2.1
  obtain ⟨m2, hm2, hml2⟩ := hob2
  refine enter [4] Tryz.func62 rfl rfl (Nat.le_of_ble_eq_true rfl) ?_
  refine wpE_seq ?_
  refine wpE_region ?_
  refine wpL_value rfl x_assign ?_
  refine wpL_nil (thenE_norm ?_)
  refine wpE_seq ?_
  refine wpE_region ?_
  refine wpL_value rfl x_move (wpL_value rfl (x_nil rfl) (wpL_value rfl (x_fieldAddr Tryz.underlying128 rfl I123 rfl rfl) (wpL_value rfl (x_fieldAddr Tryz.underlying123 rfl I121 rfl rfl) ?_)))
  refine wpL_value rfl (x_load Tryz.underlying121 rfl rfl (h.a 2 (by decide) rfl)) ?_
  refine wpL_value rfl x_move ?_
  refine wpL_value rfl (x_to (x_lookup (k := i) Tryz.underlying121 (keyOk_u32 Tryz.underlying34) I4 rfl rfl rfl hm) (SetAt.look hml)) ?_
  cases hu : P.now.used i with
  | true =>
    skip
    refine wpL_value rfl (x_not rfl) (wpL_value rfl x_move (wpL_no rfl rfl (wpL_no rfl rfl (wpL_no rfl rfl (wpL_no rfl rfl (wpL_no rfl rfl (wpL_no rfl rfl (wpL_no rfl rfl (wpL_no rfl rfl (wpL_no rfl rfl (wpL_value rfl (x_pick_f rfl) (wpL_value rfl x_assign ?_))))))))))))
    refine wpL_nil (thenE_norm ?_)
    refine wpE_ret (fin_ret ?_)
    exact ⟨by unfold Pg.free; rw [hu]; rfl, rfl⟩
  | false =>
    skip
    refine wpL_value rfl (x_not rfl) (wpL_value rfl x_move (wpL_yes rfl (wpL_value rfl x_move (wpL_yes rfl (wpL_value rfl (x_nil rfl) (wpL_yes rfl (wpL_value rfl (x_fieldAddr Tryz.underlying128 rfl I125 rfl rfl) (wpL_yes rfl (wpL_value rfl (x_fieldAddr Tryz.underlying125 rfl I123 rfl rfl) (wpL_yes rfl (wpL_value rfl (x_fieldAddr Tryz.underlying123 rfl I121 rfl rfl) (wpL_yes rfl ?_))))))))))))
    refine wpL_value rfl (x_load Tryz.underlying121 rfl rfl (h.c hk 2 rfl)) ?_
    refine wpL_yes rfl (wpL_value rfl x_move (wpL_yes rfl ?_))
    refine wpL_value rfl (x_to (x_lookup (k := i) Tryz.underlying121 (keyOk_u32 Tryz.underlying34) I4 rfl rfl rfl hm2) (SetAt.look hml2)) ?_
    refine wpL_yes rfl (wpL_value rfl (x_not rfl) (wpL_value rfl (x_pick_t rfl) (wpL_value rfl x_assign ?_)))
    refine wpL_nil (thenE_norm ?_)
    refine wpE_ret (fin_ret ?_)
    exact ⟨by unfold Pg.free; rw [hu]; rfl, rfl⟩
theorem Fresh_ok (w : World) (R : PR) (b : Nat) (k : List UInt8) (hk : k.length = 32) (P : Pg) (h : PagerAt w R b k P) (i : UInt32) :
    Ret Tryz.prog 63 #[.pointer (some ⟨R.pb, 0, none⟩), .int .u32 i.toNat] w fun v w' => v = .bool (P.fresh i) ∧ Hp w' w := by
  have hob3 := h.2.1
  obtain ⟨m, hm, hml⟩ := hob3
  have hob4 := h.2.2.2.1
  obtain ⟨m2, hm2, hml2⟩ := hob4
  refine enter [4] Tryz.func63 rfl rfl (Nat.le_of_ble_eq_true rfl) ?_
  refine wpE_seq ?_
  refine wpE_region ?_
  refine wpL_value rfl x_assign ?_
  refine wpL_nil (thenE_norm ?_)
  refine wpE_seq ?_
  refine wpE_region ?_
  refine wpL_value rfl x_move (wpL_value rfl (x_nil rfl) (wpL_value rfl (x_fieldAddr Tryz.underlying128 rfl I123 rfl rfl) (wpL_value rfl (x_fieldAddr Tryz.underlying123 rfl I121 rfl rfl) ?_)))
  refine wpL_value rfl (x_load Tryz.underlying121 rfl rfl (h.a 2 (by decide) rfl)) ?_
  refine wpL_value rfl x_move ?_
  refine wpL_value rfl (x_to (x_lookup (k := i) Tryz.underlying121 (keyOk_u32 Tryz.underlying34) I4 rfl rfl rfl hm) (SetAt.look hml)) ?_
  refine wpL_value rfl x_move ?_
  cases hu : P.now.used i with
  | true =>
    skip
    refine wpL_yes rfl (wpL_value rfl x_move (wpL_yes rfl (wpL_value rfl (x_nil rfl) (wpL_yes rfl (wpL_value rfl (x_fieldAddr Tryz.underlying128 rfl I125 rfl rfl) (wpL_yes rfl (wpL_value rfl (x_fieldAddr Tryz.underlying125 rfl I123 rfl rfl) (wpL_yes rfl (wpL_value rfl (x_fieldAddr Tryz.underlying123 rfl I121 rfl rfl) (wpL_yes rfl ?_))))))))))
    refine wpL_value rfl (x_load Tryz.underlying121 rfl rfl (h.c hk 2 rfl)) ?_
    refine wpL_yes rfl (wpL_value rfl x_move (wpL_yes rfl ?_))
    refine wpL_value rfl (x_to (x_lookup (k := i) Tryz.underlying121 (keyOk_u32 Tryz.underlying34) I4 rfl rfl rfl hm2) (SetAt.look hml2)) ?_
    refine wpL_yes rfl (wpL_value rfl (x_not rfl) (wpL_value rfl (x_pick_t rfl) (wpL_value rfl x_assign ?_)))
    refine wpL_nil (thenE_norm ?_)
    refine wpE_ret (fin_ret ?_)
    exact ⟨by unfold Pg.fresh; rw [hu]; rfl, rfl⟩
  | false =>
    skip
    refine wpL_no rfl rfl (wpL_no rfl rfl (wpL_no rfl rfl (wpL_no rfl rfl (wpL_no rfl rfl (wpL_no rfl rfl (wpL_no rfl rfl (wpL_no rfl rfl (wpL_no rfl rfl (wpL_value rfl (x_pick_f rfl) (wpL_value rfl x_assign ?_))))))))))
    refine wpL_nil (thenE_norm ?_)
    refine wpE_ret (fin_ret ?_)
    exact ⟨by unfold Pg.fresh; rw [hu]; rfl, rfl⟩
theorem region_ok (w : World) (R : PR) (b : Nat) (k : List UInt8) (hk : k.length = 32) (P : Pg) (h : PagerAt w R b k P) (i : UInt32) :
    Ret Tryz.prog 67 #[.pointer (some ⟨R.pb, 0, none⟩), .int .u32 i.toNat] w fun v w' => v = .agg #[.pointer (some ⟨b, 0, none⟩), .int .i64 (32 + (i.toNat : Int) * 8)] ∧ Chg [] w w' := by
  have hi := i.toNat_lt
  refine enterR [.cell 4 133] Tryz.func67 rfl rfl (Nat.le_of_ble_eq_true rfl) ?_
  refine wpE_seq ?_
  refine wpE_region ?_
  refine wpL_exw rfl (x_allocB (l := [.pointer none, .int .i64 0]) I133 rfl rfl) ?_
  rintro _ w1 ⟨b1, rfl, hn1, hB1, hc1, hl1⟩
  refine wpL_nil (thenE_norm ?_)
  refine wpE_seq ?_
  refine wpE_region ?_
  refine wpL_value rfl x_move (wpL_value rfl (x_nil rfl) (wpL_value rfl (x_fieldAddr Tryz.underlying128 rfl I25 rfl rfl) ?_))
  refine wpL_value rfl (x_load Tryz.underlying25 rfl rfl ((h.chg0 hc1).a 4 (by decide) rfl)) ?_
  refine wpL_value rfl x_move (wpL_value rfl (x_convI rfl Tryz.underlying34 Tryz.underlying3 (by omega)) (wpL_value rfl (x_mul64 rfl rfl (by omega)) (wpL_value rfl (x_add64 rfl rfl (by omega)) ?_)))
  refine wpL_value rfl (x_buildL Tryz.underlying133 I133 rfl (zs := [.pointer none, .int .i64 0]) rfl rfl (fill1 rfl rfl rfl (Nat.le_of_ble_eq_true rfl) (fill1 rfl rfl rfl (Nat.le_of_ble_eq_true rfl) (fill0 (cs' := [.pointer (some ⟨b, 0, none⟩), .int .i64 (32 + (i.toNat : Int) * 8)]) rfl)))) ?_
  refine wpL_exs rfl (x_storeB (l := [.pointer (some ⟨b, 0, none⟩), .int .i64 (32 + (i.toNat : Int) * 8)]) I133 rfl rfl hB1 rfl rfl (Nat.le_refl 2) (by simp [isCell]) (spl_all rfl)) ?_
  rintro w2 ⟨hB2, hc2, hs2⟩
  refine wpL_nil (thenE_norm ?_)
  refine wpE_ret (fin_retR ?_)
  exact ⟨[.agg #[.pointer (some ⟨b, 0, none⟩), .int .i64 (32 + (i.toNat : Int) * 8)]], ⟨⟨_, rfl, run_loadVarA Tryz.underlying133 rfl I133 (hB2.at (l := [.pointer (some ⟨b, 0, none⟩), .int .i64 (32 + (i.toNat : Int) * 8)]) (off := 0) rfl) rfl⟩, trivial⟩, rfl, hc1.t1 hc2 hn1⟩
def AllocR (P : Pg) (n : Nat) (v : Value) (P' : Pg) : Prop :=
  (P.broken = true ∧ v = .tuple #[.int .u32 0, .int .i64 61] ∧ P' = P) ∨
  (P.broken = false ∧ (∀ j, j < n → P.free (UInt32.ofNat j) = false) ∧ v = .tuple #[.int .u32 0, .int .i64 70] ∧ P' = P) ∨
  (P.broken = false ∧ ∃ i, i < n ∧ (∀ j, j < i → P.free (UInt32.ofNat j) = false) ∧ P.free (UInt32.ofNat i) = true ∧ v = .tuple #[.int .u32 (UInt32.ofNat i).toNat, .int .i64 0] ∧ P' = { P with now := { P.now with used := addPg P.now.used (UInt32.ofNat i) } })
theorem Alloc_ok (w : World) (R : PR) (b r : Nat) (kv : Value) (ds : DSt) (k : List UInt8) (hk : k.length = 32) (P : Pg) (h : PagerAt w R b k P) (hd : DiskAt w b kv r ds) (hl : ds.kept.length ≤ 4000) (n : Nat) (hn : manyN ds.kept.length = n) :
    Ret Tryz.prog 21 #[.pointer (some ⟨R.pb, 0, none⟩)] w fun v w' => (∃ P', AllocR P n v P' ∧ PagerAt w' R b k P') ∧ Chg [R.u] w w' := by
  have hn4 : n ≤ 400 := by unfold manyN at hn; omega
  refine enter [2, 3] Tryz.func21 rfl rfl (Nat.le_of_ble_eq_true rfl) ?_
  refine wpE_seq ?_
  refine wpE_region ?_
  refine wpL_value rfl (x_as (v := .int .u32 ((0 : UInt32).toNat : Nat)) rfl) (wpL_value rfl x_assign ?_)
  refine wpL_nil (thenE_norm ?_)
  refine wpE_seq ?_
  refine wpE_seq ?_
  refine wpE_region ?_
  refine wpL_value rfl x_move (wpL_value rfl (x_nil rfl) (wpL_value rfl (x_fieldAddr Tryz.underlying128 rfl I4 rfl rfl) ?_))
  refine wpL_value rfl (x_load Tryz.underlying4 rfl rfl (h.c hk 9 rfl)) ?_
  refine wpL_nil (thenE_norm ?_)
  refine wpE_cond rfl (fun hbr => ?_) (fun hbr => ?_)
  · skip
    refine wpE_seq ?_
    refine wpE_region ?_
    refine wpL_value rfl (x_as (v := .int .u32 ((0 : UInt32).toNat : Nat)) rfl) (wpL_value rfl x_assign ?_)
    refine wpL_nil (thenE_norm ?_)
    refine wpE_ret (thenE_ret (fin_ret ?_))
    exact ⟨⟨P, .inl ⟨hbr, rfl, rfl⟩, h⟩, Chg.refl' _ _⟩
  · skip
    refine wpE_skip (thenE_norm ?_)
    refine wpE_seq ?_
    refine wpE_seq ?_
    refine wpE_region ?_
    refine wpL_value rfl x_move ?_
    refine wpL_call rfl C31 (PLen_ok w R b r kv ds k hk P h hd hl) ?_
    rintro v1 w1 ⟨hv1, hh1⟩
    rw [hn] at hv1
    subst hv1
    refine wpL_value rfl (x_conv32u rfl Tryz.underlying3 Tryz.underlying34) (wpL_value rfl (x_mas (v := .int .u32 ((0 : UInt32).toNat : Nat)) rfl) ?_)
    refine wpL_nil (thenE_norm ?_)
    refine wpE_block ?_
    have hnu : toU32 (n : Int) = UInt32.ofNat n := toU32_nat n
    have hnt : (UInt32.ofNat n).toNat = n := by rw [UInt32.toNat_ofNat']; omega
    refine wpE_loop [12] [2, 3, 4, 12, 13, 14, 15, 16, 17, 18, 19, 20, 21, 22, 23, 24, 25] (fun m vs w' => ∃ i : Nat, vs = [.int .u32 (UInt32.ofNat i).toNat] ∧ i + m = n ∧ (∀ j, j < i → P.free (UInt32.ofNat j) = false) ∧ Hp w' w) (n) (by kernel_rfl) ?_ ?_
    · exact ⟨0, rfl, by omega, fun j hj => by omega, hh1⟩
    · rintro m vs J w2 ⟨i, rfl, hi, hfr, hh2⟩
      refine wpE_seq ?_
      refine wpE_region ?_
      refine wpL_value rfl (x_lss32u rfl rfl) ?_
      refine wpL_nil (thenE_norm ?_)
      refine wpE_seq ?_
      have h2 := h.chg0 (Chg.heap hh2)
      have hit : (UInt32.ofNat i).toNat = i := by rw [UInt32.toNat_ofNat']; omega
      refine wpE_cond_d rfl (fun hlt => ?_) (fun hlt => ?_)
      · skip
        refine wpE_skip (thenE_norm ?_)
        refine wpE_seq ?_
        refine wpE_block ?_
        refine wpE_seq ?_
        refine wpE_region ?_
        refine wpL_value rfl x_move (wpL_value rfl x_assign ?_)
        refine wpL_nil (thenE_norm ?_)
        refine wpE_seq ?_
        refine wpE_region ?_
        refine wpL_value rfl x_move (wpL_value rfl x_move ?_)
        have hlt : UInt32.ofNat i < toU32 (n : Int) := hlt
        rw [hnu, UInt32.lt_iff_toNat_lt, hit, hnt] at hlt
        have hob5 : ∃ q, m = q + 1 := ⟨m - 1, by omega⟩
        obtain ⟨m, rfl⟩ := hob5
        refine wpL_call rfl C62 (free_ok w2 R b k hk P h2 (UInt32.ofNat i)) ?_
        rintro _ w3 ⟨rfl, hh3⟩
        refine wpL_nil (thenE_norm ?_)
        have h3 := h2.chg0 (Chg.heap hh3)
        refine wpE_cond rfl (fun hf => ?_) (fun hf => ?_)
        · skip
          refine wpE_seq ?_
          refine wpE_region ?_
          refine wpL_value rfl x_move (wpL_value rfl (x_nil rfl) (wpL_value rfl (x_fieldAddr Tryz.underlying128 rfl I123 rfl rfl) (wpL_value rfl (x_fieldAddr Tryz.underlying123 rfl I121 rfl rfl) ?_)))
          have hob6 := h3.2.1
          obtain ⟨mm, hm, hml⟩ := hob6
          refine wpL_value rfl (x_load Tryz.underlying121 rfl rfl (h3.a 2 (by decide) rfl)) ?_
          refine wpL_value rfl x_move ?_
          refine wpL_exs rfl (x_mapUpdate (k := UInt32.ofNat i) Tryz.underlying121 (keyOk_u32 Tryz.underlying34) rfl rfl rfl hm) ?_
          rintro w4 ⟨hm4, hc4, hs4⟩
          refine wpL_nil (thenE_norm ?_)
          refine wpE_seq ?_
          refine wpE_region ?_
          refine wpL_value rfl x_move (wpL_value rfl x_assign (wpL_value rfl x_assign ?_))
          refine wpL_nil (thenE_norm ?_)
          refine wpE_ret (blockE_ret (thenE_ret (thenE_ret (blockE_ret (thenE_ret (fin_ret ?_))))))
          have hnd := h3.2.2.2.2.2.2
          have hne : R.u ≠ R.pb ∧ R.u ≠ R.r ∧ R.u ≠ R.ku ∧ R.u ≠ R.kr ∧ R.u ≠ R.g := by
            simp only [PF, List.nodup_cons, List.mem_cons, List.not_mem_nil, or_false, not_or] at hnd
            obtain ⟨q1, q2, _⟩ := hnd
            exact ⟨Ne.symm q1.1, q2⟩
          refine ⟨⟨_, .inr (.inr ⟨by simpa using hbr, i, by omega, hfr, hf, rfl, rfl⟩), ⟨h3.1.nb hc4 (Ne.symm hne.1), ⟨_, hm4, set_law hml _⟩, h3.2.2.1.mod hc4 (by simp; omega), h3.2.2.2.1.mod hc4 (by simp; omega), h3.2.2.2.2.1.mod hc4 (by simp; omega), h3.2.2.2.2.2.1.mod hc4 (by simp; omega), hnd⟩⟩, ((Chg.heap hh2).tr (Chg.heap hh3)).tr0' hc4⟩
        · skip
          refine wpE_skip (blockE_norm (thenE_norm ?_))
          refine wpE_region ?_
          refine wpL_value rfl (x_add32u (b := 1) rfl rfl) (wpL_value rfl x_move ?_)
          refine wpL_nil (thenE_norm ?_)
          refine Exists.intro (m) (And.intro (by omega) ?_)
          refine ⟨i + 1, vs_cons (u32_eq ?_) vs_nil, by omega, fun j hj => ?_, hh3.trans hh2⟩
          · apply UInt32.toNat_inj.1
            rw [UInt32.toNat_add, hit, UInt32.toNat_ofNat']
            show (i + 1) % 4294967296 = _
            rfl
          · rcases (by omega : j < i ∨ j = i) with hj | rfl
            · exact hfr j hj
            · simpa using hf
      · skip
        refine wpE_exit (thenE_exit (thenE_exit (blockE_exit (thenE_norm ?_))))
        refine wpE_seq ?_
        refine wpE_region ?_
        refine wpL_value rfl (x_as (v := .int .u32 ((0 : UInt32).toNat : Nat)) rfl) (wpL_value rfl x_assign ?_)
        refine wpL_nil (thenE_norm ?_)
        refine wpE_ret (fin_ret ?_)
        have hlt : ¬ UInt32.ofNat i < toU32 (n : Int) := hlt
        rw [hnu, UInt32.lt_iff_toNat_lt, hit, hnt] at hlt
        have hin : i = n := by omega
        subst hin
        exact ⟨⟨P, .inr (.inl ⟨by simpa using hbr, hfr, rfl, rfl⟩), h2⟩, Chg.heap hh2⟩
end Go.Proofs.YtenhmbhflgnhlaaGreat

