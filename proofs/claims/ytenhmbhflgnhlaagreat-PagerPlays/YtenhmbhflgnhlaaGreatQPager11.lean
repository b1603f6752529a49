/- every row of calls, crashes, the power going within a commit: what each tells -/
import Derived.Test.YtenhmbhflgnhlaaGreatQPager10
namespace Go.Proofs.YtenhmbhflgnhlaaGreat
open Go Go.Sac
set_option maxRecDepth 100000
set_option maxHeartbeats 4000000
theorem openV_form {k nonce aad b : List UInt8} {v : Value} {w : World} (h : openV k nonce aad b v w) : ∃ v1 e, v = .tuple #[v1, .int .i64 e] := by
  unfold openV at h
  split at h
  · exact ⟨_, _, h⟩
  · split at h
    · obtain ⟨r, h, _⟩ := h; exact ⟨_, _, h⟩
    · exact ⟨_, _, h⟩
def ReadR (k : List UInt8) (P : Pg) (ds : DSt) (i : UInt32) (v : Value) (w : World) : Prop :=
  (P.broken = true ∧ v = .tuple #[.slice none 0 0, .int .i64 61]) ∨
  (P.broken = false ∧ (P.now.used i = false ∨ P.now.written i = false) ∧ v = .tuple #[.slice none 0 0, .int .i64 71]) ∨
  (P.broken = false ∧ P.now.used i = true ∧ P.now.written i = true ∧ (UInt64.ofNat (ofBe ((ds.reads (32 + (i.toNat : Int) * 8) 8).take 8)) ≠ (P.gens i).getD 0 ∨ openP (deriveL k tPage 0) i.toNat (ds.reads (32 + (i.toNat : Int) * 8) 8) = none) ∧ v = .tuple #[.slice none 0 0, .int .i64 50]) ∨
  (P.broken = false ∧ P.now.used i = true ∧ P.now.written i = true ∧ UInt64.ofNat (ofBe ((ds.reads (32 + (i.toNat : Int) * 8) 8).take 8)) = (P.gens i).getD 0 ∧ ∃ l r, openP (deriveL k tPage 0) i.toNat (ds.reads (32 + (i.toNat : Int) * 8) 8) = some l ∧ v = .tuple #[r, .int .i64 0] ∧ Sl w r l)
theorem Read_ok3 (w : World) (R : PR) (b r : Nat) (kv : Value) (ds : DSt) (k : List UInt8) (hk : k.length = 32) (P : Pg) (h : PagerAt w R b k P) (hd : DiskAt w b kv r ds) (ho : P.broken = false → ds.off = false) (hl : ds.kept.length ≤ 4000) (i : UInt32) (hi : P.now.used i = true → 40 + i.toNat * 8 ≤ ds.kept.length) :
    Ret Tryz.prog 29 #[.pointer (some ⟨R.pb, 0, none⟩), .int .u32 i.toNat] w fun v w' => ReadR k P ds i v w' ∧ Chg [] w w' := by
  have hpk := deriveL_length k tPage 0
  have hi32 := i.toNat_lt
  obtain ⟨mu, hmu, hmul⟩ := h.2.1
  obtain ⟨mw, hmw, hmwl⟩ := h.2.2.1
  refine enter [4, 5] Tryz.func29 rfl rfl (Nat.le_of_ble_eq_true rfl) ?_
  refine wpE_seq ?_
  refine wpE_region ?_
  refine wpL_value rfl x_assign (wpL_value rfl x_assign ?_)
  refine wpL_nil (thenE_norm ?_)
  refine wpE_seq ?_
  refine wpE_block ?_
  refine wpE_seq ?_
  refine wpE_region ?_
  refine wpL_value rfl x_move (wpL_value rfl (x_nil rfl) (wpL_value rfl (x_fieldAddr Tryz.underlying128 rfl I4 rfl rfl) ?_))
  refine wpL_value rfl (x_load Tryz.underlying4 rfl rfl (h.c hk 9 rfl)) ?_
  refine wpL_value rfl x_assign ?_
  refine wpL_nil (thenE_norm ?_)
  refine wpE_cond rfl (fun hbr => ?_) (fun hbr => ?_)
  · skip
    refine wpE_seq ?_
    refine wpE_region ?_
    refine wpL_value rfl x_assign (wpL_value rfl x_assign ?_)
    refine wpL_nil (thenE_norm ?_)
    refine wpE_ret (blockE_ret (thenE_ret (fin_ret ?_)))
    exact ⟨.inl ⟨hbr, rfl⟩, Chg.refl _⟩
  · skip
    refine wpE_seq ?_
    refine wpE_region ?_
    refine wpL_value rfl x_move (wpL_value rfl (x_nil rfl) (wpL_value rfl (x_fieldAddr Tryz.underlying128 rfl I123 rfl rfl) (wpL_value rfl (x_fieldAddr Tryz.underlying123 rfl I121 rfl rfl) ?_)))
    have hbr : P.broken = false := by simpa using hbr
    have ho := ho hbr
    refine wpL_value rfl (x_load Tryz.underlying121 rfl rfl (h.a 2 (by decide) rfl)) ?_
    refine wpL_value rfl x_move ?_
    refine wpL_value rfl (x_to (x_lookup (k := i) Tryz.underlying121 (keyOk_u32 Tryz.underlying34) I4 rfl rfl rfl hmu) (SetAt.look hmul)) ?_
    cases hu : P.now.used i with
    | false =>
      skip
      refine wpL_value rfl (x_not rfl) (wpL_value rfl x_move (wpL_no rfl rfl (wpL_no rfl rfl (wpL_no rfl rfl (wpL_no rfl rfl (wpL_no rfl rfl (wpL_no rfl rfl (wpL_no rfl rfl (wpL_no rfl rfl (wpL_value rfl (x_pick_t rfl) (wpL_value rfl x_assign ?_)))))))))))
      refine wpL_nil (thenE_norm ?_)
      refine wpE_cond_t (rfl) ?_
      refine wpE_seq ?_
      refine wpE_region ?_
      refine wpL_value rfl x_assign (wpL_value rfl x_assign ?_)
      refine wpL_nil (thenE_norm ?_)
      refine wpE_ret (blockE_ret (thenE_ret (fin_ret ?_)))
      exact ⟨.inr (.inl ⟨hbr, .inl hu, rfl⟩), Chg.refl _⟩
    | true =>
      skip
      have hi := hi hu
      refine wpL_value rfl (x_not rfl) (wpL_value rfl x_move (wpL_yes rfl (wpL_value rfl x_move (wpL_yes rfl (wpL_value rfl (x_nil rfl) (wpL_yes rfl (wpL_value rfl (x_fieldAddr Tryz.underlying128 rfl I123 rfl rfl) (wpL_yes rfl (wpL_value rfl (x_fieldAddr Tryz.underlying123 rfl I121 rfl rfl) (wpL_yes rfl ?_))))))))))
      refine wpL_value rfl (x_load Tryz.underlying121 rfl rfl (h.a 3 (by decide) rfl)) ?_
      refine wpL_yes rfl (wpL_value rfl x_move (wpL_yes rfl ?_))
      refine wpL_value rfl (x_to (x_lookup (k := i) Tryz.underlying121 (keyOk_u32 Tryz.underlying34) I4 rfl rfl rfl hmw) (SetAt.look hmwl)) ?_
      refine wpL_yes rfl (wpL_value rfl (x_not rfl) (wpL_value rfl (x_pick_f rfl) (wpL_value rfl x_assign ?_)))
      refine wpL_nil (thenE_norm ?_)
      refine wpE_cond rfl (fun hw => ?_) (fun hw => ?_)
      · skip
        refine wpE_seq ?_
        refine wpE_region ?_
        refine wpL_value rfl x_assign (wpL_value rfl x_assign ?_)
        refine wpL_nil (thenE_norm ?_)
        refine wpE_ret (blockE_ret (thenE_ret (fin_ret ?_)))
        exact ⟨.inr (.inl ⟨hbr, .inr (by simpa using hw), rfl⟩), Chg.refl _⟩
      · skip
        refine wpE_skip (blockE_norm (thenE_norm ?_))
        refine wpE_seq ?_
        refine wpE_region ?_
        refine wpL_value rfl x_move (wpL_value rfl x_move ?_)
        have hw : P.now.written i = true := by simpa using hw
        refine wpL_call rfl C67 (region_ok w R b k hk P h i) ?_
        rintro _ w1 ⟨rfl, hc1⟩
        refine wpL_call rfl C80 (RRead_ok w1 b r kv ds (32 + (i.toNat : Int) * 8) 8 (hd.chg0 hc1) ho (by omega) hl (by decide)) ?_
        rintro _ w2 ⟨v2, rfl, ho2, hc2, hi2⟩
        refine wpL_value rfl x_move (wpL_value rfl (x_extract rfl rfl) (wpL_value rfl (x_extract rfl rfl) (wpL_value rfl x_assign (wpL_value rfl x_assign ?_))))
        refine wpL_nil (thenE_norm ?_)
        refine wpE_seq ?_
        refine wpE_seq ?_
        refine wpE_region ?_
        refine wpL_value rfl x_move (wpL_value rfl (x_neq rfl rfl) ?_)
        refine wpL_nil (thenE_norm ?_)
        have htl : (ds.reads (32 + (i.toNat : Int) * 8) 8).length = 512 := DSt.reads_length _ _ _
        have hob1 : ∃ t, t = ds.reads (32 + (i.toNat : Int) * 8) 8 := ⟨_, rfl⟩
        obtain ⟨t, ht⟩ := hob1
        rw [← ht] at ho2 htl
        refine wpE_cond_df rfl (fun h => h rfl) ?_
        refine wpE_skip (thenE_norm ?_)
        refine wpE_seq ?_
        refine wpE_region ?_
        refine wpL_value rfl x_move ?_
        refine wpL_call rfl C81 (Get_ok v2 t 8 w2 ho2.sl (by decide) (by omega)) ?_
        rintro v3 w3 ⟨hv3, hh3⟩
        unfold getV at hv3
        rw [if_neg (by omega)] at hv3
        have hob2 : ∃ g : UInt64, g = UInt64.ofNat (ofBe (t.take 8)) := ⟨_, rfl⟩
        obtain ⟨g, hg⟩ := hob2
        rw [← hg] at hv3
        obtain ⟨r3, rfl, hs3, hbl3⟩ := hv3
        refine wpL_value rfl x_move (wpL_value rfl (x_extract rfl rfl) (wpL_value rfl (x_extract rfl rfl) (wpL_value rfl (x_extract rfl rfl) (wpL_value rfl x_assign (wpL_value rfl x_assign (wpL_value rfl x_assign ?_))))))
        refine wpL_nil (thenE_norm ?_)
        refine wpE_seq ?_
        refine wpE_seq ?_
        refine wpE_region ?_
        refine wpL_value rfl x_move (wpL_value rfl x_move (wpL_value rfl (x_nil rfl) (wpL_value rfl (x_fieldAddr Tryz.underlying128 rfl I126 rfl rfl) ?_)))
        have h3 := (h.chg0 (hc1.tr hc2)).chg0 (Chg.heap hh3)
        have hob3 := h3.2.2.2.2.2.1
        obtain ⟨mg, hmg, hmgl⟩ := hob3
        have hlook := gen_look hmgl i
        refine wpL_value rfl (x_load Tryz.underlying126 rfl rfl (h3.c hk 8 rfl)) ?_
        refine wpL_value rfl x_move ?_
        refine wpL_value rfl (x_to (x_lookup (k := i) Tryz.underlying126 (keyOk_u32 Tryz.underlying34) I35 rfl rfl rfl hmg) hlook) ?_
        refine wpL_value rfl (x_neq64u rfl rfl) ?_
        refine wpL_nil (thenE_norm ?_)
        have hc03 : Chg [] w w3 := (hc1.tr hc2).tr (Chg.heap hh3)
        refine wpE_cond_d rfl (fun hgne => ?_) (fun hgne => ?_)
        · skip
          refine wpE_seq ?_
          refine wpE_region ?_
          refine wpL_value rfl x_assign (wpL_value rfl x_assign ?_)
          refine wpL_nil (thenE_norm ?_)
          refine wpE_ret (thenE_ret (fin_ret ?_))
          exact ⟨.inr (.inr (.inl ⟨hbr, hu, hw, .inl (by rw [← ht, ← hg]; exact hgne), rfl⟩)), hc03⟩
        · skip
          refine wpE_skip (thenE_norm ?_)
          have hgeq : g = (P.gens i).getD 0 := Decidable.not_not.1 hgne
          have hnl := nonceL_length i.toNat g.toNat
          have hdl3 : (t.drop 8).length = 504 := by rw [List.length_drop]; omega
          have hcl : ((t.drop 8).take 498).length = 498 := by rw [List.length_take]; omega
          refine wpE_cutF [7, 11] (fun vs w' => ∃ (v11 : Value) (e7 : Int), vs = [.int .i64 e7, v11] ∧ Chg [] w3 w' ∧ openV (deriveL k tPage 0) (nonceL i.toNat g.toNat) tPage ((t.drop 8).take 498) (.tuple #[v11, .int .i64 e7]) w') ?_ ?_
          · skip
            refine wpE_draw mixed (.pure 0 (.pure 1 (.pure 2 (.read 3 (.pure 4 (.pure 5 (.pure 9 (.pure 10 (.alt (.eff 6 [3] (.eff 7 [3] (.eff 8 [3] (.eff 11 [] (.pure 12 (.pure 13 (.pure 14 (.pure 15 (.pure 16 .nil))))))))) (.eff 7 [3] (.alt (.eff 6 [3] (.eff 8 [3] (.eff 11 [] (.pure 12 (.pure 13 (.pure 14 (.pure 15 (.pure 16 .nil)))))))) (.eff 8 [3] (.eff 6 [3] (.eff 11 [] (.pure 12 (.pure 13 (.pure 14 (.pure 15 (.pure 16 .nil))))))))))))))))))) (by kernel_rfl) ?_
            refine wpP_pure rfl rfl rfl (fun _ => x_move) ?_
            refine wpP_pure rfl rfl rfl (fun _ => (x_nil rfl)) ?_
            refine wpP_pure rfl rfl rfl (fun _ => (x_fieldAddr Tryz.underlying128 rfl I23 rfl rfl)) ?_
            refine wpP_rdAt 32 rfl rfl rfl Tryz.underlying23 rfl I23 rfl (h3.atP hk) (hpk) rfl ?_
            refine wpP_pure rfl rfl rfl (fun _ => x_move) ?_
            refine wpP_pure rfl rfl rfl (fun _ => x_move) ?_
            refine wpP_pure rfl rfl rfl (fun _ => x_move) ?_
            refine wpP_ex rfl rfl rfl (x_upto 498 Tryz.underlying41 I5 hs3 rfl rfl rfl (by omega)) ?_
            rintro _ ⟨⟨p10, c10, rfl⟩, hs10, hbl10⟩
            have hPob : ∀ {w' : World}, Chg [] w3 w' → At w' R.pb 37 (encL (deriveL k tPage 0)) := fun hc => (h3.chg0 hc).atP hk
            have hcum : Chg [] w3 { w3 with drawn := w3.drawn + 1 } := Chg.heap rfl
            refine wpP_alt ?_ ?_
            · skip
              refine wpP_call rfl rfl rfl C66 (NonceOf_ok i g _) ?_
              rintro _ wq6 ⟨rfl, hc6⟩
              have hc6 : Chg [] _ wq6 := hc6
              have hcum := hcum.tr0 hc6
              refine ⟨⟨hPob hcum, trivial⟩, ?_⟩
              refine wpP_exw rfl rfl rfl (x_bsS [.int .u8 112, .int .u8 97, .int .u8 103, .int .u8 101] tPage Tryz.underlying41 I5 rfl rfl rfl rfl rfl rfl (by decide) (by decide)) ?_
              rintro _ wq7 ⟨⟨b70, o70, c70, rfl⟩, ho70, hc7, hi70x⟩
              have hi70 : ∀ x ∈ blkOf (.slice (some ⟨b70, o70, none⟩) 4 c70), w3.heap.size ≤ x := fun x hx => Nat.le_trans hcum.1 (hi70x.ge x hx)
              have hs70 := ho70.sl
              have hcum := hcum.tr0 hc7
              refine ⟨⟨hPob hcum, trivial⟩, ?_⟩
              refine wpP_exv rfl rfl rfl (x_convB Tryz.underlying41 Tryz.underlying5 rfl hs70) ?_
              rintro wq8 ⟨hs71, hc8q, hs8⟩
              have hc8 : Chg (blkOf (.slice (some ⟨b70, o70, none⟩) 4 c70)) _ wq8 := hc8q
              have hcum := hcum.t0 hc8 hi70
              have hs70 := hs71
              refine ⟨⟨hPob hcum, trivial⟩, ?_⟩
              refine wpP_call rfl rfl rfl C82 (Open_ok (deriveL k tPage 0) (nonceL i.toNat g.toNat) (.slice (some ⟨b70, o70, none⟩) 4 c70) (.slice p10 498 c10) tPage ((t.drop 8).take 498) _ hpk hnl hs70 (hs10.mod0 hcum) (by decide) (by omega)) ?_
              rintro v76 wq11 ⟨hv76, hc11⟩
              refine ⟨trivial, ?_⟩
              have hob4 := openV_form hv76
              obtain ⟨v11, e7, hform⟩ := hob4
              subst hform
              refine wpP_pure rfl rfl rfl (fun _ => x_move) ?_
              refine wpP_pure rfl rfl rfl (fun _ => (x_extract rfl rfl)) ?_
              refine wpP_pure rfl rfl rfl (fun _ => (x_extract rfl rfl)) ?_
              refine wpP_pure rfl rfl rfl (fun _ => x_assign) ?_
              refine wpP_pure rfl rfl rfl (fun _ => x_assign) ?_
              refine wpP_nil (thenE_norm ?_)
              exact ⟨v11, e7, rfl, hcum.tr hc11, hv76⟩
            · skip
              refine wpP_exw rfl rfl rfl (x_bsS [.int .u8 112, .int .u8 97, .int .u8 103, .int .u8 101] tPage Tryz.underlying41 I5 rfl rfl rfl rfl rfl rfl (by decide) (by decide)) ?_
              rintro _ wq7 ⟨⟨b70, o70, c70, rfl⟩, ho70, hc7, hi70x⟩
              have hi70 : ∀ x ∈ blkOf (.slice (some ⟨b70, o70, none⟩) 4 c70), w3.heap.size ≤ x := fun x hx => Nat.le_trans hcum.1 (hi70x.ge x hx)
              have hs70 := ho70.sl
              have hcum := hcum.tr0 hc7
              refine ⟨⟨hPob hcum, trivial⟩, ?_⟩
              refine wpP_alt ?_ ?_
              · skip
                refine wpP_call rfl rfl rfl C66 (NonceOf_ok i g _) ?_
                rintro _ wq6 ⟨rfl, hc6⟩
                have hc6 : Chg [] _ wq6 := hc6
                have hcum := hcum.tr0 hc6
                have hs70 := hs70.mod0 hc6
                refine ⟨⟨hPob hcum, trivial⟩, ?_⟩
                refine wpP_exv rfl rfl rfl (x_convB Tryz.underlying41 Tryz.underlying5 rfl hs70) ?_
                rintro wq8 ⟨hs71, hc8q, hs8⟩
                have hc8 : Chg (blkOf (.slice (some ⟨b70, o70, none⟩) 4 c70)) _ wq8 := hc8q
                have hcum := hcum.t0 hc8 hi70
                have hs70 := hs71
                refine ⟨⟨hPob hcum, trivial⟩, ?_⟩
                refine wpP_call rfl rfl rfl C82 (Open_ok (deriveL k tPage 0) (nonceL i.toNat g.toNat) (.slice (some ⟨b70, o70, none⟩) 4 c70) (.slice p10 498 c10) tPage ((t.drop 8).take 498) _ hpk hnl hs70 (hs10.mod0 hcum) (by decide) (by omega)) ?_
                rintro v76 wq11 ⟨hv76, hc11⟩
                refine ⟨trivial, ?_⟩
                have hob5 := openV_form hv76
                obtain ⟨v11, e7, hform⟩ := hob5
                subst hform
                refine wpP_pure rfl rfl rfl (fun _ => x_move) ?_
                refine wpP_pure rfl rfl rfl (fun _ => (x_extract rfl rfl)) ?_
                refine wpP_pure rfl rfl rfl (fun _ => (x_extract rfl rfl)) ?_
                refine wpP_pure rfl rfl rfl (fun _ => x_assign) ?_
                refine wpP_pure rfl rfl rfl (fun _ => x_assign) ?_
                refine wpP_nil (thenE_norm ?_)
                exact ⟨v11, e7, rfl, hcum.tr hc11, hv76⟩
              · skip
                refine wpP_exv rfl rfl rfl (x_convB Tryz.underlying41 Tryz.underlying5 rfl hs70) ?_
                rintro wq8 ⟨hs71, hc8q, hs8⟩
                have hc8 : Chg (blkOf (.slice (some ⟨b70, o70, none⟩) 4 c70)) _ wq8 := hc8q
                have hcum := hcum.t0 hc8 hi70
                have hs70 := hs71
                refine ⟨⟨hPob hcum, trivial⟩, ?_⟩
                refine wpP_call rfl rfl rfl C66 (NonceOf_ok i g _) ?_
                rintro _ wq6 ⟨rfl, hc6⟩
                have hc6 : Chg [] _ wq6 := hc6
                have hcum := hcum.tr0 hc6
                have hs70 := hs70.mod0 hc6
                refine ⟨⟨hPob hcum, trivial⟩, ?_⟩
                refine wpP_call rfl rfl rfl C82 (Open_ok (deriveL k tPage 0) (nonceL i.toNat g.toNat) (.slice (some ⟨b70, o70, none⟩) 4 c70) (.slice p10 498 c10) tPage ((t.drop 8).take 498) _ hpk hnl hs70 (hs10.mod0 hcum) (by decide) (by omega)) ?_
                rintro v76 wq11 ⟨hv76, hc11⟩
                refine ⟨trivial, ?_⟩
                have hob6 := openV_form hv76
                obtain ⟨v11, e7, hform⟩ := hob6
                subst hform
                refine wpP_pure rfl rfl rfl (fun _ => x_move) ?_
                refine wpP_pure rfl rfl rfl (fun _ => (x_extract rfl rfl)) ?_
                refine wpP_pure rfl rfl rfl (fun _ => (x_extract rfl rfl)) ?_
                refine wpP_pure rfl rfl rfl (fun _ => x_assign) ?_
                refine wpP_pure rfl rfl rfl (fun _ => x_assign) ?_
                refine wpP_nil (thenE_norm ?_)
                exact ⟨v11, e7, rfl, hcum.tr hc11, hv76⟩
          · rintro vs J w4 ⟨v11, e7, rfl, hc4, hop⟩
            refine wpE_seq ?_
            refine wpE_seq ?_
            refine wpE_region ?_
            refine wpL_value rfl x_move (wpL_value rfl (x_neq rfl rfl) ?_)
            refine wpL_nil (thenE_norm ?_)
            unfold openV at hop
            rw [if_neg (by omega), hcl] at hop
            have htt : ((t.drop 8).take 498).take (498 - 16) = (t.drop 8).take 482 := by rw [List.take_take]; rfl
            rw [htt] at hop
            have hc04 := hc03.tr hc4
            by_cases hfit : fitsL (deriveL k tPage 0) (nonceL i.toNat g.toNat) tPage ((t.drop 8).take 498)
            · skip
              rw [if_pos hfit] at hop
              obtain ⟨r11, heq, ho11⟩ := hop
              simp only [Value.tuple.injEq, Array.mk.injEq, List.cons.injEq, Value.int.injEq, true_and, and_true] at heq
              obtain ⟨rfl, rfl⟩ := heq
              have hob7 : ∃ pl, pl = crossK (deriveL k tPage 0) (nonceL i.toNat g.toNat) ((t.drop 8).take 482) := ⟨_, rfl⟩
              obtain ⟨pl, hpl⟩ := hob7
              have hpll : pl.length = 482 := by rw [hpl, crossK_length, List.length_take]; omega
              rw [← hpl] at ho11
              refine wpE_cond_df rfl (fun h => h rfl) ?_
              refine wpE_skip (thenE_norm ?_)
              refine wpE_seq ?_
              refine wpE_region ?_
              refine wpL_value rfl x_move ?_
              refine wpL_call rfl C81 (Get_ok v11 pl 2 w4 ho11.sl (by decide) (by omega)) ?_
              rintro v5 w5 ⟨hv5, hh5⟩
              unfold getV at hv5
              rw [if_neg (by omega)] at hv5
              have hob8 : ∃ nn : UInt64, nn = UInt64.ofNat (ofBe (pl.take 2)) := ⟨_, rfl⟩
              obtain ⟨nn, hnn⟩ := hob8
              rw [← hnn] at hv5
              have hlt2 := ofBe_lt (pl.take 2)
              rw [List.length_take, Nat.min_eq_left (by omega)] at hlt2
              have hnt : nn.toNat = ofBe (pl.take 2) := by rw [hnn, UInt64.toNat_ofNat']; omega
              obtain ⟨r5, rfl, hs5, hbl5⟩ := hv5
              have hd2 : (pl.drop 2).length = 480 := by rw [List.length_drop]; omega
              have hob9 := hs5.form hd2
              obtain ⟨p5, c5, rfl⟩ := hob9
              refine wpL_value rfl x_move (wpL_value rfl (x_extract rfl rfl) (wpL_value rfl (x_extract rfl rfl) (wpL_value rfl (x_extract rfl rfl) (wpL_value rfl x_assign (wpL_value rfl x_assign (wpL_value rfl x_assign ?_))))))
              refine wpL_nil (thenE_norm ?_)
              refine wpE_seq ?_
              refine wpE_region ?_
              refine wpL_value rfl x_move (wpL_value rfl x_move (wpL_value rfl (x_convI rfl Tryz.underlying35 Tryz.underlying3 (by omega)) (wpL_value rfl x_move (wpL_value rfl (x_len_slice rfl Tryz.underlying41) (wpL_value rfl (x_min rfl rfl) ?_)))))
              refine wpL_ex rfl (x_upto (min nn.toNat 480) Tryz.underlying41 I5 hs5 rfl rfl (by omega) (by omega)) ?_
              rintro _ ⟨⟨p6, c6, rfl⟩, hs6, hbl6⟩
              refine wpL_value rfl x_assign (wpL_value rfl x_assign ?_)
              refine wpL_nil (thenE_norm ?_)
              refine wpE_ret (fin_ret ?_)
              refine ⟨.inr (.inr (.inr ⟨hbr, hu, hw, by rw [← ht, ← hg]; exact hgeq, _, _, ?_, rfl, hs6⟩)), hc04.tr (Chg.heap hh5)⟩
              unfold openP
              rw [← ht, ← hg, if_pos hfit, ← hpl, hnt]
            · skip
              rw [if_neg hfit] at hop
              simp only [Value.tuple.injEq, Array.mk.injEq, List.cons.injEq, Value.int.injEq, true_and, and_true] at hop
              obtain ⟨rfl, rfl⟩ := hop
              refine wpE_cond_dt rfl (by decide) ?_
              refine wpE_seq ?_
              refine wpE_region ?_
              refine wpL_value rfl x_assign (wpL_value rfl x_assign ?_)
              refine wpL_nil (thenE_norm ?_)
              refine wpE_ret (thenE_ret (fin_ret ?_))
              refine ⟨.inr (.inr (.inl ⟨hbr, hu, hw, .inr ?_, rfl⟩)), hc04⟩
              unfold openP
              rw [← ht, ← hg, if_neg hfit]
end Go.Proofs.YtenhmbhflgnhlaaGreat

