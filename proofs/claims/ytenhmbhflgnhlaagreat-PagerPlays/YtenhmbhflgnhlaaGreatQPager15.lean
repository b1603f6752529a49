/- every row of calls, crashes, the power going within a commit: what each tells -/
import Derived.Test.YtenhmbhflgnhlaaGreatQPager14
namespace Go.Proofs.YtenhmbhflgnhlaaGreat
open Go Go.Sac
set_option maxRecDepth 100000
set_option maxHeartbeats 4000000
def CommitR (k : List UInt8) (P : Pg) (ds : DSt) (root : UInt32) (txt : List UInt8) (e : Int) (P' : Pg) (ds' : DSt) : Prop :=
  (P.broken = true ∧ e = 61 ∧ P' = P ∧ ds' = ds) ∨
  (P.broken = false ∧ 200 < txt.length ∧ e = 11 ∧ P' = P ∧ ds' = ds) ∨
  (P.broken = false ∧ txt.length ≤ 200 ∧ (∃ i, P.fresh i = true ∧ P.now.written i = false) ∧ e = 71 ∧ P' = P ∧ ds' = ds) ∨
  (P.broken = false ∧ txt.length ≤ 200 ∧ (¬ ∃ i, P.fresh i = true ∧ P.now.written i = false) ∧
    ((ds.flush.2 ≠ 0 ∧ e = ds.flush.2 ∧ P' = { P with broken := decide (ds.flush.2 = 61) } ∧ ds' = ds.flush.1) ∨
     (ds.flush.2 = 0 ∧ (laysD k ds.flush.1 ((P.at_ + 1) % 2) (comS P root txt)).2 ≠ 0 ∧ e = (laysD k ds.flush.1 ((P.at_ + 1) % 2) (comS P root txt)).2 ∧ P' = { P with broken := decide ((laysD k ds.flush.1 ((P.at_ + 1) % 2) (comS P root txt)).2 = 61) } ∧ ds' = (laysD k ds.flush.1 ((P.at_ + 1) % 2) (comS P root txt)).1) ∨
     (ds.flush.2 = 0 ∧ (laysD k ds.flush.1 ((P.at_ + 1) % 2) (comS P root txt)).2 = 0 ∧ e = 0 ∧ P' = { P with now := (comS P root txt).st, kept := comS P root txt, at_ := (P.at_ + 1) % 2 } ∧ ds' = (laysD k ds.flush.1 ((P.at_ + 1) % 2) (comS P root txt)).1)))
theorem Commit_ok (w : World) (R : PR) (b r : Nat) (kv : Value) (ds : DSt) (k : List UInt8) (hk : k.length = 32) (P : Pg) (h : PagerAt w R b k P) (hd : DiskAt w b kv r ds) (hf : ds.Fine) (hst : ds.steps + 40 ≤ 1000000000000) (hap : ∀ x ∈ PF R, x ∉ DF b kv r) (hat : P.at_ ≤ 1) (hlu : ∀ i, P.now.used i = true → i.toNat < 400) (hlw : ∀ i, P.now.written i = true → i.toNat < 400) (root : UInt32) (txt : List UInt8) :
    Ret Tryz.prog 23 #[.pointer (some ⟨R.pb, 0, none⟩), .int .u32 root.toNat, str txt] w fun v w' => (∃ e R' P' ds', v = .int .i64 e ∧ R'.pb = R.pb ∧ R'.g = R.g ∧ (∀ x ∈ PF R', x ∈ PF R ∨ w.heap.size ≤ x) ∧ CommitR k P ds root txt e P' ds' ∧ PagerAt w' R' b k P' ∧ DiskAt w' b kv r ds') ∧ Chg (PF R ++ DF b kv r) w w' := by
  have hpk := deriveL_length k tPage 0
  refine enter [6] Tryz.func23 rfl rfl (Nat.le_of_ble_eq_true rfl) ?_
  refine wpE_seq ?_
  refine wpE_region ?_
  refine wpL_value rfl x_assign ?_
  refine wpL_nil (thenE_norm ?_)
  refine wpE_seq ?_
  refine wpE_block ?_
  refine wpE_seq ?_
  refine wpE_region ?_
  refine wpL_value rfl x_move (wpL_value rfl (x_nil rfl) (wpL_value rfl (x_fieldAddr Tryz.underlying128 rfl I4 rfl rfl) ?_))
  refine wpL_value rfl (x_load Tryz.underlying4 rfl rfl (h.c hk 9 rfl)) ?_
  refine wpL_value rfl x_assign ?_
  refine wpL_nil (thenE_norm ?_)
  refine wpE_cond rfl (fun hbr => ?_) (fun hbr => ?_)
  · skip
    refine wpE_seq ?_
    refine wpE_region ?_
    refine wpL_value rfl x_assign ?_
    refine wpL_nil (thenE_norm ?_)
    refine wpE_ret (blockE_ret (thenE_ret (fin_ret ?_)))
    exact ⟨⟨61, R, P, ds, rfl, rfl, rfl, fun x hx => .inl hx, .inl ⟨hbr, rfl, rfl, rfl⟩, h, hd⟩, Chg.refl' _ _⟩
  · skip
    refine wpE_seq ?_
    refine wpE_region ?_
    refine wpL_value rfl x_move (wpL_value rfl (x_lenS rfl Tryz.underlying9) (wpL_value rfl (x_gtr rfl rfl) (wpL_value rfl x_assign ?_)))
    refine wpL_nil (thenE_norm ?_)
    have hbr : P.broken = false := by simpa using hbr
    refine wpE_cond_d rfl (fun hlong => ?_) (fun hlong => ?_)
    · skip
      refine wpE_seq ?_
      refine wpE_region ?_
      refine wpL_value rfl x_assign ?_
      refine wpL_nil (thenE_norm ?_)
      refine wpE_ret (blockE_ret (thenE_ret (fin_ret ?_)))
      exact ⟨⟨11, R, P, ds, rfl, rfl, rfl, fun x hx => .inl hx, .inr (.inl ⟨hbr, by omega, rfl, rfl, rfl⟩), h, hd⟩, Chg.refl' _ _⟩
    · skip
      refine wpE_seq ?_
      refine wpE_region ?_
      refine wpL_value rfl x_move ?_
      have htx : txt.length ≤ 200 := by omega
      refine wpL_call rfl C70 (unwritten_ok w R b k hk P h) ?_
      rintro v1 w1 ⟨⟨x1, hv1, hx1⟩, hc1⟩
      subst hv1
      have h1 := h.chg0 hc1
      have hd1 := hd.chg0 hc1
      refine wpL_value rfl x_assign ?_
      refine wpL_nil (thenE_norm ?_)
      refine wpE_cond rfl (fun hun => ?_) (fun hun => ?_)
      · skip
        refine wpE_seq ?_
        refine wpE_region ?_
        refine wpL_value rfl x_assign ?_
        refine wpL_nil (thenE_norm ?_)
        refine wpE_ret (blockE_ret (thenE_ret (fin_ret ?_)))
        exact ⟨⟨71, R, P, ds, rfl, rfl, rfl, fun x hx => .inl hx, .inr (.inr (.inl ⟨hbr, htx, hx1.1 hun, rfl, rfl, rfl⟩)), h1, hd1⟩, hc1.mono (by simp)⟩
      · skip
        refine wpE_skip (blockE_norm (thenE_norm ?_))
        refine wpE_seq ?_
        refine wpE_seq ?_
        refine wpE_region ?_
        refine wpL_value rfl x_move (wpL_value rfl (x_nil rfl) (wpL_value rfl (x_fieldAddr Tryz.underlying128 rfl I25 rfl rfl) ?_))
        have hun : ¬ ∃ i, P.fresh i = true ∧ P.now.written i = false := fun q => by rw [hx1.2 q] at hun; cases hun
        refine wpL_value rfl (x_load Tryz.underlying25 rfl rfl (h1.a 4 (by decide) rfl)) ?_
        refine wpL_call rfl C27 (Flush_ok w1 b r kv ds hd1 hf) ?_
        rintro _ w2 ⟨rfl, hd2, hc2⟩
        refine wpL_value rfl x_assign ?_
        refine wpL_nil (thenE_norm ?_)
        refine wpE_seq ?_
        refine wpE_region ?_
        refine wpL_value rfl x_move (wpL_value rfl (x_neq rfl rfl) ?_)
        refine wpL_nil (thenE_norm ?_)
        have h2 : PagerAt w2 R b k P := h1.chg hc2 hap
        have hc02 : Chg (PF R ++ DF b kv r) w w2 := hc1.tr0' (hc2.mono (fun x hx _ => List.mem_append_right _ hx))
        refine wpE_cond_d rfl (fun hfl => ?_) (fun hfl => ?_)
        · skip
          refine wpE_seq ?_
          refine wpE_region ?_
          refine wpL_value rfl x_move (wpL_value rfl x_move ?_)
          refine wpL_call rfl C69 (breaks_ok w2 R b k hk P h2 _) ?_
          rintro _ w3 ⟨rfl, h3, hc3⟩
          refine wpL_value rfl x_assign ?_
          refine wpL_nil (thenE_norm ?_)
          refine wpE_ret (thenE_ret (fin_ret ?_))
          have hfl : ds.flush.2 ≠ 0 := hfl
          refine ⟨⟨_, R, _, _, rfl, rfl, rfl, fun x hx => .inl hx, .inr (.inr (.inr ⟨hbr, htx, hun, .inl ⟨hfl, rfl, ?_, rfl⟩⟩)), h3, hd2.chg hc3 (fun x hx hh => by simp at hh; subst hh; exact hap R.pb (by simp [PF]) hx)⟩, hc02.tr (hc3.mono (by simp [PF]))⟩
          simp only [hbr, Bool.false_or]
        · skip
          refine wpE_skip (thenE_norm ?_)
          have hfl : ds.flush.2 = 0 := Decidable.not_not.1 hfl
          refine wpE_cutF [0, 8] (fun vs w' => ∃ (b8 u' r' : Nat), vs = [.pointer (some ⟨R.pb, 0, none⟩), .pointer (some ⟨b8, 0, none⟩)] ∧ Blk w' b8 (supC (comS P root txt) u' r') ∧ SetAt w' u' P.now.used ∧ SetAt w' r' P.now.written ∧ u' ≠ r' ∧ w2.heap.size ≤ u' ∧ w2.heap.size ≤ r' ∧ w2.heap.size ≤ b8 ∧ Chg [] w2 w') ?_ ?_
          · skip
            refine wpE_draw mixed (.pure 0 (.pure 1 (.pure 2 (.pure 3 (.pure 4 (.pure 5 (.read 6 (.pure 8 (.pure 9 (.pure 10 (.pure 11 (.read 12 (.pure 15 (.pure 16 (.pure 17 (.pure 18 (.read 19 (.pure 20 (.pure 21 (.pure 22 (.pure 23 (.pure 24 (.read 25 (.alt (.eff 7 [12, 19, 25] (.alt (.eff 13 [19, 25] (.pure 14 (.pure 26 (.eff 27 [6, 12, 19, 25] (.eff 28 [] .nil))))) (.eff 27 [6, 12, 19, 25] (.eff 13 [19, 25] (.pure 14 (.pure 26 (.eff 28 [] .nil))))))) (.eff 27 [6, 12, 19, 25] (.eff 7 [12, 19, 25] (.eff 13 [19, 25] (.pure 14 (.pure 26 (.eff 28 [] .nil)))))))))))))))))))))))))))))) (by kernel_rfl) ?_
            refine wpP_pure rfl rfl rfl (fun _ => x_move) ?_
            refine wpP_pure rfl rfl rfl (fun _ => x_move) ?_
            refine wpP_pure rfl rfl rfl (fun _ => x_move) ?_
            refine wpP_pure rfl rfl rfl (fun _ => (x_nil rfl)) ?_
            refine wpP_pure rfl rfl rfl (fun _ => (x_fieldAddr Tryz.underlying128 rfl I123 rfl rfl)) ?_
            refine wpP_pure rfl rfl rfl (fun _ => (x_fieldAddr Tryz.underlying123 rfl I121 rfl rfl)) ?_
            refine wpP_rd rfl rfl rfl Tryz.underlying121 rfl rfl (h2.a 2 (by decide) rfl) ?_
            refine wpP_pure rfl rfl rfl (fun _ => x_move) ?_
            refine wpP_pure rfl rfl rfl (fun _ => (x_nil rfl)) ?_
            refine wpP_pure rfl rfl rfl (fun _ => (x_fieldAddr Tryz.underlying128 rfl I123 rfl rfl)) ?_
            refine wpP_pure rfl rfl rfl (fun _ => (x_fieldAddr Tryz.underlying123 rfl I121 rfl rfl)) ?_
            refine wpP_rd rfl rfl rfl Tryz.underlying121 rfl rfl (h2.a 3 (by decide) rfl) ?_
            refine wpP_pure rfl rfl rfl (fun _ => x_move) ?_
            refine wpP_pure rfl rfl rfl (fun _ => (x_nil rfl)) ?_
            refine wpP_pure rfl rfl rfl (fun _ => (x_fieldAddr Tryz.underlying128 rfl I125 rfl rfl)) ?_
            refine wpP_pure rfl rfl rfl (fun _ => (x_fieldAddr Tryz.underlying125 rfl I35 rfl rfl)) ?_
            refine wpP_rd rfl rfl rfl Tryz.underlying35 rfl rfl (h2.c hk 4 rfl) ?_
            refine wpP_pure rfl rfl rfl (fun _ => (x_add64u (b := 1) rfl rfl)) ?_
            refine wpP_pure rfl rfl rfl (fun _ => x_move) ?_
            refine wpP_pure rfl rfl rfl (fun _ => (x_nil rfl)) ?_
            refine wpP_pure rfl rfl rfl (fun _ => (x_fieldAddr Tryz.underlying128 rfl I125 rfl rfl)) ?_
            refine wpP_pure rfl rfl rfl (fun _ => (x_fieldAddr Tryz.underlying125 rfl I34 rfl rfl)) ?_
            refine wpP_rd rfl rfl rfl Tryz.underlying34 rfl rfl (h2.c hk 5 rfl) ?_
            have hcum : Chg [] w2 { w2 with drawn := w2.drawn + 1 } := Chg.heap rfl
            have o6 : ∀ {w' : World}, Chg [] w2 w' → w'.cell? ⟨R.pb, 2, none⟩ = some (.map (some R.u)) := fun hc => (h2.chg0 hc).a 2 (by decide) rfl
            have o12 : ∀ {w' : World}, Chg [] w2 w' → w'.cell? ⟨R.pb, 3, none⟩ = some (.map (some R.r)) := fun hc => (h2.chg0 hc).a 3 (by decide) rfl
            have o19 : ∀ {w' : World}, Chg [] w2 w' → w'.cell? ⟨R.pb, 73, none⟩ = some (.int .u64 P.kept.commit.toNat) := fun hc => (h2.chg0 hc).c hk 4 rfl
            have o25 : ∀ {w' : World}, Chg [] w2 w' → w'.cell? ⟨R.pb, 74, none⟩ = some (.int .u32 P.kept.epoch.toNat) := fun hc => (h2.chg0 hc).c hk 5 rfl
            refine wpP_alt ?_ ?_
            · skip
              refine wpP_call rfl rfl rfl C71 (CloneS_ok _ R.u P.now.used (h2.chg0 hcum).2.1) ?_
              rintro _ wq7 ⟨u', rfl, hu', hc7, hnu⟩
              have hnu2 : w2.heap.size ≤ u' := Nat.le_trans hcum.1 hnu
              have hcum := hcum.tr hc7
              refine ⟨⟨o12 hcum, o19 hcum, o25 hcum, trivial⟩, ?_⟩
              refine wpP_alt ?_ ?_
              · skip
                refine wpP_call rfl rfl rfl C71 (CloneS_ok _ R.r P.now.written (h2.chg0 hcum).2.2.1) ?_
                rintro _ wq13 ⟨r', rfl, hr', hc13, hnr⟩
                have hnr2 : w2.heap.size ≤ r' := Nat.le_trans hcum.1 hnr
                have hnur : u' ≠ r' := by have := hu'.lt; omega
                have hcum := hcum.tr hc13
                have hu' := hu'.chg0 hc13
                refine ⟨⟨o19 hcum, o25 hcum, trivial⟩, ?_⟩
                refine wpP_pure rfl rfl rfl (fun _ => x_buildL Tryz.underlying123 I123 rfl (zs := [.int .u32 0, str [], .map none, .map none]) rfl rfl (fill1 rfl rfl rfl (Nat.le_of_ble_eq_true rfl) (fill1 rfl rfl rfl (Nat.le_of_ble_eq_true rfl) (fill1 rfl rfl rfl (Nat.le_of_ble_eq_true rfl) (fill1 rfl rfl rfl (Nat.le_of_ble_eq_true rfl) (fill0 (cs' := stC (comS P root txt).st u' r') rfl)))))) ?_
                refine wpP_pure rfl rfl rfl (fun _ => x_buildL Tryz.underlying125 I125 rfl (zs := sup0C) rfl rfl (fill1 rfl rfl rfl (Nat.le_of_ble_eq_true rfl) (fill1 rfl rfl rfl (Nat.le_of_ble_eq_true rfl) (fill1 rfl rfl rfl (Nat.le_of_ble_eq_true rfl) (fill0 (cs' := supC (comS P root txt) u' r') rfl))))) ?_
                refine wpP_exw rfl rfl rfl (x_allocB (l := sup0C) I125 rfl rfl) ?_
                rintro _ wq27 ⟨b8, rfl, hn8, hB8, hc27, hl8⟩
                have hnb2 : w2.heap.size ≤ b8 := Nat.le_trans hcum.1 hn8
                have hcum := hcum.tr hc27
                have hbu : b8 ≠ u' := by have := hu'.lt; omega
                have hu' := hu'.chg0 hc27
                have hbr8 : b8 ≠ r' := by have := hr'.lt; omega
                have hr' := hr'.chg0 hc27
                refine ⟨⟨o6 hcum, o12 hcum, o19 hcum, o25 hcum, trivial⟩, ?_⟩
                refine wpP_exs rfl rfl rfl (x_storeB (l := supC (comS P root txt) u' r') I125 rfl rfl hB8 rfl rfl (Nat.le_refl 6) (supC_cell _ _ _) (spl_all rfl)) ?_
                rintro wq28 ⟨hB28, hc28, hs28⟩
                refine ⟨trivial, ?_⟩
                refine wpP_nil (thenE_norm ?_)
                exact ⟨b8, u', r', rfl, hB28, hu'.mod hc28 (by simpa using Ne.symm hbu), hr'.mod hc28 (by simpa using Ne.symm hbr8), hnur, hnu2, hnr2, hnb2, hcum.t1 hc28 hnb2⟩
              · skip
                refine wpP_exw rfl rfl rfl (x_allocB (l := sup0C) I125 rfl rfl) ?_
                rintro _ wq27 ⟨b8, rfl, hn8, hB8, hc27, hl8⟩
                have hnb2 : w2.heap.size ≤ b8 := Nat.le_trans hcum.1 hn8
                have hcum := hcum.tr hc27
                have hbu : b8 ≠ u' := by have := hu'.lt; omega
                have hu' := hu'.chg0 hc27
                refine ⟨⟨o6 hcum, o12 hcum, o19 hcum, o25 hcum, trivial⟩, ?_⟩
                refine wpP_call rfl rfl rfl C71 (CloneS_ok _ R.r P.now.written (h2.chg0 hcum).2.2.1) ?_
                rintro _ wq13 ⟨r', rfl, hr', hc13, hnr⟩
                have hnr2 : w2.heap.size ≤ r' := Nat.le_trans hcum.1 hnr
                have hnur : u' ≠ r' := by have := hu'.lt; omega
                have hcum := hcum.tr hc13
                have hu' := hu'.chg0 hc13
                have hbr8 : b8 ≠ r' := by have := hB8.lt; omega
                have hB8 := hB8.chg0 hc13
                refine ⟨⟨o19 hcum, o25 hcum, trivial⟩, ?_⟩
                refine wpP_pure rfl rfl rfl (fun _ => x_buildL Tryz.underlying123 I123 rfl (zs := [.int .u32 0, str [], .map none, .map none]) rfl rfl (fill1 rfl rfl rfl (Nat.le_of_ble_eq_true rfl) (fill1 rfl rfl rfl (Nat.le_of_ble_eq_true rfl) (fill1 rfl rfl rfl (Nat.le_of_ble_eq_true rfl) (fill1 rfl rfl rfl (Nat.le_of_ble_eq_true rfl) (fill0 (cs' := stC (comS P root txt).st u' r') rfl)))))) ?_
                refine wpP_pure rfl rfl rfl (fun _ => x_buildL Tryz.underlying125 I125 rfl (zs := sup0C) rfl rfl (fill1 rfl rfl rfl (Nat.le_of_ble_eq_true rfl) (fill1 rfl rfl rfl (Nat.le_of_ble_eq_true rfl) (fill1 rfl rfl rfl (Nat.le_of_ble_eq_true rfl) (fill0 (cs' := supC (comS P root txt) u' r') rfl))))) ?_
                refine wpP_exs rfl rfl rfl (x_storeB (l := supC (comS P root txt) u' r') I125 rfl rfl hB8 rfl rfl (Nat.le_refl 6) (supC_cell _ _ _) (spl_all rfl)) ?_
                rintro wq28 ⟨hB28, hc28, hs28⟩
                refine ⟨trivial, ?_⟩
                refine wpP_nil (thenE_norm ?_)
                exact ⟨b8, u', r', rfl, hB28, hu'.mod hc28 (by simpa using Ne.symm hbu), hr'.mod hc28 (by simpa using Ne.symm hbr8), hnur, hnu2, hnr2, hnb2, hcum.t1 hc28 hnb2⟩
            · skip
              refine wpP_exw rfl rfl rfl (x_allocB (l := sup0C) I125 rfl rfl) ?_
              rintro _ wq27 ⟨b8, rfl, hn8, hB8, hc27, hl8⟩
              have hnb2 : w2.heap.size ≤ b8 := Nat.le_trans hcum.1 hn8
              have hcum := hcum.tr hc27
              refine ⟨⟨o6 hcum, o12 hcum, o19 hcum, o25 hcum, trivial⟩, ?_⟩
              refine wpP_call rfl rfl rfl C71 (CloneS_ok _ R.u P.now.used (h2.chg0 hcum).2.1) ?_
              rintro _ wq7 ⟨u', rfl, hu', hc7, hnu⟩
              have hnu2 : w2.heap.size ≤ u' := Nat.le_trans hcum.1 hnu
              have hcum := hcum.tr hc7
              have hbu : b8 ≠ u' := by have := hB8.lt; omega
              have hB8 := hB8.chg0 hc7
              refine ⟨⟨o12 hcum, o19 hcum, o25 hcum, trivial⟩, ?_⟩
              refine wpP_call rfl rfl rfl C71 (CloneS_ok _ R.r P.now.written (h2.chg0 hcum).2.2.1) ?_
              rintro _ wq13 ⟨r', rfl, hr', hc13, hnr⟩
              have hnr2 : w2.heap.size ≤ r' := Nat.le_trans hcum.1 hnr
              have hnur : u' ≠ r' := by have := hu'.lt; omega
              have hcum := hcum.tr hc13
              have hbr8 : b8 ≠ r' := by have := hB8.lt; omega
              have hB8 := hB8.chg0 hc13
              have hu' := hu'.chg0 hc13
              refine ⟨⟨o19 hcum, o25 hcum, trivial⟩, ?_⟩
              refine wpP_pure rfl rfl rfl (fun _ => x_buildL Tryz.underlying123 I123 rfl (zs := [.int .u32 0, str [], .map none, .map none]) rfl rfl (fill1 rfl rfl rfl (Nat.le_of_ble_eq_true rfl) (fill1 rfl rfl rfl (Nat.le_of_ble_eq_true rfl) (fill1 rfl rfl rfl (Nat.le_of_ble_eq_true rfl) (fill1 rfl rfl rfl (Nat.le_of_ble_eq_true rfl) (fill0 (cs' := stC (comS P root txt).st u' r') rfl)))))) ?_
              refine wpP_pure rfl rfl rfl (fun _ => x_buildL Tryz.underlying125 I125 rfl (zs := sup0C) rfl rfl (fill1 rfl rfl rfl (Nat.le_of_ble_eq_true rfl) (fill1 rfl rfl rfl (Nat.le_of_ble_eq_true rfl) (fill1 rfl rfl rfl (Nat.le_of_ble_eq_true rfl) (fill0 (cs' := supC (comS P root txt) u' r') rfl))))) ?_
              refine wpP_exs rfl rfl rfl (x_storeB (l := supC (comS P root txt) u' r') I125 rfl rfl hB8 rfl rfl (Nat.le_refl 6) (supC_cell _ _ _) (spl_all rfl)) ?_
              rintro wq28 ⟨hB28, hc28, hs28⟩
              refine ⟨trivial, ?_⟩
              refine wpP_nil (thenE_norm ?_)
              exact ⟨b8, u', r', rfl, hB28, hu'.mod hc28 (by simpa using Ne.symm hbu), hr'.mod hc28 (by simpa using Ne.symm hbr8), hnur, hnu2, hnr2, hnb2, hcum.t1 hc28 hnb2⟩
          · rintro vs J w3 ⟨b8, u', r', rfl, hB3, hu3, hr3, hne3, hnu, hnr, hnb, hc3⟩
            refine wpE_seq ?_
            refine wpE_region ?_
            refine wpL_value rfl x_move (wpL_value rfl (x_nil rfl) (wpL_value rfl (x_fieldAddr Tryz.underlying128 rfl I3 rfl rfl) ?_))
            have h3 := h2.chg0 hc3
            have hd3 := hd2.chg0 hc3
            have hSok : (comS P root txt).Ok := ⟨htx, hlu, hlw⟩
            have hfb := hf.flush (by omega)
            have hfs : ds.flush.1.steps = ds.steps + 1 := by
              unfold DSt.flush; by_cases hq : ds.step.off = true
              · rw [if_pos hq]; rfl
              · rw [if_neg hq]; rfl
            refine wpL_value rfl (x_load Tryz.underlying3 rfl rfl (h3.c hk 6 rfl)) ?_
            refine wpL_value rfl (x_add64 rfl rfl (by omega)) (wpL_value rfl (x_rem64 rfl rfl (by omega)) (wpL_value rfl x_assign ?_))
            refine wpL_nil (thenE_norm ?_)
            refine wpE_seq ?_
            refine wpE_seq ?_
            refine wpE_draw mixed (.pure 0 (.pure 1 (.pure 2 (.read 3 (.pure 4 (.pure 5 (.pure 6 (.read 7 (.pure 8 (.read 9 (.eff 10 [] (.pure 11 .nil)))))))))))) (by kernel_rfl) ?_
            refine wpP_pure rfl rfl rfl (fun _ => x_move) ?_
            refine wpP_pure rfl rfl rfl (fun _ => (x_nil rfl)) ?_
            refine wpP_pure rfl rfl rfl (fun _ => (x_fieldAddr Tryz.underlying128 rfl I25 rfl rfl)) ?_
            refine wpP_rd rfl rfl rfl Tryz.underlying25 rfl rfl (h3.a 4 (by decide) rfl) ?_
            refine wpP_pure rfl rfl rfl (fun _ => x_move) ?_
            refine wpP_pure rfl rfl rfl (fun _ => (x_nil rfl)) ?_
            refine wpP_pure rfl rfl rfl (fun _ => (x_fieldAddr Tryz.underlying128 rfl I23 rfl rfl)) ?_
            refine wpP_rdAt 32 rfl rfl rfl Tryz.underlying23 rfl I23 rfl (h3.atK hk) (hk) rfl ?_
            refine wpP_pure rfl rfl rfl (fun _ => x_move) ?_
            refine wpP_read rfl rfl rfl (fun w' => Blk w' b8 (supC (comS P root txt) u' r')) (hB3) (fun w1 h1 => x_loadA Tryz.underlying125 rfl I125 rfl (h1.at (l := supC (comS P root txt) u' r') (off := 0) rfl) rfl) ?_
            refine wpP_call rfl rfl rfl C72 (lays_ok _ b r kv ds.flush.1 k hk ((P.at_ + 1) % 2) (by omega) (comS P root txt) u' r' hSok (hu3.chg0 (drw _)) (hr3.chg0 (drw _)) (hd3.chg0 (drw _)) hfb (by omega)) ?_
            rintro _ w4 ⟨rfl, hd4, hc4⟩
            refine ⟨trivial, ?_⟩
            refine wpP_pure rfl rfl rfl (fun _ => x_assign) ?_
            refine wpP_nil (thenE_norm ?_)
            refine wpE_seq ?_
            refine wpE_region ?_
            refine wpL_value rfl x_move (wpL_value rfl (x_neq rfl rfl) ?_)
            refine wpL_nil (thenE_norm ?_)
            have hc24 : Chg (DF b kv r) w2 w4 := hc3.tr0' ((drw w3).tr0' hc4)
            have h4 : PagerAt w4 R b k P := h2.chg hc24 hap
            have hdf2 := hd2.lt
            have hc34 : Chg (DF b kv r) w3 w4 := (drw w3).tr0' hc4
            have hu4 := hu3.mod hc34 (fun hh => by have := hdf2 _ hh; omega)
            have hr4 := hr3.mod hc34 (fun hh => by have := hdf2 _ hh; omega)
            have hB4 := hB3.chg hc34 (fun hh => by have := hdf2 _ hh; omega)
            have hc04 : Chg (PF R ++ DF b kv r) w w4 := hc02.tr (hc24.mono (fun x hx _ => List.mem_append_right _ hx))
            refine wpE_cond_d rfl (fun hla => ?_) (fun hla => ?_)
            · skip
              refine wpE_seq ?_
              refine wpE_region ?_
              refine wpL_value rfl x_move (wpL_value rfl x_move ?_)
              have hla : (laysD k ds.flush.1 ((P.at_ + 1) % 2) (comS P root txt)).2 ≠ 0 := hla
              refine wpL_call rfl C69 (breaks_ok w4 R b k hk P h4 _) ?_
              rintro _ w5 ⟨rfl, h5, hc5⟩
              refine wpL_value rfl x_assign ?_
              refine wpL_nil (thenE_norm ?_)
              refine wpE_ret (thenE_ret (fin_ret ?_))
              refine ⟨⟨_, R, _, _, rfl, rfl, rfl, fun x hx => .inl hx, .inr (.inr (.inr ⟨hbr, htx, hun, .inr (.inl ⟨hfl, hla, rfl, ?_, rfl⟩)⟩)), h5, hd4.chg hc5 (fun x hx hh => by simp at hh; subst hh; exact hap R.pb (by simp [PF]) hx)⟩, hc04.tr (hc5.mono (by simp [PF]))⟩
              simp only [hbr, Bool.false_or]
            · skip
              refine wpE_skip (thenE_norm ?_)
              refine wpE_seq ?_
              have hla : (laysD k ds.flush.1 ((P.at_ + 1) % 2) (comS P root txt)).2 = 0 := Decidable.not_not.1 hla
              have hlen : ∀ Q S, (pgL k (deriveL k tPage 0) (pgA Q S b) (pgC Q S)).length = 79 := fun Q S => pgL_length hk hpk rfl rfl
              have hpb4 := h4.lt R.pb (by simp [PF])
              have hgl4 := h4.lt R.g (by simp [PF])
              have hpb2 := h2.lt R.pb (by simp [PF])
              have hgl2 := h2.lt R.g (by simp [PF])
              have hob1 := PR.apart h4.2.2.2.2.2.2
              obtain ⟨q1, q2, q3, q4, q5⟩ := hob1
              refine wpE_draw mixed (.pure 0 (.pure 1 (.pure 2 (.pure 3 (.read 4 (.read 6 (.pure 7 (.eff 5 [6] (.pure 8 (.pure 9 (.eff 10 [6] (.pure 11 (.pure 12 (.eff 13 [] (.pure 14 (.pure 15 (.eff 16 [] .nil))))))))))))))))) (by kernel_rfl) ?_
              refine wpP_pure rfl rfl rfl (fun _ => x_move) ?_
              refine wpP_pure rfl rfl rfl (fun _ => x_move) ?_
              refine wpP_pure rfl rfl rfl (fun _ => x_move) ?_
              refine wpP_pure rfl rfl rfl (fun _ => (x_fieldAddr Tryz.underlying125 rfl I123 rfl rfl)) ?_
              refine wpP_read rfl rfl rfl (fun w' => Blk w' b8 (supC (comS P root txt) u' r')) (hB4) (fun w1 h1 => x_loadA Tryz.underlying123 rfl I123 rfl (h1.at (l := stC (comS P root txt).st u' r') (off := 0) rfl) rfl) ?_
              refine wpP_read rfl rfl rfl (fun w' => Blk w' b8 (supC (comS P root txt) u' r')) (hB4) (fun w1 h1 => x_loadA Tryz.underlying125 rfl I125 rfl (h1.at (l := supC (comS P root txt) u' r') (off := 0) rfl) rfl) ?_
              refine wpP_pure rfl rfl rfl (fun _ => x_move) ?_
              refine wpP_call rfl rfl rfl C73 (copied_ok _ (comS P root txt).st u' r' (hu4.chg0 (drw _)) (hr4.chg0 (drw _))) ?_
              rintro _ w5 ⟨u2, r2, rfl, hu5, hr5, hc5, hnu2, hnr2, hn22⟩
              have hc5 : Chg [] w4 w5 := (drw w4).tr hc5
              have hnu2 : w4.heap.size ≤ u2 := hnu2
              have hnr2 : w4.heap.size ≤ r2 := hnr2
              refine ⟨⟨hB4.chg0 hc5, trivial⟩, ?_⟩
              refine wpP_pure rfl rfl rfl (fun _ => (x_nil rfl)) ?_
              refine wpP_pure rfl rfl rfl (fun _ => (x_fieldAddr Tryz.underlying128 rfl I123 rfl rfl)) ?_
              have hob2 : ∃ P' : Pg, P' = { P with now := (comS P root txt).st, kept := comS P root txt, at_ := (P.at_ + 1) % 2 } := ⟨_, rfl⟩
              obtain ⟨P', hP'⟩ := hob2
              have hob3 : ∃ R' : PR, R' = ⟨R.pb, u2, r2, u', r', R.g⟩ := ⟨_, rfl⟩
              obtain ⟨R', hR'⟩ := hob3
              have hle : ∀ n, n ≤ 79 → n ≤ 79 := fun n h => h
              refine wpP_exs rfl rfl rfl (x_storeB (l := stC (comS P root txt).st u2 r2) I123 rfl rfl (h4.chg0 hc5).1 rfl rfl (by rw [hlen]; exact Nat.le_of_ble_eq_true rfl) (stC_cell _ _ _) (pgL_splA rfl 0 (stC (comS P root txt).st u2 r2) (Nat.le_of_ble_eq_true rfl) (A' := pgA P' R' b) (by rw [hP', hR']; rfl))) ?_
              rintro w6 ⟨hB6, hc6, hs6⟩
              refine ⟨⟨(hB4.chg0 hc5).nb hc6 (by omega), trivial⟩, ?_⟩
              refine wpP_pure rfl rfl rfl (fun _ => (x_nil rfl)) ?_
              refine wpP_pure rfl rfl rfl (fun _ => (x_fieldAddr Tryz.underlying128 rfl I125 rfl rfl)) ?_
              have hlen6 : ∀ C : List Value, C.length = 10 → (pgL k (deriveL k tPage 0) (pgA P' R' b) C).length = 79 := fun C hC => pgL_length hk hpk rfl hC
              refine wpP_exs rfl rfl rfl (x_storeB (l := supC (comS P root txt) u' r') I125 rfl rfl hB6 rfl rfl (by rw [hlen6 _ rfl]; exact Nat.le_of_ble_eq_true rfl) (supC_cell _ _ _) (pgL_splC hk hpk rfl 0 (supC (comS P root txt) u' r') (C' := pgC { P' with at_ := P.at_ } R') (by rw [hP', hR']; rfl))) ?_
              rintro w7 ⟨hB7, hc7, hs7⟩
              refine ⟨trivial, ?_⟩
              refine wpP_pure rfl rfl rfl (fun _ => (x_nil rfl)) ?_
              refine wpP_pure rfl rfl rfl (fun _ => (x_fieldAddr Tryz.underlying128 rfl I3 rfl rfl)) ?_
              refine wpP_exs rfl rfl rfl (x_storeB1 I3 rfl rfl (hB7) rfl rfl ((by rw [hlen6 _ rfl]; exact Nat.le_of_ble_eq_true rfl : 75 < _)) rfl (pgL_splC hk hpk rfl 6 [.int .i64 (((P.at_ + 1) % 2 : Nat) : Int)] (C' := pgC P' R') (by rw [hP', hR']; rfl))) ?_
              rintro w8 ⟨hB8, hc8, hs8⟩
              refine ⟨trivial, ?_⟩
              refine wpP_nil (thenE_norm ?_)
              refine wpE_seq ?_
              refine wpE_region ?_
              refine wpL_value rfl x_assign ?_
              refine wpL_nil (thenE_norm ?_)
              refine wpE_ret (fin_ret ?_)
              have hcw : Chg [R.pb] w5 w8 := (hc6.tr hc7).tr hc8
              have hk1 := hc1.1
              have hk2 := hc2.1
              have hk24 := hc24.1
              have hk5 := hc5.1
              have hu4l := hu4.lt
              have hr4l := hr4.lt
              have hgen := ((h4.chg0 hc5).2.2.2.2.2.1).mod hcw (by simpa using Ne.symm q1.2.2.2.2)
              subst hR'
              refine ⟨⟨0, ⟨R.pb, u2, r2, u', r', R.g⟩, P', _, rfl, rfl, rfl, ?_, .inr (.inr (.inr ⟨hbr, htx, hun, .inr (.inr ⟨hfl, hla, rfl, hP', rfl⟩)⟩)), ?_, (hd4.chg0 hc5).chg hcw (fun x hx hh => by simp at hh; subst hh; exact hap R.pb (by simp [PF]) hx)⟩, (hc04.tr0 hc5).tr (hcw.mono (by simp [PF]))⟩
              · intro x hx
                simp only [PF, List.mem_cons, List.not_mem_nil, or_false] at hx ⊢
                rcases hx with rfl | rfl | rfl | rfl | rfl | rfl
                · exact .inl (.inl rfl)
                · exact .inr (Nat.le_trans (Nat.le_trans (Nat.le_trans hk1 hk2) hk24) hnu2)
                · exact .inr (Nat.le_trans (Nat.le_trans (Nat.le_trans hk1 hk2) hk24) hnr2)
                · exact .inr (Nat.le_trans (Nat.le_trans hk1 hk2) hnu)
                · exact .inr (Nat.le_trans (Nat.le_trans hk1 hk2) hnr)
                · exact .inl (by simp)
              · subst hP'
                refine ⟨hB8, hu5.mod hcw (by simp; omega), hr5.mod hcw (by simp; omega), (hu4.chg0 hc5).mod hcw (by simp; omega), (hr4.chg0 hc5).mod hcw (by simp; omega), hgen, ?_⟩
                simp only [PF, List.nodup_cons, List.mem_cons, List.not_mem_nil, or_false, not_or, List.nodup_nil, and_true, not_false_eq_true]
                omega
end Go.Proofs.YtenhmbhflgnhlaaGreat

