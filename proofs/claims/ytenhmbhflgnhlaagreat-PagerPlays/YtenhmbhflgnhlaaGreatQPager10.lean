/- every row of calls, crashes, the power going within a commit: what each tells -/
import Derived.Test.YtenhmbhflgnhlaaGreatQPager9
import Derived.Test.YtenhmbhflgnhlaaGreatSac1
namespace Go.Proofs.YtenhmbhflgnhlaaGreat
open Go Go.Sac
set_option maxRecDepth 100000
set_option maxHeartbeats 4000000
def WriteR (k : List UInt8) (P : Pg) (ds : DSt) (i : UInt32) (l : List UInt8) (v : Value) (P' : Pg) (ds' : DSt) : Prop :=
  (P.broken = true ∧ v = .int .i64 61 ∧ P' = P ∧ ds' = ds) ∨
  (P.broken = false ∧ P.fresh i = false ∧ v = .int .i64 71 ∧ P' = P ∧ ds' = ds) ∨
  (P.broken = false ∧ P.fresh i = true ∧ 480 < l.length ∧ v = .int .i64 11 ∧ P' = P ∧ ds' = ds) ∨
  (P.broken = false ∧ P.fresh i = true ∧ l.length ≤ 480 ∧ v = .int .i64 (ds.writes (32 + (i.toNat : Int) * 8) (pageB (deriveL k tPage 0) i.toNat P.gen.toNat l)).2 ∧ ds' = (ds.writes (32 + (i.toNat : Int) * 8) (pageB (deriveL k tPage 0) i.toNat P.gen.toNat l)).1 ∧
    P' = if (ds.writes (32 + (i.toNat : Int) * 8) (pageB (deriveL k tPage 0) i.toNat P.gen.toNat l)).2 = 0 then { P with count := P.count + 1, now := { P.now with written := addPg P.now.written i }, gens := setG P.gens i P.gen } else { P with count := P.count + 1, broken := decide ((ds.writes (32 + (i.toNat : Int) * 8) (pageB (deriveL k tPage 0) i.toNat P.gen.toNat l)).2 = 61) })
theorem Write_ok3 (w : World) (R : PR) (b r : Nat) (kv lv : Value) (ds : DSt) (k : List UInt8) (hk : k.length = 32) (P : Pg) (h : PagerAt w R b k P) (hd : DiskAt w b kv r ds) (hf : ds.Fine) (hst : ds.steps + 20 ≤ 1000000000000) (hap : ∀ x ∈ PF R, x ∉ DF b kv r) (i : UInt32) (hi : i.toNat ≤ 400) (l : List UInt8) (hb : SlE w lv l) (hbb : l ≠ [] → ∀ x ∈ blkOf lv, x ∉ PF R ∧ x ∉ DF b kv r) :
    Ret Tryz.prog 22 #[.pointer (some ⟨R.pb, 0, none⟩), .int .u32 i.toNat, lv] w fun v w' => (∃ P' ds', WriteR k P ds i l v P' ds' ∧ PagerAt w' R b k P' ∧ DiskAt w' b kv r ds') ∧ Chg (PF R ++ DF b kv r) w w' := by
  have hpk := deriveL_length k tPage 0
  obtain ⟨pb, cb, rfl⟩ := hb.form
  have hlt := h.lt
  have hdlt := hd.lt
  refine enter [6] Tryz.func22 rfl rfl (Nat.le_of_ble_eq_true rfl) ?_
  refine wpE_seq ?_
  refine wpE_region ?_
  refine wpL_value rfl x_assign ?_
  refine wpL_nil (thenE_norm ?_)
  refine wpE_seq ?_
  refine wpE_block ?_
  refine wpE_seq ?_
  refine wpE_region ?_
  refine wpL_value rfl x_move (wpL_value rfl (x_nil rfl) (wpL_value rfl (x_fieldAddr Tryz.underlying128 rfl I4 rfl rfl) ?_))
  refine wpL_value rfl (x_load Tryz.underlying4 rfl rfl (h.c hk 9 rfl)) ?_
  refine wpL_value rfl x_assign ?_
  refine wpL_nil (thenE_norm ?_)
  refine wpE_cond rfl (fun hbr => ?_) (fun hbr => ?_)
  · skip
    refine wpE_seq ?_
    refine wpE_region ?_
    refine wpL_value rfl x_assign ?_
    refine wpL_nil (thenE_norm ?_)
    refine wpE_ret (blockE_ret (thenE_ret (fin_ret ?_)))
    exact ⟨⟨P, ds, .inl ⟨hbr, rfl, rfl, rfl⟩, h, hd⟩, Chg.refl' _ _⟩
  · skip
    refine wpE_seq ?_
    refine wpE_region ?_
    refine wpL_value rfl x_move (wpL_value rfl x_move ?_)
    have hbr : P.broken = false := by simpa using hbr
    refine wpL_call rfl C63 (Fresh_ok w R b k hk P h i) ?_
    rintro _ w1 ⟨rfl, hh1⟩
    refine wpL_value rfl (x_not rfl) (wpL_value rfl x_assign ?_)
    refine wpL_nil (thenE_norm ?_)
    have hc1 : Chg [] w w1 := Chg.heap hh1
    refine wpE_cond rfl (fun hfr => ?_) (fun hfr => ?_)
    · skip
      refine wpE_seq ?_
      refine wpE_region ?_
      refine wpL_value rfl x_assign ?_
      refine wpL_nil (thenE_norm ?_)
      refine wpE_ret (blockE_ret (thenE_ret (fin_ret ?_)))
      exact ⟨⟨P, ds, .inr (.inl ⟨hbr, by simpa using hfr, rfl, rfl, rfl⟩), h.chg0 hc1, hd.chg0 hc1⟩, Chg.heap hh1⟩
    · skip
      refine wpE_seq ?_
      refine wpE_region ?_
      refine wpL_value rfl x_move (wpL_value rfl (x_len_slice rfl Tryz.underlying41) (wpL_value rfl (x_gtr rfl rfl) (wpL_value rfl x_assign ?_)))
      refine wpL_nil (thenE_norm ?_)
      have hfr : P.fresh i = true := by simpa using hfr
      refine wpE_cond_d rfl (fun hlong => ?_) (fun hlong => ?_)
      · skip
        refine wpE_seq ?_
        refine wpE_region ?_
        refine wpL_value rfl x_assign ?_
        refine wpL_nil (thenE_norm ?_)
        refine wpE_ret (blockE_ret (thenE_ret (fin_ret ?_)))
        exact ⟨⟨P, ds, .inr (.inr (.inl ⟨hbr, hfr, by omega, rfl, rfl, rfl⟩)), h.chg0 hc1, hd.chg0 hc1⟩, Chg.heap hh1⟩
      · skip
        refine wpE_skip (blockE_norm (thenE_norm ?_))
        refine wpE_seq ?_
        have hl : l.length ≤ 480 := by omega
        have h1 := h.chg0 hc1
        refine wpE_draw mixed (.pure 0 (.pure 1 (.pure 2 (.pure 3 (.read 4 (.pure 5 (.pure 6 (.pure 7 (.pure 8 (.pure 9 (.read 10 (.pure 11 (.pure 12 (.pure 13 .nil)))))))))))))) (by kernel_rfl) ?_
        refine wpP_pure rfl rfl rfl (fun _ => x_move) ?_
        refine wpP_pure rfl rfl rfl (fun _ => (x_nil rfl)) ?_
        refine wpP_pure rfl rfl rfl (fun _ => (x_fieldAddr Tryz.underlying128 rfl I125 rfl rfl)) ?_
        refine wpP_pure rfl rfl rfl (fun _ => (x_fieldAddr Tryz.underlying125 rfl I34 rfl rfl)) ?_
        refine wpP_rd rfl rfl rfl Tryz.underlying34 rfl rfl (h1.c hk 5 rfl) ?_
        refine wpP_pure rfl rfl rfl (fun _ => (x_conv64u rfl Tryz.underlying34 Tryz.underlying35)) ?_
        refine wpP_pure rfl rfl rfl (fun _ => (x_shl64u rfl rfl (s := 32) rfl)) ?_
        refine wpP_pure rfl rfl rfl (fun _ => x_move) ?_
        refine wpP_pure rfl rfl rfl (fun _ => (x_nil rfl)) ?_
        refine wpP_pure rfl rfl rfl (fun _ => (x_fieldAddr Tryz.underlying128 rfl I34 rfl rfl)) ?_
        refine wpP_rd rfl rfl rfl Tryz.underlying34 rfl rfl (h1.c hk 7 rfl) ?_
        refine wpP_pure rfl rfl rfl (fun _ => (x_conv64u rfl Tryz.underlying34 Tryz.underlying35)) ?_
        refine wpP_pure rfl rfl rfl (fun _ => (x_or64u rfl rfl)) ?_
        refine wpP_pure rfl rfl rfl (fun _ => x_assign) ?_
        refine wpP_nil (thenE_norm ?_)
        refine wpE_seq ?_
        refine wpE_region ?_
        refine wpL_value rfl x_move (wpL_value rfl (x_nil rfl) (wpL_value rfl (x_fieldAddr Tryz.underlying128 rfl I34 rfl rfl) ?_))
        have hgen : toU64 (P.kept.epoch.toNat : Int) = toU64 (P.kept.epoch.toNat : Int) := rfl
        refine wpL_value rfl (x_load Tryz.underlying34 rfl rfl (h1.c hk 7 rfl)) ?_
        refine wpL_value rfl (x_add32u (b := 1) rfl rfl) (wpL_value rfl (x_nil rfl) (wpL_value rfl (x_fieldAddr Tryz.underlying128 rfl I34 rfl rfl) ?_))
        have hlen : (pgL k (deriveL k tPage 0) (pgA P R b) (pgC P R)).length = 79 := pgL_length hk hpk rfl rfl
        refine wpL_exs rfl (x_storeB1 I34 rfl rfl (h1.1) rfl rfl ((by rw [hlen]; exact Nat.le_of_ble_eq_true rfl : 76 < _)) rfl (pgL_splC hk hpk rfl 7 [.int .u32 (P.count + 1).toNat] (C' := pgC { P with count := P.count + 1 } R) rfl)) ?_
        rintro w2 ⟨hB2, hc2, hs2⟩
        refine wpL_nil (thenE_norm ?_)
        refine wpE_seq ?_
        refine wpE_region ?_
        have hob1 : ∃ P2, P2 = ({ P with count := P.count + 1 } : Pg) := ⟨_, rfl⟩
        obtain ⟨P2, hP2⟩ := hob1
        have h2 : PagerAt w2 R b k P2 := by rw [hP2]; exact h1.updC hB2 hc2 rfl rfl rfl rfl rfl
        have hd2 : DiskAt w2 b kv r ds := (hd.chg0 hc1).chg hc2 (fun x hx hh => by simp at hh; subst hh; exact hap R.pb (by simp [PF]) hx)
        have hb2 : SlE w2 (.slice pb l.length cb) l := (hb.mod0 hc1).mod hc2 (fun hne x hx hh => by simp at hh; subst hh; exact (hbb hne R.pb hx).1 (by simp [PF]))
        have hc02 : Chg (PF R ++ DF b kv r) w w2 := hc1.tr0' (hc2.mono (by simp [PF]))
        refine wpL_exw rfl (x_mkS (482) (482) ((0 : UInt8)) Tryz.underlying41 I5 rfl rfl rfl (by decide) rfl rfl (by decide) (by first | rfl | omega) (by first | rfl | omega) (by omega) (by omega)) ?_
        rintro _ w3 ⟨⟨p3, c3, rfl⟩, ho3, hc3, hi3⟩
        refine wpL_value rfl x_assign ?_
        refine wpL_nil (thenE_norm ?_)
        refine wpE_seq ?_
        refine wpE_region ?_
        refine wpL_value rfl x_move (wpL_value rfl x_move (wpL_value rfl x_move (wpL_value rfl (x_len_slice rfl Tryz.underlying41) (wpL_value rfl (x_conv64u rfl Tryz.underlying3 Tryz.underlying35) ?_))))
        have hlu : (toU64 (l.length : Int)).toNat = l.length := by rw [toU64_nat, UInt64.toNat_ofNat']; omega
        refine wpL_call rfl C64 (Put_ok (.slice none 0 0) [] (toU64 (l.length : Int)) 2 w3 (Own.nil _) (by decide) (by decide)) ?_
        rintro v4 w4 ⟨ho4, hc4, hi4⟩
        rw [List.nil_append, hlu] at ho4
        have hc4 : Chg [] w3 w4 := hc4
        have hbe2 : (be 2 l.length).length = 2 := be_length _ _
        refine wpL_exv rfl (x_copyO Tryz.underlying41 I5 rfl (ho3.mod0 hc4) ho4.sl.src (by decide) rfl rfl) ?_
        rintro w5 ⟨ho5, hc5, hs5⟩
        have hmin : min (be 2 l.length).length (List.replicate 482 (0 : UInt8)).length = 2 := by rw [hbe2, List.length_replicate]; rfl
        rw [hmin, List.take_of_length_le (by omega), spl0, hbe2, List.drop_replicate] at ho5
        have hr482 : (be 2 l.length ++ List.replicate (482 - 2) (0 : UInt8)).length = 482 := by rw [List.length_append, hbe2, List.length_replicate]
        refine wpL_ex rfl (x_fromS 2 Tryz.underlying41 I5 rfl ho5 rfl rfl (congrArg (fun n : Nat => (n : Int)) hmin) (by rw [hr482]; decide)) ?_
        rintro v6 hsub6
        refine wpL_value rfl x_move ?_
        have k2 := hc02.1
        have k3 := hc3.1
        have k4 := hc4.1
        have hb5 := ((hb2.mod0 hc3).mod0 hc4).mod hc5 (fun hne x hx hh => by have := hi3.ge x hh; have := hb2.lt hne x hx; omega)
        refine wpL_exv rfl (x_copySub Tryz.underlying41 I5 rfl ho5 hsub6 (by rw [hr482]; decide) hb5.src rfl rfl) ?_
        rintro w7 ⟨ho7, hc7, hs7⟩
        refine wpL_nil (thenE_norm ?_)
        refine wpE_seq ?_
        refine wpE_region ?_
        have hml : min l.length ((be 2 l.length ++ List.replicate (482 - 2) (0 : UInt8)).length - 2) = l.length := by rw [hr482]; omega
        rw [hml, List.take_of_length_le (Nat.le_refl _), plain_spl l hl] at ho7
        have hc27 : Chg [] w2 w7 := ((hc3.tr hc4).t0 hc5 (fun x hx => hi3.ge x hx)).t0 hc7 (fun x hx => hi3.ge x hx)
        refine wpL_exw rfl (x_mkS (512) (512) ((0 : UInt8)) Tryz.underlying41 I5 rfl rfl rfl (by decide) rfl rfl (by decide) (by first | rfl | omega) (by first | rfl | omega) (by omega) (by omega)) ?_
        rintro _ w8 ⟨⟨p8, c8, rfl⟩, ho8, hc8, hi8⟩
        refine wpL_value rfl x_assign ?_
        refine wpL_nil (thenE_norm ?_)
        have hl7 := plainL_length l hl
        have hnl := nonceL_length i.toNat P.gen.toNat
        have hsl : (sealL (deriveL k tPage 0) (nonceL i.toNat P.gen.toNat) tPage (plainL l)).length = 498 := by rw [sealL_length, hl7]
        have h8 := h2.chg0 (hc27.tr hc8)
        have hlt2 := h2.lt
        have ho7' := ho7.mod0 hc8
        have hi3' : ∀ x ∈ blkOf (.slice p3 482 c3), w2.heap.size ≤ x := fun x hx => hi3.ge x hx
        have hi8' : ∀ x ∈ blkOf (.slice p8 512 c8), w7.heap.size ≤ x := fun x hx => hi8.ge x hx
        refine wpE_cutF [0, 1, 7, 9] (fun vs w' => vs = [.pointer (some ⟨R.pb, 0, none⟩), .int .u32 i.toNat, .int .u64 P.gen.toNat, .slice p8 512 c8] ∧ Own w' (.slice p8 512 c8) (pageB (deriveL k tPage 0) i.toNat P.gen.toNat l) ∧ Chg (blkOf (.slice p8 512 c8)) w8 w') ?_ ?_
        · skip
          refine wpE_draw mixed (.pure 0 (.pure 1 (.pure 2 (.pure 6 (.pure 7 (.pure 8 (.read 9 (.pure 10 (.pure 11 (.pure 15 (.alt (.eff 3 [9] (.alt (.eff 4 [9] (.pure 5 (.alt (.eff 12 [9] (.eff 13 [9] (.eff 14 [9] (.eff 16 [] (.eff 17 [] .nil))))) (.eff 13 [9] (.alt (.eff 12 [9] (.eff 14 [9] (.eff 16 [] (.eff 17 [] .nil)))) (.eff 14 [9] (.eff 12 [9] (.eff 16 [] (.eff 17 [] .nil))))))))) (.eff 13 [9] (.alt (.eff 4 [9] (.pure 5 (.alt (.eff 12 [9] (.eff 14 [9] (.eff 16 [] (.eff 17 [] .nil)))) (.eff 14 [9] (.eff 12 [9] (.eff 16 [] (.eff 17 [] .nil))))))) (.eff 14 [9] (.eff 4 [9] (.pure 5 (.eff 12 [9] (.eff 16 [] (.eff 17 [] .nil)))))))))) (.eff 13 [9] (.alt (.eff 3 [9] (.alt (.eff 4 [9] (.pure 5 (.alt (.eff 12 [9] (.eff 14 [9] (.eff 16 [] (.eff 17 [] .nil)))) (.eff 14 [9] (.eff 12 [9] (.eff 16 [] (.eff 17 [] .nil))))))) (.eff 14 [9] (.eff 4 [9] (.pure 5 (.eff 12 [9] (.eff 16 [] (.eff 17 [] .nil)))))))) (.eff 14 [9] (.eff 3 [9] (.eff 4 [9] (.pure 5 (.eff 12 [9] (.eff 16 [] (.eff 17 [] .nil)))))))))))))))))))) (by kernel_rfl) ?_
          refine wpP_pure rfl rfl rfl (fun _ => x_move) ?_
          refine wpP_pure rfl rfl rfl (fun _ => x_move) ?_
          refine wpP_pure rfl rfl rfl (fun _ => x_move) ?_
          refine wpP_pure rfl rfl rfl (fun _ => x_move) ?_
          refine wpP_pure rfl rfl rfl (fun _ => (x_nil rfl)) ?_
          refine wpP_pure rfl rfl rfl (fun _ => (x_fieldAddr Tryz.underlying128 rfl I23 rfl rfl)) ?_
          refine wpP_rdAt 32 rfl rfl rfl Tryz.underlying23 rfl I23 rfl (h8.atP hk) (hpk) rfl ?_
          refine wpP_pure rfl rfl rfl (fun _ => x_move) ?_
          refine wpP_pure rfl rfl rfl (fun _ => x_move) ?_
          refine wpP_pure rfl rfl rfl (fun _ => x_move) ?_
          have hplt : ∀ x ∈ blkOf (.slice p8 512 c8), x < w8.heap.size := ho8.sl.lt
          have k27 := hc27.1
          have k8 := hc8.1
          have hPob : ∀ {w' : World}, Chg (blkOf (.slice p8 512 c8)) w8 w' → At w' R.pb 37 (encL (deriveL k tPage 0)) := fun hc => (h8.chg hc (fun x hx hh => by have := hlt2 x hx; have := hi8' x hh; omega)).atP hk
          have hplain : ∀ {w' : World}, Chg (blkOf (.slice p8 512 c8)) w8 w' → Sl w' (.slice p3 482 c3) (plainL l) := fun hc => ho7'.sl.mod hc (fun x hx hh => by have := ho7.sl.lt x hx; have := hi8' x hh; omega)
          have hcum : Chg (blkOf (.slice p8 512 c8)) w8 { w8 with drawn := w8.drawn + 1 } := Chg.heap rfl
          have hop := ho8.mod0 (drw w8)
          have hb8l : (be 8 P.gen.toNat).length = 8 := be_length _ _
          refine wpP_alt ?_ ?_
          · skip
            refine wpP_call rfl rfl rfl C64 (Put_ok (.slice none 0 0) [] P.gen 8 _ (Own.nil _) (by decide) (by decide)) ?_
            rintro v60 wq3 ⟨ho60, hc3, hi60⟩
            have hc3 : Chg [] _ wq3 := hc3
            have hi60 : In v60 [] _ := hi60
            have hi60' : ∀ x ∈ blkOf v60, w8.heap.size ≤ x := fun x hx => Nat.le_trans hcum.1 (hi60.ge x hx)
            rw [List.nil_append] at ho60
            have hcum := hcum.tr0 hc3
            have hop := hop.mod0 hc3
            refine ⟨⟨hPob hcum, trivial⟩, ?_⟩
            refine wpP_alt ?_ ?_
            · skip
              refine wpP_exv rfl rfl rfl (x_copyO Tryz.underlying41 I5 rfl hop ho60.sl.src (by decide) rfl rfl) ?_
              rintro wq4 ⟨ho4, hc4q, hs4⟩
              have hmin8 : min (be 8 P.gen.toNat).length (List.replicate 512 (0 : UInt8)).length = 8 := by rw [hb8l, List.length_replicate]; rfl
              rw [hmin8, List.take_of_length_le (by omega), spl0, hb8l, List.drop_replicate] at ho4
              have hop := ho4
              have hr512 : (be 8 P.gen.toNat ++ List.replicate (512 - 8) (0 : UInt8)).length = 512 := by rw [List.length_append, hb8l, List.length_replicate]
              have hc4 := hc4q
              have hcum := hcum.tr hc4
              have ho60 := ho60.mod hc4 (fun x hx hh => by have := hi60' x hx; have := hplt x hh; omega)
              refine ⟨⟨hPob hcum, trivial⟩, ?_⟩
              refine wpP_ex rfl rfl rfl (x_fromS 8 Tryz.underlying41 I5 rfl hop rfl rfl (congrArg (fun n : Nat => (n : Int)) hmin8) (by rw [hr512]; decide)) ?_
              rintro v62 hsub62
              refine wpP_alt ?_ ?_
              · skip
                refine wpP_call rfl rfl rfl C66 (NonceOf_ok i P.gen _) ?_
                rintro _ wq12 ⟨rfl, hc12⟩
                have hc12 : Chg [] _ wq12 := hc12
                have hcum := hcum.tr0 hc12
                have hop := hop.mod0 hc12
                have ho60 := ho60.mod0 hc12
                refine ⟨⟨hPob hcum, trivial⟩, ?_⟩
                refine wpP_exw rfl rfl rfl (x_bsS [.int .u8 112, .int .u8 97, .int .u8 103, .int .u8 101] tPage Tryz.underlying41 I5 rfl rfl rfl rfl rfl rfl (by decide) (by decide)) ?_
                rintro _ wq13 ⟨⟨b70, o70, c70, rfl⟩, ho70, hc13, hi70x⟩
                have hi70 : ∀ x ∈ blkOf (.slice (some ⟨b70, o70, none⟩) 4 c70), w8.heap.size ≤ x := fun x hx => Nat.le_trans hcum.1 (hi70x.ge x hx)
                have hs70 := ho70.sl
                have hcum := hcum.tr0 hc13
                have hop := hop.mod0 hc13
                have hne60 := fun x (hx : x ∈ blkOf v60) (hh : x ∈ blkOf (.slice (some ⟨b70, o70, none⟩) 4 c70)) => Nat.not_lt.2 (hi70x.ge x hh) (ho60.sl.lt x hx)
                have ho60 := ho60.mod0 hc13
                refine ⟨⟨hPob hcum, trivial⟩, ?_⟩
                refine wpP_exv rfl rfl rfl (x_convB Tryz.underlying41 Tryz.underlying5 rfl hs70) ?_
                rintro wq14 ⟨hs71, hc14q, hs14⟩
                have hc14 : Chg (blkOf (.slice (some ⟨b70, o70, none⟩) 4 c70)) _ wq14 := hc14q
                have hcum := hcum.trans hc14 (fun _ h _ => h) (fun x hx hlt => by have := hi70 x hx; omega)
                have hop := hop.mod hc14 (fun x hx hh => by have := hi70 x hh; have := hplt x hx; omega)
                have hs70 := hs71
                have ho60 := ho60.mod hc14 (fun x hx hh => hne60 x hx hh)
                refine ⟨⟨hPob hcum, trivial⟩, ?_⟩
                refine wpP_call rfl rfl rfl C65 (Seal_ok (deriveL k tPage 0) (nonceL i.toNat P.gen.toNat) (.slice (some ⟨b70, o70, none⟩) 4 c70) (.slice p3 482 c3) tPage (plainL l) _ hpk hnl hs70 (hplain hcum) (by decide) (by omega)) ?_
                rintro v73 wq16 ⟨ho73, hc16, hi73⟩
                refine ⟨trivial, ?_⟩
                have hc16 : Chg [] _ wq16 := hc16
                have hcum := hcum.tr0 hc16
                have hop := hop.mod0 hc16
                refine wpP_exv rfl rfl rfl (x_copySub Tryz.underlying41 I5 rfl hop hsub62 (by rw [hr512]; decide) ho73.sl.src rfl rfl) ?_
                rintro wq17 ⟨ho17, hc17, hs17⟩
                refine ⟨trivial, ?_⟩
                refine wpP_nil (thenE_norm ?_)
                have hm17 : min (sealL (deriveL k tPage 0) (nonceL i.toNat P.gen.toNat) tPage (plainL l)).length ((be 8 P.gen.toNat ++ List.replicate (512 - 8) (0 : UInt8)).length - 8) = 498 := by rw [hsl, hr512]; rfl
                rw [hm17, List.take_of_length_le (by omega), page_spl _ _ hsl] at ho17
                exact ⟨rfl, ho17, hcum.tr hc17⟩
              · skip
                refine wpP_exw rfl rfl rfl (x_bsS [.int .u8 112, .int .u8 97, .int .u8 103, .int .u8 101] tPage Tryz.underlying41 I5 rfl rfl rfl rfl rfl rfl (by decide) (by decide)) ?_
                rintro _ wq13 ⟨⟨b70, o70, c70, rfl⟩, ho70, hc13, hi70x⟩
                have hi70 : ∀ x ∈ blkOf (.slice (some ⟨b70, o70, none⟩) 4 c70), w8.heap.size ≤ x := fun x hx => Nat.le_trans hcum.1 (hi70x.ge x hx)
                have hs70 := ho70.sl
                have hcum := hcum.tr0 hc13
                have hop := hop.mod0 hc13
                have hne60 := fun x (hx : x ∈ blkOf v60) (hh : x ∈ blkOf (.slice (some ⟨b70, o70, none⟩) 4 c70)) => Nat.not_lt.2 (hi70x.ge x hh) (ho60.sl.lt x hx)
                have ho60 := ho60.mod0 hc13
                refine ⟨⟨hPob hcum, trivial⟩, ?_⟩
                refine wpP_alt ?_ ?_
                · skip
                  refine wpP_call rfl rfl rfl C66 (NonceOf_ok i P.gen _) ?_
                  rintro _ wq12 ⟨rfl, hc12⟩
                  have hc12 : Chg [] _ wq12 := hc12
                  have hcum := hcum.tr0 hc12
                  have hop := hop.mod0 hc12
                  have ho60 := ho60.mod0 hc12
                  have hs70 := hs70.mod0 hc12
                  refine ⟨⟨hPob hcum, trivial⟩, ?_⟩
                  refine wpP_exv rfl rfl rfl (x_convB Tryz.underlying41 Tryz.underlying5 rfl hs70) ?_
                  rintro wq14 ⟨hs71, hc14q, hs14⟩
                  have hc14 : Chg (blkOf (.slice (some ⟨b70, o70, none⟩) 4 c70)) _ wq14 := hc14q
                  have hcum := hcum.trans hc14 (fun _ h _ => h) (fun x hx hlt => by have := hi70 x hx; omega)
                  have hop := hop.mod hc14 (fun x hx hh => by have := hi70 x hh; have := hplt x hx; omega)
                  have hs70 := hs71
                  have ho60 := ho60.mod hc14 (fun x hx hh => hne60 x hx hh)
                  refine ⟨⟨hPob hcum, trivial⟩, ?_⟩
                  refine wpP_call rfl rfl rfl C65 (Seal_ok (deriveL k tPage 0) (nonceL i.toNat P.gen.toNat) (.slice (some ⟨b70, o70, none⟩) 4 c70) (.slice p3 482 c3) tPage (plainL l) _ hpk hnl hs70 (hplain hcum) (by decide) (by omega)) ?_
                  rintro v73 wq16 ⟨ho73, hc16, hi73⟩
                  refine ⟨trivial, ?_⟩
                  have hc16 : Chg [] _ wq16 := hc16
                  have hcum := hcum.tr0 hc16
                  have hop := hop.mod0 hc16
                  refine wpP_exv rfl rfl rfl (x_copySub Tryz.underlying41 I5 rfl hop hsub62 (by rw [hr512]; decide) ho73.sl.src rfl rfl) ?_
                  rintro wq17 ⟨ho17, hc17, hs17⟩
                  refine ⟨trivial, ?_⟩
                  refine wpP_nil (thenE_norm ?_)
                  have hm17 : min (sealL (deriveL k tPage 0) (nonceL i.toNat P.gen.toNat) tPage (plainL l)).length ((be 8 P.gen.toNat ++ List.replicate (512 - 8) (0 : UInt8)).length - 8) = 498 := by rw [hsl, hr512]; rfl
                  rw [hm17, List.take_of_length_le (by omega), page_spl _ _ hsl] at ho17
                  exact ⟨rfl, ho17, hcum.tr hc17⟩
                · skip
                  refine wpP_exv rfl rfl rfl (x_convB Tryz.underlying41 Tryz.underlying5 rfl hs70) ?_
                  rintro wq14 ⟨hs71, hc14q, hs14⟩
                  have hc14 : Chg (blkOf (.slice (some ⟨b70, o70, none⟩) 4 c70)) _ wq14 := hc14q
                  have hcum := hcum.trans hc14 (fun _ h _ => h) (fun x hx hlt => by have := hi70 x hx; omega)
                  have hop := hop.mod hc14 (fun x hx hh => by have := hi70 x hh; have := hplt x hx; omega)
                  have hs70 := hs71
                  have ho60 := ho60.mod hc14 (fun x hx hh => hne60 x hx hh)
                  refine ⟨⟨hPob hcum, trivial⟩, ?_⟩
                  refine wpP_call rfl rfl rfl C66 (NonceOf_ok i P.gen _) ?_
                  rintro _ wq12 ⟨rfl, hc12⟩
                  have hc12 : Chg [] _ wq12 := hc12
                  have hcum := hcum.tr0 hc12
                  have hop := hop.mod0 hc12
                  have ho60 := ho60.mod0 hc12
                  have hs70 := hs70.mod0 hc12
                  refine ⟨⟨hPob hcum, trivial⟩, ?_⟩
                  refine wpP_call rfl rfl rfl C65 (Seal_ok (deriveL k tPage 0) (nonceL i.toNat P.gen.toNat) (.slice (some ⟨b70, o70, none⟩) 4 c70) (.slice p3 482 c3) tPage (plainL l) _ hpk hnl hs70 (hplain hcum) (by decide) (by omega)) ?_
                  rintro v73 wq16 ⟨ho73, hc16, hi73⟩
                  refine ⟨trivial, ?_⟩
                  have hc16 : Chg [] _ wq16 := hc16
                  have hcum := hcum.tr0 hc16
                  have hop := hop.mod0 hc16
                  refine wpP_exv rfl rfl rfl (x_copySub Tryz.underlying41 I5 rfl hop hsub62 (by rw [hr512]; decide) ho73.sl.src rfl rfl) ?_
                  rintro wq17 ⟨ho17, hc17, hs17⟩
                  refine ⟨trivial, ?_⟩
                  refine wpP_nil (thenE_norm ?_)
                  have hm17 : min (sealL (deriveL k tPage 0) (nonceL i.toNat P.gen.toNat) tPage (plainL l)).length ((be 8 P.gen.toNat ++ List.replicate (512 - 8) (0 : UInt8)).length - 8) = 498 := by rw [hsl, hr512]; rfl
                  rw [hm17, List.take_of_length_le (by omega), page_spl _ _ hsl] at ho17
                  exact ⟨rfl, ho17, hcum.tr hc17⟩
            · skip
              refine wpP_exw rfl rfl rfl (x_bsS [.int .u8 112, .int .u8 97, .int .u8 103, .int .u8 101] tPage Tryz.underlying41 I5 rfl rfl rfl rfl rfl rfl (by decide) (by decide)) ?_
              rintro _ wq13 ⟨⟨b70, o70, c70, rfl⟩, ho70, hc13, hi70x⟩
              have hi70 : ∀ x ∈ blkOf (.slice (some ⟨b70, o70, none⟩) 4 c70), w8.heap.size ≤ x := fun x hx => Nat.le_trans hcum.1 (hi70x.ge x hx)
              have hs70 := ho70.sl
              have hcum := hcum.tr0 hc13
              have hop := hop.mod0 hc13
              have hne60 := fun x (hx : x ∈ blkOf v60) (hh : x ∈ blkOf (.slice (some ⟨b70, o70, none⟩) 4 c70)) => Nat.not_lt.2 (hi70x.ge x hh) (ho60.sl.lt x hx)
              have ho60 := ho60.mod0 hc13
              refine ⟨⟨hPob hcum, trivial⟩, ?_⟩
              refine wpP_alt ?_ ?_
              · skip
                refine wpP_exv rfl rfl rfl (x_copyO Tryz.underlying41 I5 rfl hop ho60.sl.src (by decide) rfl rfl) ?_
                rintro wq4 ⟨ho4, hc4q, hs4⟩
                have hmin8 : min (be 8 P.gen.toNat).length (List.replicate 512 (0 : UInt8)).length = 8 := by rw [hb8l, List.length_replicate]; rfl
                rw [hmin8, List.take_of_length_le (by omega), spl0, hb8l, List.drop_replicate] at ho4
                have hop := ho4
                have hr512 : (be 8 P.gen.toNat ++ List.replicate (512 - 8) (0 : UInt8)).length = 512 := by rw [List.length_append, hb8l, List.length_replicate]
                have hc4 := hc4q
                have hcum := hcum.tr hc4
                have ho60 := ho60.mod hc4 (fun x hx hh => by have := hi60' x hx; have := hplt x hh; omega)
                have hs70 := hs70.mod hc4 (fun x hx hh => by have := hi70 x hx; have := hplt x hh; omega)
                refine ⟨⟨hPob hcum, trivial⟩, ?_⟩
                refine wpP_ex rfl rfl rfl (x_fromS 8 Tryz.underlying41 I5 rfl hop rfl rfl (congrArg (fun n : Nat => (n : Int)) hmin8) (by rw [hr512]; decide)) ?_
                rintro v62 hsub62
                refine wpP_alt ?_ ?_
                · skip
                  refine wpP_call rfl rfl rfl C66 (NonceOf_ok i P.gen _) ?_
                  rintro _ wq12 ⟨rfl, hc12⟩
                  have hc12 : Chg [] _ wq12 := hc12
                  have hcum := hcum.tr0 hc12
                  have hop := hop.mod0 hc12
                  have ho60 := ho60.mod0 hc12
                  have hs70 := hs70.mod0 hc12
                  refine ⟨⟨hPob hcum, trivial⟩, ?_⟩
                  refine wpP_exv rfl rfl rfl (x_convB Tryz.underlying41 Tryz.underlying5 rfl hs70) ?_
                  rintro wq14 ⟨hs71, hc14q, hs14⟩
                  have hc14 : Chg (blkOf (.slice (some ⟨b70, o70, none⟩) 4 c70)) _ wq14 := hc14q
                  have hcum := hcum.trans hc14 (fun _ h _ => h) (fun x hx hlt => by have := hi70 x hx; omega)
                  have hop := hop.mod hc14 (fun x hx hh => by have := hi70 x hh; have := hplt x hx; omega)
                  have hs70 := hs71
                  have ho60 := ho60.mod hc14 (fun x hx hh => hne60 x hx hh)
                  refine ⟨⟨hPob hcum, trivial⟩, ?_⟩
                  refine wpP_call rfl rfl rfl C65 (Seal_ok (deriveL k tPage 0) (nonceL i.toNat P.gen.toNat) (.slice (some ⟨b70, o70, none⟩) 4 c70) (.slice p3 482 c3) tPage (plainL l) _ hpk hnl hs70 (hplain hcum) (by decide) (by omega)) ?_
                  rintro v73 wq16 ⟨ho73, hc16, hi73⟩
                  refine ⟨trivial, ?_⟩
                  have hc16 : Chg [] _ wq16 := hc16
                  have hcum := hcum.tr0 hc16
                  have hop := hop.mod0 hc16
                  refine wpP_exv rfl rfl rfl (x_copySub Tryz.underlying41 I5 rfl hop hsub62 (by rw [hr512]; decide) ho73.sl.src rfl rfl) ?_
                  rintro wq17 ⟨ho17, hc17, hs17⟩
                  refine ⟨trivial, ?_⟩
                  refine wpP_nil (thenE_norm ?_)
                  have hm17 : min (sealL (deriveL k tPage 0) (nonceL i.toNat P.gen.toNat) tPage (plainL l)).length ((be 8 P.gen.toNat ++ List.replicate (512 - 8) (0 : UInt8)).length - 8) = 498 := by rw [hsl, hr512]; rfl
                  rw [hm17, List.take_of_length_le (by omega), page_spl _ _ hsl] at ho17
                  exact ⟨rfl, ho17, hcum.tr hc17⟩
                · skip
                  refine wpP_exv rfl rfl rfl (x_convB Tryz.underlying41 Tryz.underlying5 rfl hs70) ?_
                  rintro wq14 ⟨hs71, hc14q, hs14⟩
                  have hc14 : Chg (blkOf (.slice (some ⟨b70, o70, none⟩) 4 c70)) _ wq14 := hc14q
                  have hcum := hcum.trans hc14 (fun _ h _ => h) (fun x hx hlt => by have := hi70 x hx; omega)
                  have hop := hop.mod hc14 (fun x hx hh => by have := hi70 x hh; have := hplt x hx; omega)
                  have hs70 := hs71
                  have ho60 := ho60.mod hc14 (fun x hx hh => hne60 x hx hh)
                  refine ⟨⟨hPob hcum, trivial⟩, ?_⟩
                  refine wpP_call rfl rfl rfl C66 (NonceOf_ok i P.gen _) ?_
                  rintro _ wq12 ⟨rfl, hc12⟩
                  have hc12 : Chg [] _ wq12 := hc12
                  have hcum := hcum.tr0 hc12
                  have hop := hop.mod0 hc12
                  have ho60 := ho60.mod0 hc12
                  have hs70 := hs70.mod0 hc12
                  refine ⟨⟨hPob hcum, trivial⟩, ?_⟩
                  refine wpP_call rfl rfl rfl C65 (Seal_ok (deriveL k tPage 0) (nonceL i.toNat P.gen.toNat) (.slice (some ⟨b70, o70, none⟩) 4 c70) (.slice p3 482 c3) tPage (plainL l) _ hpk hnl hs70 (hplain hcum) (by decide) (by omega)) ?_
                  rintro v73 wq16 ⟨ho73, hc16, hi73⟩
                  refine ⟨trivial, ?_⟩
                  have hc16 : Chg [] _ wq16 := hc16
                  have hcum := hcum.tr0 hc16
                  have hop := hop.mod0 hc16
                  refine wpP_exv rfl rfl rfl (x_copySub Tryz.underlying41 I5 rfl hop hsub62 (by rw [hr512]; decide) ho73.sl.src rfl rfl) ?_
                  rintro wq17 ⟨ho17, hc17, hs17⟩
                  refine ⟨trivial, ?_⟩
                  refine wpP_nil (thenE_norm ?_)
                  have hm17 : min (sealL (deriveL k tPage 0) (nonceL i.toNat P.gen.toNat) tPage (plainL l)).length ((be 8 P.gen.toNat ++ List.replicate (512 - 8) (0 : UInt8)).length - 8) = 498 := by rw [hsl, hr512]; rfl
                  rw [hm17, List.take_of_length_le (by omega), page_spl _ _ hsl] at ho17
                  exact ⟨rfl, ho17, hcum.tr hc17⟩
              · skip
                refine wpP_exv rfl rfl rfl (x_convB Tryz.underlying41 Tryz.underlying5 rfl hs70) ?_
                rintro wq14 ⟨hs71, hc14q, hs14⟩
                have hc14 : Chg (blkOf (.slice (some ⟨b70, o70, none⟩) 4 c70)) _ wq14 := hc14q
                have hcum := hcum.trans hc14 (fun _ h _ => h) (fun x hx hlt => by have := hi70 x hx; omega)
                have hop := hop.mod hc14 (fun x hx hh => by have := hi70 x hh; have := hplt x hx; omega)
                have hs70 := hs71
                have ho60 := ho60.mod hc14 (fun x hx hh => hne60 x hx hh)
                refine ⟨⟨hPob hcum, trivial⟩, ?_⟩
                refine wpP_exv rfl rfl rfl (x_copyO Tryz.underlying41 I5 rfl hop ho60.sl.src (by decide) rfl rfl) ?_
                rintro wq4 ⟨ho4, hc4q, hs4⟩
                have hmin8 : min (be 8 P.gen.toNat).length (List.replicate 512 (0 : UInt8)).length = 8 := by rw [hb8l, List.length_replicate]; rfl
                rw [hmin8, List.take_of_length_le (by omega), spl0, hb8l, List.drop_replicate] at ho4
                have hop := ho4
                have hr512 : (be 8 P.gen.toNat ++ List.replicate (512 - 8) (0 : UInt8)).length = 512 := by rw [List.length_append, hb8l, List.length_replicate]
                have hc4 := hc4q
                have hcum := hcum.tr hc4
                have ho60 := ho60.mod hc4 (fun x hx hh => by have := hi60' x hx; have := hplt x hh; omega)
                have hs70 := hs70.mod hc4 (fun x hx hh => by have := hi70 x hx; have := hplt x hh; omega)
                refine ⟨⟨hPob hcum, trivial⟩, ?_⟩
                refine wpP_ex rfl rfl rfl (x_fromS 8 Tryz.underlying41 I5 rfl hop rfl rfl (congrArg (fun n : Nat => (n : Int)) hmin8) (by rw [hr512]; decide)) ?_
                rintro v62 hsub62
                refine wpP_call rfl rfl rfl C66 (NonceOf_ok i P.gen _) ?_
                rintro _ wq12 ⟨rfl, hc12⟩
                have hc12 : Chg [] _ wq12 := hc12
                have hcum := hcum.tr0 hc12
                have hop := hop.mod0 hc12
                have ho60 := ho60.mod0 hc12
                have hs70 := hs70.mod0 hc12
                refine ⟨⟨hPob hcum, trivial⟩, ?_⟩
                refine wpP_call rfl rfl rfl C65 (Seal_ok (deriveL k tPage 0) (nonceL i.toNat P.gen.toNat) (.slice (some ⟨b70, o70, none⟩) 4 c70) (.slice p3 482 c3) tPage (plainL l) _ hpk hnl hs70 (hplain hcum) (by decide) (by omega)) ?_
                rintro v73 wq16 ⟨ho73, hc16, hi73⟩
                refine ⟨trivial, ?_⟩
                have hc16 : Chg [] _ wq16 := hc16
                have hcum := hcum.tr0 hc16
                have hop := hop.mod0 hc16
                refine wpP_exv rfl rfl rfl (x_copySub Tryz.underlying41 I5 rfl hop hsub62 (by rw [hr512]; decide) ho73.sl.src rfl rfl) ?_
                rintro wq17 ⟨ho17, hc17, hs17⟩
                refine ⟨trivial, ?_⟩
                refine wpP_nil (thenE_norm ?_)
                have hm17 : min (sealL (deriveL k tPage 0) (nonceL i.toNat P.gen.toNat) tPage (plainL l)).length ((be 8 P.gen.toNat ++ List.replicate (512 - 8) (0 : UInt8)).length - 8) = 498 := by rw [hsl, hr512]; rfl
                rw [hm17, List.take_of_length_le (by omega), page_spl _ _ hsl] at ho17
                exact ⟨rfl, ho17, hcum.tr hc17⟩
          · skip
            refine wpP_exw rfl rfl rfl (x_bsS [.int .u8 112, .int .u8 97, .int .u8 103, .int .u8 101] tPage Tryz.underlying41 I5 rfl rfl rfl rfl rfl rfl (by decide) (by decide)) ?_
            rintro _ wq13 ⟨⟨b70, o70, c70, rfl⟩, ho70, hc13, hi70x⟩
            have hi70 : ∀ x ∈ blkOf (.slice (some ⟨b70, o70, none⟩) 4 c70), w8.heap.size ≤ x := fun x hx => Nat.le_trans hcum.1 (hi70x.ge x hx)
            have hs70 := ho70.sl
            have hcum := hcum.tr0 hc13
            have hop := hop.mod0 hc13
            refine ⟨⟨hPob hcum, trivial⟩, ?_⟩
            refine wpP_alt ?_ ?_
            · skip
              refine wpP_call rfl rfl rfl C64 (Put_ok (.slice none 0 0) [] P.gen 8 _ (Own.nil _) (by decide) (by decide)) ?_
              rintro v60 wq3 ⟨ho60, hc3, hi60⟩
              have hc3 : Chg [] _ wq3 := hc3
              have hi60 : In v60 [] _ := hi60
              have hi60' : ∀ x ∈ blkOf v60, w8.heap.size ≤ x := fun x hx => Nat.le_trans hcum.1 (hi60.ge x hx)
              rw [List.nil_append] at ho60
              have hcum := hcum.tr0 hc3
              have hop := hop.mod0 hc3
              have hne60 := fun x (hx : x ∈ blkOf v60) (hh : x ∈ blkOf (.slice (some ⟨b70, o70, none⟩) 4 c70)) => Nat.not_lt.2 (hi60.ge x hx) (hs70.lt x hh)
              have hs70 := hs70.mod0 hc3
              refine ⟨⟨hPob hcum, trivial⟩, ?_⟩
              refine wpP_alt ?_ ?_
              · skip
                refine wpP_exv rfl rfl rfl (x_copyO Tryz.underlying41 I5 rfl hop ho60.sl.src (by decide) rfl rfl) ?_
                rintro wq4 ⟨ho4, hc4q, hs4⟩
                have hmin8 : min (be 8 P.gen.toNat).length (List.replicate 512 (0 : UInt8)).length = 8 := by rw [hb8l, List.length_replicate]; rfl
                rw [hmin8, List.take_of_length_le (by omega), spl0, hb8l, List.drop_replicate] at ho4
                have hop := ho4
                have hr512 : (be 8 P.gen.toNat ++ List.replicate (512 - 8) (0 : UInt8)).length = 512 := by rw [List.length_append, hb8l, List.length_replicate]
                have hc4 := hc4q
                have hcum := hcum.tr hc4
                have hs70 := hs70.mod hc4 (fun x hx hh => by have := hi70 x hx; have := hplt x hh; omega)
                have ho60 := ho60.mod hc4 (fun x hx hh => by have := hi60' x hx; have := hplt x hh; omega)
                refine ⟨⟨hPob hcum, trivial⟩, ?_⟩
                refine wpP_ex rfl rfl rfl (x_fromS 8 Tryz.underlying41 I5 rfl hop rfl rfl (congrArg (fun n : Nat => (n : Int)) hmin8) (by rw [hr512]; decide)) ?_
                rintro v62 hsub62
                refine wpP_alt ?_ ?_
                · skip
                  refine wpP_call rfl rfl rfl C66 (NonceOf_ok i P.gen _) ?_
                  rintro _ wq12 ⟨rfl, hc12⟩
                  have hc12 : Chg [] _ wq12 := hc12
                  have hcum := hcum.tr0 hc12
                  have hop := hop.mod0 hc12
                  have hs70 := hs70.mod0 hc12
                  have ho60 := ho60.mod0 hc12
                  refine ⟨⟨hPob hcum, trivial⟩, ?_⟩
                  refine wpP_exv rfl rfl rfl (x_convB Tryz.underlying41 Tryz.underlying5 rfl hs70) ?_
                  rintro wq14 ⟨hs71, hc14q, hs14⟩
                  have hc14 : Chg (blkOf (.slice (some ⟨b70, o70, none⟩) 4 c70)) _ wq14 := hc14q
                  have hcum := hcum.trans hc14 (fun _ h _ => h) (fun x hx hlt => by have := hi70 x hx; omega)
                  have hop := hop.mod hc14 (fun x hx hh => by have := hi70 x hh; have := hplt x hx; omega)
                  have hs70 := hs71
                  have ho60 := ho60.mod hc14 (fun x hx hh => hne60 x hx hh)
                  refine ⟨⟨hPob hcum, trivial⟩, ?_⟩
                  refine wpP_call rfl rfl rfl C65 (Seal_ok (deriveL k tPage 0) (nonceL i.toNat P.gen.toNat) (.slice (some ⟨b70, o70, none⟩) 4 c70) (.slice p3 482 c3) tPage (plainL l) _ hpk hnl hs70 (hplain hcum) (by decide) (by omega)) ?_
                  rintro v73 wq16 ⟨ho73, hc16, hi73⟩
                  refine ⟨trivial, ?_⟩
                  have hc16 : Chg [] _ wq16 := hc16
                  have hcum := hcum.tr0 hc16
                  have hop := hop.mod0 hc16
                  refine wpP_exv rfl rfl rfl (x_copySub Tryz.underlying41 I5 rfl hop hsub62 (by rw [hr512]; decide) ho73.sl.src rfl rfl) ?_
                  rintro wq17 ⟨ho17, hc17, hs17⟩
                  refine ⟨trivial, ?_⟩
                  refine wpP_nil (thenE_norm ?_)
                  have hm17 : min (sealL (deriveL k tPage 0) (nonceL i.toNat P.gen.toNat) tPage (plainL l)).length ((be 8 P.gen.toNat ++ List.replicate (512 - 8) (0 : UInt8)).length - 8) = 498 := by rw [hsl, hr512]; rfl
                  rw [hm17, List.take_of_length_le (by omega), page_spl _ _ hsl] at ho17
                  exact ⟨rfl, ho17, hcum.tr hc17⟩
                · skip
                  refine wpP_exv rfl rfl rfl (x_convB Tryz.underlying41 Tryz.underlying5 rfl hs70) ?_
                  rintro wq14 ⟨hs71, hc14q, hs14⟩
                  have hc14 : Chg (blkOf (.slice (some ⟨b70, o70, none⟩) 4 c70)) _ wq14 := hc14q
                  have hcum := hcum.trans hc14 (fun _ h _ => h) (fun x hx hlt => by have := hi70 x hx; omega)
                  have hop := hop.mod hc14 (fun x hx hh => by have := hi70 x hh; have := hplt x hx; omega)
                  have hs70 := hs71
                  have ho60 := ho60.mod hc14 (fun x hx hh => hne60 x hx hh)
                  refine ⟨⟨hPob hcum, trivial⟩, ?_⟩
                  refine wpP_call rfl rfl rfl C66 (NonceOf_ok i P.gen _) ?_
                  rintro _ wq12 ⟨rfl, hc12⟩
                  have hc12 : Chg [] _ wq12 := hc12
                  have hcum := hcum.tr0 hc12
                  have hop := hop.mod0 hc12
                  have hs70 := hs70.mod0 hc12
                  have ho60 := ho60.mod0 hc12
                  refine ⟨⟨hPob hcum, trivial⟩, ?_⟩
                  refine wpP_call rfl rfl rfl C65 (Seal_ok (deriveL k tPage 0) (nonceL i.toNat P.gen.toNat) (.slice (some ⟨b70, o70, none⟩) 4 c70) (.slice p3 482 c3) tPage (plainL l) _ hpk hnl hs70 (hplain hcum) (by decide) (by omega)) ?_
                  rintro v73 wq16 ⟨ho73, hc16, hi73⟩
                  refine ⟨trivial, ?_⟩
                  have hc16 : Chg [] _ wq16 := hc16
                  have hcum := hcum.tr0 hc16
                  have hop := hop.mod0 hc16
                  refine wpP_exv rfl rfl rfl (x_copySub Tryz.underlying41 I5 rfl hop hsub62 (by rw [hr512]; decide) ho73.sl.src rfl rfl) ?_
                  rintro wq17 ⟨ho17, hc17, hs17⟩
                  refine ⟨trivial, ?_⟩
                  refine wpP_nil (thenE_norm ?_)
                  have hm17 : min (sealL (deriveL k tPage 0) (nonceL i.toNat P.gen.toNat) tPage (plainL l)).length ((be 8 P.gen.toNat ++ List.replicate (512 - 8) (0 : UInt8)).length - 8) = 498 := by rw [hsl, hr512]; rfl
                  rw [hm17, List.take_of_length_le (by omega), page_spl _ _ hsl] at ho17
                  exact ⟨rfl, ho17, hcum.tr hc17⟩
              · skip
                refine wpP_exv rfl rfl rfl (x_convB Tryz.underlying41 Tryz.underlying5 rfl hs70) ?_
                rintro wq14 ⟨hs71, hc14q, hs14⟩
                have hc14 : Chg (blkOf (.slice (some ⟨b70, o70, none⟩) 4 c70)) _ wq14 := hc14q
                have hcum := hcum.trans hc14 (fun _ h _ => h) (fun x hx hlt => by have := hi70 x hx; omega)
                have hop := hop.mod hc14 (fun x hx hh => by have := hi70 x hh; have := hplt x hx; omega)
                have hs70 := hs71
                have ho60 := ho60.mod hc14 (fun x hx hh => hne60 x hx hh)
                refine ⟨⟨hPob hcum, trivial⟩, ?_⟩
                refine wpP_exv rfl rfl rfl (x_copyO Tryz.underlying41 I5 rfl hop ho60.sl.src (by decide) rfl rfl) ?_
                rintro wq4 ⟨ho4, hc4q, hs4⟩
                have hmin8 : min (be 8 P.gen.toNat).length (List.replicate 512 (0 : UInt8)).length = 8 := by rw [hb8l, List.length_replicate]; rfl
                rw [hmin8, List.take_of_length_le (by omega), spl0, hb8l, List.drop_replicate] at ho4
                have hop := ho4
                have hr512 : (be 8 P.gen.toNat ++ List.replicate (512 - 8) (0 : UInt8)).length = 512 := by rw [List.length_append, hb8l, List.length_replicate]
                have hc4 := hc4q
                have hcum := hcum.tr hc4
                have hs70 := hs70.mod hc4 (fun x hx hh => by have := hi70 x hx; have := hplt x hh; omega)
                have ho60 := ho60.mod hc4 (fun x hx hh => by have := hi60' x hx; have := hplt x hh; omega)
                refine ⟨⟨hPob hcum, trivial⟩, ?_⟩
                refine wpP_ex rfl rfl rfl (x_fromS 8 Tryz.underlying41 I5 rfl hop rfl rfl (congrArg (fun n : Nat => (n : Int)) hmin8) (by rw [hr512]; decide)) ?_
                rintro v62 hsub62
                refine wpP_call rfl rfl rfl C66 (NonceOf_ok i P.gen _) ?_
                rintro _ wq12 ⟨rfl, hc12⟩
                have hc12 : Chg [] _ wq12 := hc12
                have hcum := hcum.tr0 hc12
                have hop := hop.mod0 hc12
                have hs70 := hs70.mod0 hc12
                have ho60 := ho60.mod0 hc12
                refine ⟨⟨hPob hcum, trivial⟩, ?_⟩
                refine wpP_call rfl rfl rfl C65 (Seal_ok (deriveL k tPage 0) (nonceL i.toNat P.gen.toNat) (.slice (some ⟨b70, o70, none⟩) 4 c70) (.slice p3 482 c3) tPage (plainL l) _ hpk hnl hs70 (hplain hcum) (by decide) (by omega)) ?_
                rintro v73 wq16 ⟨ho73, hc16, hi73⟩
                refine ⟨trivial, ?_⟩
                have hc16 : Chg [] _ wq16 := hc16
                have hcum := hcum.tr0 hc16
                have hop := hop.mod0 hc16
                refine wpP_exv rfl rfl rfl (x_copySub Tryz.underlying41 I5 rfl hop hsub62 (by rw [hr512]; decide) ho73.sl.src rfl rfl) ?_
                rintro wq17 ⟨ho17, hc17, hs17⟩
                refine ⟨trivial, ?_⟩
                refine wpP_nil (thenE_norm ?_)
                have hm17 : min (sealL (deriveL k tPage 0) (nonceL i.toNat P.gen.toNat) tPage (plainL l)).length ((be 8 P.gen.toNat ++ List.replicate (512 - 8) (0 : UInt8)).length - 8) = 498 := by rw [hsl, hr512]; rfl
                rw [hm17, List.take_of_length_le (by omega), page_spl _ _ hsl] at ho17
                exact ⟨rfl, ho17, hcum.tr hc17⟩
            · skip
              refine wpP_exv rfl rfl rfl (x_convB Tryz.underlying41 Tryz.underlying5 rfl hs70) ?_
              rintro wq14 ⟨hs71, hc14q, hs14⟩
              have hc14 : Chg (blkOf (.slice (some ⟨b70, o70, none⟩) 4 c70)) _ wq14 := hc14q
              have hcum := hcum.trans hc14 (fun _ h _ => h) (fun x hx hlt => by have := hi70 x hx; omega)
              have hop := hop.mod hc14 (fun x hx hh => by have := hi70 x hh; have := hplt x hx; omega)
              have hs70 := hs71
              refine ⟨⟨hPob hcum, trivial⟩, ?_⟩
              refine wpP_call rfl rfl rfl C64 (Put_ok (.slice none 0 0) [] P.gen 8 _ (Own.nil _) (by decide) (by decide)) ?_
              rintro v60 wq3 ⟨ho60, hc3, hi60⟩
              have hc3 : Chg [] _ wq3 := hc3
              have hi60 : In v60 [] _ := hi60
              have hi60' : ∀ x ∈ blkOf v60, w8.heap.size ≤ x := fun x hx => Nat.le_trans hcum.1 (hi60.ge x hx)
              rw [List.nil_append] at ho60
              have hcum := hcum.tr0 hc3
              have hop := hop.mod0 hc3
              have hne60 := fun x (hx : x ∈ blkOf v60) (hh : x ∈ blkOf (.slice (some ⟨b70, o70, none⟩) 4 c70)) => Nat.not_lt.2 (hi60.ge x hx) (hs70.lt x hh)
              have hs70 := hs70.mod0 hc3
              refine ⟨⟨hPob hcum, trivial⟩, ?_⟩
              refine wpP_exv rfl rfl rfl (x_copyO Tryz.underlying41 I5 rfl hop ho60.sl.src (by decide) rfl rfl) ?_
              rintro wq4 ⟨ho4, hc4q, hs4⟩
              have hmin8 : min (be 8 P.gen.toNat).length (List.replicate 512 (0 : UInt8)).length = 8 := by rw [hb8l, List.length_replicate]; rfl
              rw [hmin8, List.take_of_length_le (by omega), spl0, hb8l, List.drop_replicate] at ho4
              have hop := ho4
              have hr512 : (be 8 P.gen.toNat ++ List.replicate (512 - 8) (0 : UInt8)).length = 512 := by rw [List.length_append, hb8l, List.length_replicate]
              have hc4 := hc4q
              have hcum := hcum.tr hc4
              have hs70 := hs70.mod hc4 (fun x hx hh => by have := hi70 x hx; have := hplt x hh; omega)
              have ho60 := ho60.mod hc4 (fun x hx hh => by have := hi60' x hx; have := hplt x hh; omega)
              refine ⟨⟨hPob hcum, trivial⟩, ?_⟩
              refine wpP_ex rfl rfl rfl (x_fromS 8 Tryz.underlying41 I5 rfl hop rfl rfl (congrArg (fun n : Nat => (n : Int)) hmin8) (by rw [hr512]; decide)) ?_
              rintro v62 hsub62
              refine wpP_call rfl rfl rfl C66 (NonceOf_ok i P.gen _) ?_
              rintro _ wq12 ⟨rfl, hc12⟩
              have hc12 : Chg [] _ wq12 := hc12
              have hcum := hcum.tr0 hc12
              have hop := hop.mod0 hc12
              have hs70 := hs70.mod0 hc12
              have ho60 := ho60.mod0 hc12
              refine ⟨⟨hPob hcum, trivial⟩, ?_⟩
              refine wpP_call rfl rfl rfl C65 (Seal_ok (deriveL k tPage 0) (nonceL i.toNat P.gen.toNat) (.slice (some ⟨b70, o70, none⟩) 4 c70) (.slice p3 482 c3) tPage (plainL l) _ hpk hnl hs70 (hplain hcum) (by decide) (by omega)) ?_
              rintro v73 wq16 ⟨ho73, hc16, hi73⟩
              refine ⟨trivial, ?_⟩
              have hc16 : Chg [] _ wq16 := hc16
              have hcum := hcum.tr0 hc16
              have hop := hop.mod0 hc16
              refine wpP_exv rfl rfl rfl (x_copySub Tryz.underlying41 I5 rfl hop hsub62 (by rw [hr512]; decide) ho73.sl.src rfl rfl) ?_
              rintro wq17 ⟨ho17, hc17, hs17⟩
              refine ⟨trivial, ?_⟩
              refine wpP_nil (thenE_norm ?_)
              have hm17 : min (sealL (deriveL k tPage 0) (nonceL i.toNat P.gen.toNat) tPage (plainL l)).length ((be 8 P.gen.toNat ++ List.replicate (512 - 8) (0 : UInt8)).length - 8) = 498 := by rw [hsl, hr512]; rfl
              rw [hm17, List.take_of_length_le (by omega), page_spl _ _ hsl] at ho17
              exact ⟨rfl, ho17, hcum.tr hc17⟩
        · rintro vs J w9 ⟨rfl, ho9, hc9⟩
          refine wpE_seq ?_
          refine wpE_seq ?_
          refine wpE_region ?_
          refine wpL_value rfl x_move (wpL_value rfl x_move ?_)
          have k27 := hc27.1
          have k8 := hc8.1
          have hpl := pageB_length (deriveL k tPage 0) i.toNat P.gen.toNat l hl
          have hob2 : ∃ page, page = pageB (deriveL k tPage 0) i.toNat P.gen.toNat l := ⟨_, rfl⟩
          obtain ⟨page, hpage⟩ := hob2
          rw [← hpage] at ho9 hpl
          have h9 : PagerAt w9 R b k P2 := h8.chg hc9 (fun x hx hh => by have := hlt2 x hx; have := hi8' x hh; omega)
          have hd9 : DiskAt w9 b kv r ds := ((hd2.chg0 hc27).chg0 hc8).chg hc9 (fun x hx hh => by have := hdlt x hx; have := hi8' x hh; omega)
          have hc09 : Chg (PF R ++ DF b kv r) w w9 := ((hc02.tr0 hc27).tr0 hc8).trans hc9 (fun _ h _ => h) (fun x hx hlt => by have := hi8' x hx; omega)
          refine wpL_call rfl C67 (region_ok w9 R b k hk P2 h9 i) ?_
          rintro _ w10 ⟨rfl, hc10⟩
          refine wpL_value rfl x_move ?_
          refine wpL_call rfl C68 (RWrite_ok w10 b r kv _ page ds (32 + (i.toNat : Int) * 8) (hd9.chg0 hc10) hf (by omega) (ho9.mod0 hc10).sl (fun x hx hh => by have := hdlt x hh; have := hi8' x hx; omega) (by omega) (by omega)) ?_
          rintro _ w11 ⟨rfl, hd11, hc11⟩
          refine wpL_value rfl x_assign ?_
          refine wpL_nil (thenE_norm ?_)
          refine wpE_seq ?_
          refine wpE_region ?_
          refine wpL_value rfl x_move (wpL_value rfl (x_neq rfl rfl) ?_)
          refine wpL_nil (thenE_norm ?_)
          have h11 : PagerAt w11 R b k P2 := (h9.chg0 hc10).chg hc11 hap
          have hc011 : Chg (PF R ++ DF b kv r) w w11 := (hc09.tr0 hc10).tr (hc11.mono (fun x hx _ => List.mem_append_right _ hx))
          have hWR : ∀ P', P' = (if (ds.writes (32 + (i.toNat : Int) * 8) page).2 = 0 then { P with count := P.count + 1, now := { P.now with written := addPg P.now.written i }, gens := setG P.gens i P.gen } else { P with count := P.count + 1, broken := decide ((ds.writes (32 + (i.toNat : Int) * 8) page).2 = 61) }) → WriteR k P ds i l (.int .i64 (ds.writes (32 + (i.toNat : Int) * 8) page).2) P' (ds.writes (32 + (i.toNat : Int) * 8) page).1 := fun P' hP' => by
            rw [hpage] at hP' ⊢
            exact .inr (.inr (.inr ⟨hbr, hfr, hl, rfl, rfl, hP'⟩))
          refine wpE_cond_d rfl (fun hne => ?_) (fun hne => ?_)
          · skip
            refine wpE_seq ?_
            refine wpE_region ?_
            refine wpL_value rfl x_move (wpL_value rfl x_move ?_)
            refine wpL_call rfl C69 (breaks_ok w11 R b k hk P2 h11 _) ?_
            rintro _ w12 ⟨rfl, h12, hc12⟩
            refine wpL_value rfl x_assign ?_
            refine wpL_nil (thenE_norm ?_)
            refine wpE_ret (thenE_ret (fin_ret ?_))
            have hne : ¬ (ds.writes (32 + (i.toNat : Int) * 8) page).2 = 0 := hne
            refine ⟨⟨_, _, hWR _ ?_, h12, hd11.chg hc12 (fun x hx hh => by simp at hh; subst hh; exact hap R.pb (by simp [PF]) hx)⟩, hc011.tr (hc12.mono (by simp [PF]))⟩
            rw [if_neg hne, hP2]
            simp only [hbr, Bool.false_or]
          · skip
            refine wpE_skip (thenE_norm ?_)
            refine wpE_seq ?_
            have he : (ds.writes (32 + (i.toNat : Int) * 8) page).2 = 0 := Decidable.not_not.1 hne
            have hob3 := h11.2.2.1
            obtain ⟨m1, hm1, hml1⟩ := hob3
            refine wpE_draw mixed (.pure 0 (.pure 1 (.pure 2 (.pure 3 (.read 4 (.pure 5 (.pure 6 (.pure 7 (.pure 8 (.read 9 (.pure 10 (.pure 11 (.eff 12 [] (.pure 13 (.eff 14 [] (.eff 15 [] (.pure 16 (.eff 17 [] .nil)))))))))))))))))) (by kernel_rfl) ?_
            refine wpP_pure rfl rfl rfl (fun _ => x_move) ?_
            refine wpP_pure rfl rfl rfl (fun _ => (x_nil rfl)) ?_
            refine wpP_pure rfl rfl rfl (fun _ => (x_fieldAddr Tryz.underlying128 rfl I123 rfl rfl)) ?_
            refine wpP_pure rfl rfl rfl (fun _ => (x_fieldAddr Tryz.underlying123 rfl I121 rfl rfl)) ?_
            refine wpP_rd rfl rfl rfl Tryz.underlying121 rfl rfl (h11.a 3 (by decide) rfl) ?_
            refine wpP_pure rfl rfl rfl (fun _ => x_move) ?_
            refine wpP_pure rfl rfl rfl (fun _ => x_move) ?_
            refine wpP_pure rfl rfl rfl (fun _ => (x_nil rfl)) ?_
            refine wpP_pure rfl rfl rfl (fun _ => (x_fieldAddr Tryz.underlying128 rfl I126 rfl rfl)) ?_
            refine wpP_rd rfl rfl rfl Tryz.underlying126 rfl rfl (h11.c hk 8 rfl) ?_
            refine wpP_pure rfl rfl rfl (fun _ => x_move) ?_
            refine wpP_pure rfl rfl rfl (fun _ => x_move) ?_
            refine wpP_exw rfl rfl rfl (x_mapEntry (k := i) Tryz.underlying121 (keyOk_u32 Tryz.underlying34) I4 rfl rfl rfl (hm1.mod (drw _) (by simp))) ?_
            rintro _ w12 ⟨born1, u1, rfl, he12, hc12, hs12⟩
            refine ⟨trivial, ?_⟩
            refine wpP_pure rfl rfl rfl (fun _ => (x_extract rfl rfl)) ?_
            have hc12 : Chg [R.r] w11 w12 := (drw w11).tr0' hc12
            refine wpP_exs rfl rfl rfl (x_entryStore (v := .bool true) rfl rfl rfl he12) ?_
            rintro w13 ⟨hm13, hc13, hs13⟩
            refine ⟨trivial, ?_⟩
            have h13 := h11.updW ⟨_, hm13, set_law hml1 i⟩ (hc12.tr hc13)
            have hob4 := h13.2.2.2.2.2.1
            obtain ⟨m2, hm2, hml2⟩ := hob4
            refine wpP_exw rfl rfl rfl (x_mapEntry (k := i) Tryz.underlying126 (keyOk_u32 Tryz.underlying34) I35 rfl rfl rfl hm2) ?_
            rintro _ w14 ⟨born2, u2, rfl, he14, hc14, hs14⟩
            refine ⟨trivial, ?_⟩
            refine wpP_pure rfl rfl rfl (fun _ => (x_extract rfl rfl)) ?_
            refine wpP_exs rfl rfl rfl (x_entryStore (v := .int .u64 P.gen.toNat) rfl rfl rfl he14) ?_
            rintro w15 ⟨hm15, hc15, hs15⟩
            refine ⟨trivial, ?_⟩
            refine wpP_nil (thenE_norm ?_)
            refine wpE_seq ?_
            refine wpE_region ?_
            refine wpL_value rfl x_assign ?_
            refine wpL_nil (thenE_norm ?_)
            refine wpE_ret (fin_ret ?_)
            have h15 := h13.updG ⟨_, hm15, gen_law hml2 i P.gen⟩ (hc14.tr hc15)
            have hce : Chg (PF R) w11 w15 := ((hc12.tr hc13).mono (by simp [PF])).tr ((hc14.tr hc15).mono (by simp [PF]))
            refine ⟨⟨_, _, ?_, h15, hd11.chg hce (fun x hx hh => hap x hh hx)⟩, hc011.tr (hce.mono (fun x hx _ => List.mem_append_left _ hx))⟩
            have := hWR _ rfl
            rw [he, if_pos rfl] at this
            rw [hP2]
            exact this
end Go.Proofs.YtenhmbhflgnhlaaGreat

