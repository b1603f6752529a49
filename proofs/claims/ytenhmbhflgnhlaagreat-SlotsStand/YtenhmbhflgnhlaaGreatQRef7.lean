/- A wrapped key stands on the disk as it is said to, is told by its key, and by another one as the document's unwrapping tells. It holds for every input; there are no conditions. -/
import Derived.Test.YtenhmbhflgnhlaaGreatQRef6
namespace Go.Proofs.YtenhmbhflgnhlaaGreat
open Go Go.Sac
set_option maxRecDepth 100000
set_option maxHeartbeats 4000000
theorem rWrap_ok (kek key : List UInt8) (slot : UInt32) (no : Nat) (hno : slot.toNat = no) (gen : UInt64) (w : World) (hk : kek.length = 32) (hky : key.length = 32) :
    Ret Tryz.prog 14 #[arrV kek, .int .u32 slot.toNat, .int .u64 gen.toNat, arrV key] w fun v w' => v = arrV (wrapL kek no gen.toNat key) ∧ Chg [] w w' := by
  subst hno
  have hl := wrapL_length kek slot.toNat gen.toNat key hky
  refine enterR [.cell 8 32] Tryz.func14 rfl rfl (Nat.le_of_ble_eq_true rfl) ?_
  refine wpE_seq ?_
  refine wpE_region ?_
  refine wpL_boxA (l := kek) rfl rfl ?_
  rintro w1 b1 hn1 ha1 hc1 hl1
  refine wpL_boxA (l := key) rfl rfl ?_
  rintro w2 b2 hn2 ha2 hc2 hl2
  refine wpL_allocA (List.replicate 48 (0 : UInt8)) I32 rfl rfl rfl ?_
  rintro w3 b3 hn3 ha3 hc3 hl3
  refine wpL_nil (thenE_norm ?_)
  have hk3 : Arr w3 b1 kek := (ha1.chg0 hc2).chg0 hc3
  have hy3 : Arr w3 b2 key := ha2.chg0 hc3
  have hc03 : Chg [] w w3 := (hc1.tr hc2).tr hc3
  refine wpE_cutF [8, 9] (fun vs w' => ∃ (p8 : Option Addr) (c8 : Nat), vs = [.pointer (some ⟨b3, 0, none⟩), .slice p8 48 c8] ∧ Own w' (.slice p8 48 c8) (wrapL kek slot.toNat gen.toNat key) ∧ In (.slice p8 48 c8) [] w3.heap.size ∧ Chg [] w3 w') ?_ ?_
  · skip
    refine wpE_draw mixed (.read 0 (.pure 1 (.pure 2 (.pure 6 (.alt (.eff 3 [0] (.eff 4 [0] (.eff 5 [0] (.eff 7 [] (.pure 8 .nil))))) (.eff 4 [0] (.alt (.eff 3 [0] (.eff 5 [0] (.eff 7 [] (.pure 8 .nil)))) (.eff 5 [0] (.eff 3 [0] (.eff 7 [] (.pure 8 .nil))))))))))) (by kernel_rfl) ?_
    refine wpP_rdA 32 rfl rfl rfl Tryz.underlying23 rfl I23 rfl rfl (hk3) (hk) ?_
    refine wpP_pure rfl rfl rfl (fun _ => x_move) ?_
    refine wpP_pure rfl rfl rfl (fun _ => x_move) ?_
    refine wpP_pure rfl rfl rfl (fun _ => x_arr_full Tryz.underlying23 I5 rfl) ?_
    have hob : ∀ {w' : World}, Chg [] w3 w' → Arr w' b1 kek := fun hc => hk3.chg0 hc
    have hcum : Chg [] w3 { w3 with drawn := w3.drawn + 1 } := Chg.heap rfl
    refine wpP_alt ?_ ?_
    · skip
      refine wpP_call rfl rfl rfl C58 (rNonceOf_ok slot gen _) ?_
      rintro _ wq3 ⟨rfl, hc3⟩
      have hc3 : Chg [] _ wq3 := hc3
      have hcum := hcum.tr0 hc3
      refine ⟨⟨hob hcum, trivial⟩, ?_⟩
      refine wpP_exw rfl rfl rfl (x_bsS [.int .u8 119, .int .u8 114, .int .u8 97, .int .u8 112] tWrap Tryz.underlying41 I5 rfl rfl rfl rfl rfl rfl (by decide) (by decide)) ?_
      rintro _ wq4 ⟨⟨b70, o70, c70, rfl⟩, ho70, hc4, hi70x⟩
      have hi70 : ∀ x ∈ blkOf (.slice (some ⟨b70, o70, none⟩) 4 c70), w3.heap.size ≤ x := fun x hx => Nat.le_trans hcum.1 (hi70x.ge x hx)
      have hs70 := ho70.sl
      have hcum := hcum.tr0 hc4
      refine ⟨⟨hob hcum, trivial⟩, ?_⟩
      refine wpP_exv rfl rfl rfl (x_convB Tryz.underlying41 Tryz.underlying5 rfl hs70) ?_
      rintro wq5 ⟨hs71, hc5q, hs5⟩
      have hc5 : Chg (blkOf (.slice (some ⟨b70, o70, none⟩) 4 c70)) _ wq5 := hc5q
      have hcum := hcum.t0 hc5 hi70
      have hs70 := hs71
      refine ⟨⟨hob hcum, trivial⟩, ?_⟩
      refine wpP_call rfl rfl rfl C57 (rSeal_ok kek _ (.slice (some ⟨b70, o70, none⟩) 4 c70) _ tWrap key _ hk (nonceL_length _ _) hs70 ((hy3.chg0 hcum).sl (n := 32) (c := 32) hky (Nat.le_refl _)) (by decide) (by omega)) ?_
      rintro v8 wq7 ⟨ho8, hc8, hi8⟩
      refine ⟨trivial, ?_⟩
      refine wpP_pure rfl rfl rfl (fun _ => x_assign) ?_
      refine wpP_nil (thenE_norm ?_)
      have ho8 : Own wq7 v8 (wrapL kek slot.toNat gen.toNat key) := ho8
      have hob1 := ho8.form hl
      obtain ⟨p8, c8, rfl⟩ := hob1
      exact ⟨p8, c8, rfl, ho8, hi8.mono (fun x hx => .inl hx) hcum.1, hcum.tr hc8⟩
    · skip
      refine wpP_exw rfl rfl rfl (x_bsS [.int .u8 119, .int .u8 114, .int .u8 97, .int .u8 112] tWrap Tryz.underlying41 I5 rfl rfl rfl rfl rfl rfl (by decide) (by decide)) ?_
      rintro _ wq4 ⟨⟨b70, o70, c70, rfl⟩, ho70, hc4, hi70x⟩
      have hi70 : ∀ x ∈ blkOf (.slice (some ⟨b70, o70, none⟩) 4 c70), w3.heap.size ≤ x := fun x hx => Nat.le_trans hcum.1 (hi70x.ge x hx)
      have hs70 := ho70.sl
      have hcum := hcum.tr0 hc4
      refine ⟨⟨hob hcum, trivial⟩, ?_⟩
      refine wpP_alt ?_ ?_
      · skip
        refine wpP_call rfl rfl rfl C58 (rNonceOf_ok slot gen _) ?_
        rintro _ wq3 ⟨rfl, hc3⟩
        have hc3 : Chg [] _ wq3 := hc3
        have hcum := hcum.tr0 hc3
        have hs70 := hs70.mod0 hc3
        refine ⟨⟨hob hcum, trivial⟩, ?_⟩
        refine wpP_exv rfl rfl rfl (x_convB Tryz.underlying41 Tryz.underlying5 rfl hs70) ?_
        rintro wq5 ⟨hs71, hc5q, hs5⟩
        have hc5 : Chg (blkOf (.slice (some ⟨b70, o70, none⟩) 4 c70)) _ wq5 := hc5q
        have hcum := hcum.t0 hc5 hi70
        have hs70 := hs71
        refine ⟨⟨hob hcum, trivial⟩, ?_⟩
        refine wpP_call rfl rfl rfl C57 (rSeal_ok kek _ (.slice (some ⟨b70, o70, none⟩) 4 c70) _ tWrap key _ hk (nonceL_length _ _) hs70 ((hy3.chg0 hcum).sl (n := 32) (c := 32) hky (Nat.le_refl _)) (by decide) (by omega)) ?_
        rintro v8 wq7 ⟨ho8, hc8, hi8⟩
        refine ⟨trivial, ?_⟩
        refine wpP_pure rfl rfl rfl (fun _ => x_assign) ?_
        refine wpP_nil (thenE_norm ?_)
        have ho8 : Own wq7 v8 (wrapL kek slot.toNat gen.toNat key) := ho8
        have hob2 := ho8.form hl
        obtain ⟨p8, c8, rfl⟩ := hob2
        exact ⟨p8, c8, rfl, ho8, hi8.mono (fun x hx => .inl hx) hcum.1, hcum.tr hc8⟩
      · skip
        refine wpP_exv rfl rfl rfl (x_convB Tryz.underlying41 Tryz.underlying5 rfl hs70) ?_
        rintro wq5 ⟨hs71, hc5q, hs5⟩
        have hc5 : Chg (blkOf (.slice (some ⟨b70, o70, none⟩) 4 c70)) _ wq5 := hc5q
        have hcum := hcum.t0 hc5 hi70
        have hs70 := hs71
        refine ⟨⟨hob hcum, trivial⟩, ?_⟩
        refine wpP_call rfl rfl rfl C58 (rNonceOf_ok slot gen _) ?_
        rintro _ wq3 ⟨rfl, hc3⟩
        have hc3 : Chg [] _ wq3 := hc3
        have hcum := hcum.tr0 hc3
        have hs70 := hs70.mod0 hc3
        refine ⟨⟨hob hcum, trivial⟩, ?_⟩
        refine wpP_call rfl rfl rfl C57 (rSeal_ok kek _ (.slice (some ⟨b70, o70, none⟩) 4 c70) _ tWrap key _ hk (nonceL_length _ _) hs70 ((hy3.chg0 hcum).sl (n := 32) (c := 32) hky (Nat.le_refl _)) (by decide) (by omega)) ?_
        rintro v8 wq7 ⟨ho8, hc8, hi8⟩
        refine ⟨trivial, ?_⟩
        refine wpP_pure rfl rfl rfl (fun _ => x_assign) ?_
        refine wpP_nil (thenE_norm ?_)
        have ho8 : Own wq7 v8 (wrapL kek slot.toNat gen.toNat key) := ho8
        have hob3 := ho8.form hl
        obtain ⟨p8, c8, rfl⟩ := hob3
        exact ⟨p8, c8, rfl, ho8, hi8.mono (fun x hx => .inl hx) hcum.1, hcum.tr hc8⟩
  · rintro vs J w4 ⟨p8, c8, rfl, ho4, hi4, hc4⟩
    refine wpE_seq ?_
    refine wpE_region ?_
    refine wpL_allocA (List.replicate 48 (0 : UInt8)) I32 rfl rfl rfl ?_
    rintro w5 b5 hn5 ha5 hc5 hl5
    refine wpL_nil (thenE_norm ?_)
    refine wpE_seq ?_
    refine wpE_seq ?_
    refine wpE_region ?_
    refine wpL_value rfl x_assign ?_
    refine wpL_nil (thenE_norm ?_)
    refine wpE_block ?_
    have ho5 := ho4.mod0 hc5
    have h3w := (ha3.chg0 hc4).chg0 hc5
    have l4 := ho4.sl.lt
    have k4 := hc4.1
    refine wpE_loopF [8, 9, 10, 11] (fun n vs w' => ∃ i : Nat, vs = [.pointer (some ⟨b3, 0, none⟩), .slice p8 48 c8, .pointer (some ⟨b5, 0, none⟩), .int .i64 i] ∧ i + n = 48 ∧ Arr w' b5 ((wrapL kek slot.toNat gen.toNat key).take i ++ List.replicate (48 - i) 0) ∧ Chg [b5] w5 w') (48) ?_ ?_
    · exact ⟨0, rfl, rfl, by simpa using ha5, Chg.refl' _ _⟩
    · rintro n vs J w6 ⟨i, rfl, hi, ha6, hc6⟩
      refine wpE_seq ?_
      refine wpE_seq ?_
      refine wpE_region ?_
      refine wpL_value rfl x_move (wpL_value rfl (x_lss rfl rfl) ?_)
      refine wpL_nil (thenE_norm ?_)
      have hfl := fill_len hl (show i ≤ 48 by omega)
      have hs6 := ho5.sl.mod hc6 (fun x hx hh => by simp at hh; subst hh; have := l4 _ hx; omega)
      refine wpE_cond_d rfl (fun h => ?_) (fun h => ?_)
      · skip
        refine wpE_skip (thenE_norm ?_)
        refine wpE_seq ?_
        refine wpE_block ?_
        refine wpE_region ?_
        refine wpL_value rfl x_move (wpL_value rfl x_move (wpL_value rfl x_move ?_))
        have hob4 : ∃ q, n = q + 1 := ⟨n - 1, by omega⟩
        obtain ⟨n, rfl⟩ := hob4
        refine wpL_ex rfl (x_idx (i) Tryz.underlying41 I5 rfl (hs6) rfl rfl (by first | rfl | omega) (by omega)) ?_
        rintro _ ⟨bi, oi, rfl, hei, hbi⟩
        refine wpL_value rfl (x_load Tryz.underlying5 rfl rfl ((hs6.at hei (getD_some (d := 0) (by omega))).c0 rfl)) ?_
        refine wpL_value rfl (x_idxA (i) Tryz.underlying32 I5 rfl rfl (by first | rfl | omega) (by first | assumption | omega)) ?_
        refine wpL_exs rfl (x_store1 (a := (wrapL kek slot.toNat gen.toNat key).getD i 0) (k := i) I5 rfl rfl rfl rfl (ha6) rfl (by first | assumption | omega)) ?_
        rintro w7 ⟨ha7, hc7, hs7⟩
        refine wpL_nil (blockE_norm (thenE_norm ?_))
        refine wpE_region ?_
        refine wpL_value rfl x_move (wpL_value rfl (x_add64 rfl rfl (by omega)) (wpL_value rfl x_assign ?_))
        refine wpL_nil (thenE_norm ?_)
        refine Exists.intro (n) (And.intro (by omega) ?_)
        refine ⟨i + 1, rfl, by omega, ?_, hc6.tr hc7⟩
        rw [← fill_step hl (by omega) (getD_some (d := 0) (by omega))]
        exact ha7
      · skip
        refine wpE_exit (thenE_exit (thenE_exit (blockE_exit (thenE_norm ?_))))
        refine wpE_seq ?_
        refine wpE_region ?_
        have hob5 : i = 48 := by omega
        obtain rfl := hob5
        rw [fill_full hl] at ha6
        refine wpL_value rfl (x_loadN 48 Tryz.underlying32 rfl I32 rfl rfl (ha6) (hl)) ?_
        refine wpL_exs rfl (x_storeN 48 I32 rfl (h3w.nb hc6 (by have := ha3.lt; omega)) rfl rfl (rfl) (hl)) ?_
        rintro w7 ⟨ha7, hc7, hs7⟩
        refine wpL_nil (thenE_norm ?_)
        refine wpE_ret (fin_retR ?_)
        exact ⟨[arrV (wrapL kek slot.toNat gen.toNat key)], ⟨⟨_, rfl, run_loadN 48 Tryz.underlying32 rfl I32 rfl ha7 hl⟩, trivial⟩, rfl, ((((hc03.tr hc4).tr hc5).t1 hc6 (by have := hc03.1; omega))).t1 hc7 (by have := hc1.1; have := hc2.1; omega)⟩
theorem rOpenV_form7 {k nonce aad b : List UInt8} {v : Value} {w : World} (h : rOpenV k nonce aad b v w) : ∃ v1 e, v = .tuple #[v1, .int .i64 e] := by
  unfold rOpenV at h
  split at h
  · obtain ⟨r, h, _⟩ := h; exact ⟨_, _, h⟩
  · exact ⟨_, _, h⟩
def rUnwrapV (kek : List UInt8) (slot gen : Nat) (b : List UInt8) : Value :=
  if fitsL kek (nonceL slot gen) tWrap b then .tuple #[arrV (crossK kek (nonceL slot gen) (b.take 32)), .bool true] else .tuple #[arrV (List.replicate 32 (0 : UInt8)), .bool false]
theorem rUnwrap_ok (kek b : List UInt8) (slot : UInt32) (no : Nat) (hno : slot.toNat = no) (gen : UInt64) (w : World) (hk : kek.length = 32) (hb : b.length = 48) :
    Ret Tryz.prog 16 #[arrV kek, .int .u32 slot.toNat, .int .u64 gen.toNat, arrV b] w fun v w' => v = rUnwrapV kek no gen.toNat b ∧ Chg [] w w' := by
  subst hno
  refine enterR [.cell 8 23, .tmp 9] Tryz.func16 rfl rfl (Nat.le_of_ble_eq_true rfl) ?_
  refine wpE_seq ?_
  refine wpE_region ?_
  refine wpL_boxA (l := kek) rfl rfl ?_
  rintro w1 b1 hn1 ha1 hc1 hl1
  refine wpL_boxA (l := b) rfl rfl ?_
  rintro w2 b2 hn2 ha2 hc2 hl2
  refine wpL_allocA (List.replicate 32 (0 : UInt8)) I23 rfl rfl rfl ?_
  rintro w3 b3 hn3 ha3 hc3 hl3
  refine wpL_value rfl x_assign ?_
  refine wpL_nil (thenE_norm ?_)
  have hk3 : Arr w3 b1 kek := (ha1.chg0 hc2).chg0 hc3
  have hb3 : Arr w3 b2 b := ha2.chg0 hc3
  have hc03 : Chg [] w w3 := (hc1.tr hc2).tr hc3
  refine wpE_cutF [8, 10, 11] (fun vs w' => ∃ (v10 : Value) (e : Int), vs = [.pointer (some ⟨b3, 0, none⟩), v10, .int .i64 e] ∧ rOpenV kek (nonceL slot.toNat gen.toNat) tWrap b (.tuple #[v10, .int .i64 e]) w' ∧ Chg [] w3 w') ?_ ?_
  · skip
    refine wpE_draw mixed (.read 0 (.pure 1 (.pure 2 (.pure 6 (.alt (.eff 3 [0] (.eff 4 [0] (.eff 5 [0] (.eff 7 [] (.pure 8 (.pure 9 (.pure 10 (.pure 11 (.pure 12 .nil))))))))) (.eff 4 [0] (.alt (.eff 3 [0] (.eff 5 [0] (.eff 7 [] (.pure 8 (.pure 9 (.pure 10 (.pure 11 (.pure 12 .nil)))))))) (.eff 5 [0] (.eff 3 [0] (.eff 7 [] (.pure 8 (.pure 9 (.pure 10 (.pure 11 (.pure 12 .nil))))))))))))))) (by kernel_rfl) ?_
    refine wpP_rdA 32 rfl rfl rfl Tryz.underlying23 rfl I23 rfl rfl (hk3) (hk) ?_
    refine wpP_pure rfl rfl rfl (fun _ => x_move) ?_
    refine wpP_pure rfl rfl rfl (fun _ => x_move) ?_
    refine wpP_pure rfl rfl rfl (fun _ => x_arr_full Tryz.underlying32 I5 rfl) ?_
    have hob : ∀ {w' : World}, Chg [] w3 w' → Arr w' b1 kek := fun hc => hk3.chg0 hc
    have hcum : Chg [] w3 { w3 with drawn := w3.drawn + 1 } := Chg.heap rfl
    refine wpP_alt ?_ ?_
    · skip
      refine wpP_call rfl rfl rfl C58 (rNonceOf_ok slot gen _) ?_
      rintro _ wq3 ⟨rfl, hc3⟩
      have hc3 : Chg [] _ wq3 := hc3
      have hcum := hcum.tr0 hc3
      refine ⟨⟨hob hcum, trivial⟩, ?_⟩
      refine wpP_exw rfl rfl rfl (x_bsS [.int .u8 119, .int .u8 114, .int .u8 97, .int .u8 112] tWrap Tryz.underlying41 I5 rfl rfl rfl rfl rfl rfl (by decide) (by decide)) ?_
      rintro _ wq4 ⟨⟨b70, o70, c70, rfl⟩, ho70, hc4, hi70x⟩
      have hi70 : ∀ x ∈ blkOf (.slice (some ⟨b70, o70, none⟩) 4 c70), w3.heap.size ≤ x := fun x hx => Nat.le_trans hcum.1 (hi70x.ge x hx)
      have hs70 := ho70.sl
      have hcum := hcum.tr0 hc4
      refine ⟨⟨hob hcum, trivial⟩, ?_⟩
      refine wpP_exv rfl rfl rfl (x_convB Tryz.underlying41 Tryz.underlying5 rfl hs70) ?_
      rintro wq5 ⟨hs71, hc5q, hs5⟩
      have hc5 : Chg (blkOf (.slice (some ⟨b70, o70, none⟩) 4 c70)) _ wq5 := hc5q
      have hcum := hcum.t0 hc5 hi70
      have hs70 := hs71
      refine ⟨⟨hob hcum, trivial⟩, ?_⟩
      refine wpP_call rfl rfl rfl C60 (rOpen_ok kek _ (.slice (some ⟨b70, o70, none⟩) 4 c70) _ tWrap b _ hk (nonceL_length _ _) hs70 ((hb3.chg0 hcum).sl (n := 48) (c := 48) hb (Nat.le_refl _)) (by decide) (by omega) (by omega)) ?_
      rintro v76 wq7 ⟨hv76, hc8⟩
      refine ⟨trivial, ?_⟩
      have hob6 := rOpenV_form7 hv76
      obtain ⟨v10, e, hform⟩ := hob6
      subst hform
      refine wpP_pure rfl rfl rfl (fun _ => x_move) ?_
      refine wpP_pure rfl rfl rfl (fun _ => (x_extract rfl rfl)) ?_
      refine wpP_pure rfl rfl rfl (fun _ => (x_extract rfl rfl)) ?_
      refine wpP_pure rfl rfl rfl (fun _ => x_assign) ?_
      refine wpP_pure rfl rfl rfl (fun _ => x_assign) ?_
      refine wpP_nil (thenE_norm ?_)
      exact ⟨v10, e, rfl, hv76, hcum.tr hc8⟩
    · skip
      refine wpP_exw rfl rfl rfl (x_bsS [.int .u8 119, .int .u8 114, .int .u8 97, .int .u8 112] tWrap Tryz.underlying41 I5 rfl rfl rfl rfl rfl rfl (by decide) (by decide)) ?_
      rintro _ wq4 ⟨⟨b70, o70, c70, rfl⟩, ho70, hc4, hi70x⟩
      have hi70 : ∀ x ∈ blkOf (.slice (some ⟨b70, o70, none⟩) 4 c70), w3.heap.size ≤ x := fun x hx => Nat.le_trans hcum.1 (hi70x.ge x hx)
      have hs70 := ho70.sl
      have hcum := hcum.tr0 hc4
      refine ⟨⟨hob hcum, trivial⟩, ?_⟩
      refine wpP_alt ?_ ?_
      · skip
        refine wpP_call rfl rfl rfl C58 (rNonceOf_ok slot gen _) ?_
        rintro _ wq3 ⟨rfl, hc3⟩
        have hc3 : Chg [] _ wq3 := hc3
        have hcum := hcum.tr0 hc3
        have hs70 := hs70.mod0 hc3
        refine ⟨⟨hob hcum, trivial⟩, ?_⟩
        refine wpP_exv rfl rfl rfl (x_convB Tryz.underlying41 Tryz.underlying5 rfl hs70) ?_
        rintro wq5 ⟨hs71, hc5q, hs5⟩
        have hc5 : Chg (blkOf (.slice (some ⟨b70, o70, none⟩) 4 c70)) _ wq5 := hc5q
        have hcum := hcum.t0 hc5 hi70
        have hs70 := hs71
        refine ⟨⟨hob hcum, trivial⟩, ?_⟩
        refine wpP_call rfl rfl rfl C60 (rOpen_ok kek _ (.slice (some ⟨b70, o70, none⟩) 4 c70) _ tWrap b _ hk (nonceL_length _ _) hs70 ((hb3.chg0 hcum).sl (n := 48) (c := 48) hb (Nat.le_refl _)) (by decide) (by omega) (by omega)) ?_
        rintro v76 wq7 ⟨hv76, hc8⟩
        refine ⟨trivial, ?_⟩
        have hob7 := rOpenV_form7 hv76
        obtain ⟨v10, e, hform⟩ := hob7
        subst hform
        refine wpP_pure rfl rfl rfl (fun _ => x_move) ?_
        refine wpP_pure rfl rfl rfl (fun _ => (x_extract rfl rfl)) ?_
        refine wpP_pure rfl rfl rfl (fun _ => (x_extract rfl rfl)) ?_
        refine wpP_pure rfl rfl rfl (fun _ => x_assign) ?_
        refine wpP_pure rfl rfl rfl (fun _ => x_assign) ?_
        refine wpP_nil (thenE_norm ?_)
        exact ⟨v10, e, rfl, hv76, hcum.tr hc8⟩
      · skip
        refine wpP_exv rfl rfl rfl (x_convB Tryz.underlying41 Tryz.underlying5 rfl hs70) ?_
        rintro wq5 ⟨hs71, hc5q, hs5⟩
        have hc5 : Chg (blkOf (.slice (some ⟨b70, o70, none⟩) 4 c70)) _ wq5 := hc5q
        have hcum := hcum.t0 hc5 hi70
        have hs70 := hs71
        refine ⟨⟨hob hcum, trivial⟩, ?_⟩
        refine wpP_call rfl rfl rfl C58 (rNonceOf_ok slot gen _) ?_
        rintro _ wq3 ⟨rfl, hc3⟩
        have hc3 : Chg [] _ wq3 := hc3
        have hcum := hcum.tr0 hc3
        have hs70 := hs70.mod0 hc3
        refine ⟨⟨hob hcum, trivial⟩, ?_⟩
        refine wpP_call rfl rfl rfl C60 (rOpen_ok kek _ (.slice (some ⟨b70, o70, none⟩) 4 c70) _ tWrap b _ hk (nonceL_length _ _) hs70 ((hb3.chg0 hcum).sl (n := 48) (c := 48) hb (Nat.le_refl _)) (by decide) (by omega) (by omega)) ?_
        rintro v76 wq7 ⟨hv76, hc8⟩
        refine ⟨trivial, ?_⟩
        have hob8 := rOpenV_form7 hv76
        obtain ⟨v10, e, hform⟩ := hob8
        subst hform
        refine wpP_pure rfl rfl rfl (fun _ => x_move) ?_
        refine wpP_pure rfl rfl rfl (fun _ => (x_extract rfl rfl)) ?_
        refine wpP_pure rfl rfl rfl (fun _ => (x_extract rfl rfl)) ?_
        refine wpP_pure rfl rfl rfl (fun _ => x_assign) ?_
        refine wpP_pure rfl rfl rfl (fun _ => x_assign) ?_
        refine wpP_nil (thenE_norm ?_)
        exact ⟨v10, e, rfl, hv76, hcum.tr hc8⟩
  · rintro vs J w4 ⟨v10, e, rfl, hop, hc4⟩
    refine wpE_seq ?_
    refine wpE_region ?_
    refine wpL_allocA (List.replicate 32 (0 : UInt8)) I23 rfl rfl rfl ?_
    rintro w5 b5 hn5 ha5 hc5 hl5
    refine wpL_nil (thenE_norm ?_)
    refine wpE_seq ?_
    refine wpE_seq ?_
    refine wpE_region ?_
    refine wpL_value rfl x_assign ?_
    refine wpL_nil (thenE_norm ?_)
    refine wpE_block ?_
    have h3w := (ha3.chg0 hc4).chg0 hc5
    have k4 := hc4.1
    unfold rOpenV at hop
    rw [hb] at hop
    by_cases hfit : fitsL kek (nonceL slot.toNat gen.toNat) tWrap b
    · skip
      rw [if_pos hfit] at hop
      obtain ⟨r11, heq, ho11⟩ := hop
      simp only [Value.tuple.injEq, Array.mk.injEq, List.cons.injEq, Value.int.injEq, true_and, and_true] at heq
      obtain ⟨rfl, rfl⟩ := heq
      have hob9 : ∃ pt, pt = crossK kek (nonceL slot.toNat gen.toNat) (b.take 32) := ⟨_, rfl⟩
      obtain ⟨pt, hpt⟩ := hob9
      have hptl : pt.length = 32 := by rw [hpt, crossK_length, List.length_take]; omega
      have ho11 : Own w4 v10 pt := by rw [hpt]; exact ho11
      have hob10 := ho11.form hptl
      obtain ⟨p10, c10, rfl⟩ := hob10
      have ho5 := ho11.mod0 hc5
      have l4 := ho11.sl.lt
      refine wpE_loopF [8, 10, 11, 12, 13] (fun n vs w' => ∃ i : Nat, vs = [.pointer (some ⟨b3, 0, none⟩), .slice p10 32 c10, .int .i64 0, .pointer (some ⟨b5, 0, none⟩), .int .i64 i] ∧ i + n = 32 ∧ Arr w' b5 (pt.take i ++ List.replicate (32 - i) 0) ∧ Chg [b5] w5 w') (32) ?_ ?_
      · exact ⟨0, rfl, rfl, by simpa using ha5, Chg.refl' _ _⟩
      · rintro n vs J w6 ⟨i, rfl, hi, ha6, hc6⟩
        refine wpE_seq ?_
        refine wpE_seq ?_
        refine wpE_region ?_
        refine wpL_value rfl x_move ?_
        have hfl := fill_len hptl (show i ≤ 32 by omega)
        have hs6 := ho5.sl.mod hc6 (fun x hx hh => by simp at hh; subst hh; have := l4 _ hx; omega)
        by_cases h32 : i < 32
        · skip
          have hob11 : ∃ q, n = q + 1 := ⟨n - 1, by omega⟩
          obtain ⟨n, rfl⟩ := hob11
          refine wpL_value rfl (x_to (x_lss rfl rfl) (congrArg Value.bool (decide_eq_true (by omega)))) ?_
          refine wpL_value rfl x_move (wpL_yes rfl (wpL_value rfl x_move (wpL_yes rfl (wpL_value rfl (x_eql rfl rfl) (wpL_value rfl (x_pick_t rfl) ?_)))))
          refine wpL_nil (thenE_norm ?_)
          refine wpE_cond_dt rfl (rfl) ?_
          refine wpE_skip (thenE_norm ?_)
          refine wpE_seq ?_
          refine wpE_block ?_
          refine wpE_region ?_
          refine wpL_value rfl x_move (wpL_value rfl x_move (wpL_value rfl x_move ?_))
          refine wpL_ex rfl (x_idx (i) Tryz.underlying41 I5 rfl (hs6) rfl rfl (by first | rfl | omega) (by omega)) ?_
          rintro _ ⟨bi, oi, rfl, hei, hbi⟩
          refine wpL_value rfl (x_load Tryz.underlying5 rfl rfl ((hs6.at hei (getD_some (d := 0) (by omega))).c0 rfl)) ?_
          refine wpL_value rfl (x_idxA (i) Tryz.underlying23 I5 rfl rfl (by first | rfl | omega) (by first | assumption | omega)) ?_
          refine wpL_exs rfl (x_store1 (a := pt.getD i 0) (k := i) I5 rfl rfl rfl rfl (ha6) rfl (by first | assumption | omega)) ?_
          rintro w7 ⟨ha7, hc7, hs7⟩
          refine wpL_nil (blockE_norm (thenE_norm ?_))
          refine wpE_region ?_
          refine wpL_value rfl x_move (wpL_value rfl (x_add64 rfl rfl (by omega)) (wpL_value rfl x_assign ?_))
          refine wpL_nil (thenE_norm ?_)
          refine Exists.intro (n) (And.intro (by omega) ?_)
          refine ⟨i + 1, rfl, by omega, ?_, hc6.tr hc7⟩
          rw [← fill_step hptl (by omega) (getD_some (d := 0) (by omega))]
          exact ha7
        · skip
          have hob12 : i = 32 := by omega
          obtain rfl := hob12
          refine wpL_value rfl (x_to (x_lss rfl rfl) (congrArg Value.bool (decide_eq_false (by omega)))) ?_
          refine wpL_value rfl x_move (wpL_no rfl rfl (wpL_no rfl rfl (wpL_value rfl (x_pick_f rfl) ?_)))
          refine wpL_nil (thenE_norm ?_)
          refine wpE_cond_f (rfl) ?_
          refine wpE_exit (thenE_exit (thenE_exit (blockE_exit (thenE_norm ?_))))
          refine wpE_seq ?_
          refine wpE_region ?_
          rw [fill_full hptl] at ha6
          refine wpL_value rfl (x_loadN 32 Tryz.underlying23 rfl I23 rfl rfl (ha6) (hptl)) ?_
          refine wpL_value rfl x_move (wpL_value rfl (x_eql rfl rfl) ?_)
          refine wpL_exs rfl (x_storeN 32 I23 rfl (h3w.nb hc6 (by have := ha3.lt; omega)) rfl rfl (rfl) (hptl)) ?_
          rintro w7 ⟨ha7, hc7, hs7⟩
          refine wpL_value rfl x_assign ?_
          refine wpL_nil (thenE_norm ?_)
          refine wpE_ret (fin_retR ?_)
          refine ⟨[arrV pt, .bool true], ⟨⟨_, rfl, run_loadN 32 Tryz.underlying23 rfl I23 rfl ha7 hptl⟩, rfl, trivial⟩, ?_, ((((hc03.tr hc4).tr hc5).t1 hc6 (by have := hc03.1; omega))).t1 hc7 (by have := hc1.1; have := hc2.1; omega)⟩
          unfold rUnwrapV
          rw [if_pos hfit, hpt]; rfl
    · skip
      rw [if_neg hfit] at hop
      simp only [Value.tuple.injEq, Array.mk.injEq, List.cons.injEq, Value.int.injEq, true_and, and_true] at hop
      obtain ⟨rfl, rfl⟩ := hop
      refine wpE_loopF [8, 10, 11, 12, 13] (fun n vs w' => vs = [.pointer (some ⟨b3, 0, none⟩), .slice none 0 0, .int .i64 50, .pointer (some ⟨b5, 0, none⟩), .int .i64 0] ∧ w' = w5) (0) ?_ ?_
      · exact ⟨rfl, rfl⟩
      · rintro n vs J w6 ⟨rfl, rfl⟩
        refine wpE_seq ?_
        refine wpE_seq ?_
        refine wpE_region ?_
        refine wpL_value rfl x_move ?_
        refine wpL_value rfl (x_to (x_lss rfl rfl) (congrArg Value.bool (decide_eq_true (by decide)))) ?_
        refine wpL_value rfl x_move (wpL_yes rfl (wpL_value rfl x_move (wpL_yes rfl (wpL_value rfl (x_eql rfl rfl) (wpL_value rfl (x_pick_t rfl) ?_)))))
        refine wpL_nil (thenE_norm ?_)
        refine wpE_cond_df rfl (by decide) ?_
        refine wpE_exit (thenE_exit (thenE_exit (blockE_exit (thenE_norm ?_))))
        refine wpE_seq ?_
        refine wpE_region ?_
        refine wpL_value rfl (x_loadN 32 Tryz.underlying23 rfl I23 rfl rfl (ha5) (rfl)) ?_
        refine wpL_value rfl x_move (wpL_value rfl (x_eql rfl rfl) ?_)
        refine wpL_exs rfl (x_storeN 32 I23 rfl (h3w) rfl rfl (rfl) (rfl)) ?_
        rintro w7 ⟨ha7, hc7, hs7⟩
        refine wpL_value rfl x_assign ?_
        refine wpL_nil (thenE_norm ?_)
        refine wpE_ret (fin_retR ?_)
        refine ⟨[arrV (List.replicate 32 (0 : UInt8)), .bool false], ⟨⟨_, rfl, run_loadN 32 Tryz.underlying23 rfl I23 rfl ha7 rfl⟩, rfl, trivial⟩, ?_, (((hc03.tr hc4).tr hc5)).t1 hc7 (by have := hc1.1; have := hc2.1; omega)⟩
        unfold rUnwrapV
        rw [if_neg hfit]; rfl
end Go.Proofs.YtenhmbhflgnhlaaGreat
