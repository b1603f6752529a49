/- A page of which a byte was changed on the disk, or another page's first sector stands in its place, is told as what stands there opens to, or that it isn't sealed so; other pages are as they were: by the document's seals. It holds for every input; there are no conditions. -/
import Derived.Test.YtenhmbhflgnhlaaGreatQLaw7b
import Derived.Test.YtenhmbhflgnhlaaGreatQRef6
namespace Go.Proofs.YtenhmbhflgnhlaaGreat
open Go Go.Sac
set_option maxRecDepth 100000
set_option maxHeartbeats 4000000
theorem stands_ok (w : World) (b r : Nat) (kv : Value) (ds : DSt) (x : UInt32) (hd : DiskAt w b kv r ds) (ho : ds.off = false) (hx : 40 + x.toNat * 8 ≤ ds.kept.length) (hl : ds.kept.length ≤ 4000) :
    Ret Tryz.prog 24 #[.pointer (some ⟨b, 0, none⟩), .int .u32 x.toNat] w fun v w' => (∃ p c, v = .tuple #[.slice p 512 c, .bool true] ∧ Own w' (.slice p 512 c) (ds.reads (32 + (x.toNat : Int) * 8) 8) ∧ In (.slice p 512 c) [] w.heap.size) ∧ Chg [] w w' := by
  have hx32 := x.toNat_lt
  have hlen : (ds.reads (32 + (x.toNat : Int) * 8) 8).length = 512 := DSt.reads_length _ _ _
  refine enter [4, 5] Tryz.func24 rfl rfl (Nat.le_of_ble_eq_true rfl) ?_
  refine wpE_seq ?_
  refine wpE_region ?_
  refine wpL_value rfl x_assign (wpL_value rfl x_assign ?_)
  refine wpL_nil (thenE_norm ?_)
  refine wpE_seq ?_
  refine wpE_region ?_
  refine wpL_value rfl x_assign ?_
  refine wpL_nil (thenE_norm ?_)
  refine wpE_seq ?_
  refine wpE_seq ?_
  refine wpE_region ?_
  refine wpL_value rfl x_assign ?_
  refine wpL_nil (thenE_norm ?_)
  refine wpE_block ?_
  refine wpE_loopF [0, 1, 6, 7] (fun n vs w' => ∃ (i : Nat) (v : Value), vs = [.pointer (some ⟨b, 0, none⟩), .int .u32 x.toNat, v, .int .i64 i] ∧ i + n = 8 ∧ Own w' v (ds.reads (32 + (x.toNat : Int) * 8) i) ∧ In v [] w.heap.size ∧ Chg [] w w') (8) ?_ ?_
  · exact ⟨0, .slice none 0 0, rfl, rfl, Own.nil _, In.nil, Chg.refl _⟩
  · rintro n vs J w2 ⟨i, v, rfl, hi, ho2, hi2, hc2⟩
    refine wpE_seq ?_
    refine wpE_seq ?_
    refine wpE_region ?_
    refine wpL_value rfl x_move (wpL_value rfl (x_lss rfl rfl) ?_)
    refine wpL_nil (thenE_norm ?_)
    have hli : (ds.reads (32 + (x.toNat : Int) * 8) i).length = 64 * i := DSt.reads_length _ _ _
    refine wpE_cond_d rfl (fun h => ?_) (fun h => ?_)
    · skip
      refine wpE_skip (thenE_norm ?_)
      refine wpE_seq ?_
      refine wpE_block ?_
      refine wpE_seq ?_
      refine wpE_region ?_
      refine wpL_value rfl x_move (wpL_value rfl x_move (wpL_value rfl (x_convI rfl Tryz.underlying34 Tryz.underlying3 (by omega)) (wpL_value rfl (x_mul64 rfl rfl (by omega)) (wpL_value rfl (x_add64 rfl rfl (by omega)) (wpL_value rfl x_move (wpL_value rfl (x_add64 rfl rfl (by omega)) ?_))))))
      have hob1 : ∃ q, n = q + 1 := ⟨n - 1, by omega⟩
      obtain ⟨n, rfl⟩ := hob1
      refine wpL_call rfl C25 (Read_ok w2 b r kv ds (32 + 8 * (x.toNat : Int) + (i : Int)) (hd.chg0 hc2)) ?_
      rintro v3 w3 ⟨hc3, hv3⟩
      have his : ds.is (32 + 8 * (x.toNat : Int) + (i : Int)) = true := DSt.is_iff.2 (by omega)
      rw [if_neg (by rw [ho]; decide), if_pos his] at hv3
      obtain ⟨p3, rfl, hs3, hi3⟩ := hv3
      refine wpL_value rfl x_move (wpL_value rfl (x_extract rfl rfl) (wpL_value rfl (x_extract rfl rfl) (wpL_value rfl x_assign (wpL_value rfl x_assign ?_))))
      refine wpL_nil (thenE_norm ?_)
      refine wpE_seq ?_
      refine wpE_seq ?_
      refine wpE_region ?_
      refine wpL_value rfl x_move (wpL_value rfl (x_neq rfl rfl) ?_)
      refine wpL_nil (thenE_norm ?_)
      refine wpE_cond_df rfl (fun h => h rfl) ?_
      refine wpE_skip (thenE_norm ?_)
      refine wpE_region ?_
      refine wpL_value rfl x_move (wpL_value rfl x_move ?_)
      have hs64 := (ds.now (32 + 8 * (x.toNat : Int) + (i : Int))).2
      refine wpL_append Tryz.underlying41 Tryz.underlying41 I5 (.inr ⟨_, rfl⟩) rfl rfl rfl (by decide) rfl (ho2.mod0 hc3) (hs3.src) rfl rfl (by omega) ?_
      rintro v4 w4 h4
      refine wpL_value rfl x_assign ?_
      refine wpL_nil (blockE_norm (thenE_norm ?_))
      refine wpE_region ?_
      refine wpL_value rfl x_move (wpL_value rfl (x_add64 rfl rfl (by omega)) (wpL_value rfl x_assign ?_))
      refine wpL_nil (thenE_norm ?_)
      have hob2 := h4.step (hc2.tr hc3) hi2
      obtain ⟨ho4, hc4, hi4⟩ := hob2
      refine Exists.intro (n) (And.intro (by omega) ?_)
      refine ⟨i + 1, v4, rfl, by omega, ?_, hi4, hc4⟩
      rw [DSt.reads_succ, show 32 + (x.toNat : Int) * 8 + (i : Int) = 32 + 8 * (x.toNat : Int) + (i : Int) by omega]
      exact ho4
    · skip
      refine wpE_exit (thenE_exit (thenE_exit (blockE_exit (thenE_norm ?_))))
      refine wpE_seq ?_
      refine wpE_region ?_
      refine wpL_value rfl x_move (wpL_value rfl x_assign (wpL_value rfl x_assign ?_))
      refine wpL_nil (thenE_norm ?_)
      refine wpE_ret (fin_ret ?_)
      have hob3 : i = 8 := by omega
      obtain rfl := hob3
      have hob4 := ho2.form hlen
      obtain ⟨p, c, rfl⟩ := hob4
      exact ⟨⟨p, c, rfl, ho2, hi2⟩, hc2⟩
def opensR (pk : List UInt8) (i : Nat) (was now : List UInt8) : List UInt8 × Bool :=
  if now.take 8 = was.take 8 then
    match openP pk i now with
    | some l => (l, true)
    | none => ([], false)
  else ([], false)
theorem rOpenV_form {k nonce aad b : List UInt8} {v : Value} {w : World} (h : rOpenV k nonce aad b v w) : ∃ v1 e, v = .tuple #[v1, .int .i64 e] := by
  unfold rOpenV at h
  split at h
  · obtain ⟨r, h, _⟩ := h; exact ⟨_, _, h⟩
  · exact ⟨_, _, h⟩
theorem opens_ok (w : World) (x : UInt32) (pw cw pn cn : _) (was now : List UInt8) (hw : Sl w (.slice pw 512 cw) was) (hn : Sl w (.slice pn 512 cn) now) (hwl : was.length = 512) (hnl : now.length = 512) :
    Ret Tryz.prog 28 #[.int .u32 x.toNat, .slice pw 512 cw, .slice pn 512 cn] w fun v w' => v = .tuple #[str (opensR (deriveL k39 tPage 0) x.toNat was now).1, .bool (opensR (deriveL k39 tPage 0) x.toNat was now).2] ∧ Chg [] w w' := by
  have hdl := deriveL_length k39 tPage 0
  refine enter [6, 7] Tryz.func28 rfl rfl (Nat.le_of_ble_eq_true rfl) ?_
  refine wpE_seq ?_
  refine wpE_region ?_
  refine wpL_value rfl x_assign (wpL_value rfl x_assign ?_)
  refine wpL_nil (thenE_norm ?_)
  refine wpE_seq ?_
  refine wpE_region ?_
  refine wpL_value rfl x_move ?_
  refine wpL_call rfl C78 (rGet_ok (.slice pn 512 cn) now 8 w hn (by decide) (by omega)) ?_
  rintro v1 w1 ⟨hv1, hh1⟩
  rcases hv1 with ⟨q, _⟩ | ⟨_, r1, rfl, hs1, hb1⟩
  · omega
  refine wpL_value rfl x_move (wpL_value rfl (x_extract rfl rfl) (wpL_value rfl (x_extract rfl rfl) (wpL_value rfl (x_extract rfl rfl) (wpL_value rfl x_assign (wpL_value rfl x_assign (wpL_value rfl x_assign ?_))))))
  refine wpL_nil (thenE_norm ?_)
  refine wpE_seq ?_
  refine wpE_seq ?_
  have hc1 : Chg [] w w1 := Chg.heap hh1
  have hob5 : ∃ gen, gen = UInt64.ofNat (ofBe (now.take 8)) := ⟨_, rfl⟩
  obtain ⟨gen, hgen⟩ := hob5
  rw [← hgen]
  refine wpE_draw mixed (.pure 0 (.pure 1 (.read 2 (.pure 3 (.pure 4 (.read 5 (.pure 6 .nil))))))) (by kernel_rfl) ?_
  refine wpP_pure rfl rfl rfl (fun _ => x_move) ?_
  refine wpP_ex rfl rfl rfl (x_upto 8 Tryz.underlying41 I5 (hn.mod0 hc1) rfl rfl rfl (by omega)) ?_
  rintro _ ⟨⟨p2, c2, rfl⟩, hs2, hbl2⟩
  refine wpP_read rfl rfl rfl (fun w' => Sl w' (.slice p2 8 c2) (now.take 8)) (hs2) (fun w1 h1 => x_b2s Tryz.underlying41 Tryz.underlying5 Tryz.underlying9 h1 rfl) ?_
  refine wpP_pure rfl rfl rfl (fun _ => x_move) ?_
  refine wpP_ex rfl rfl rfl (x_upto 8 Tryz.underlying41 I5 (hw.mod0 hc1) rfl rfl rfl (by omega)) ?_
  rintro _ ⟨⟨p3, c3, rfl⟩, hs3, hbl3⟩
  refine wpP_read rfl rfl rfl (fun w' => Sl w' (.slice p3 8 c3) (was.take 8)) (hs3) (fun w1 h1 => x_b2s Tryz.underlying41 Tryz.underlying5 Tryz.underlying9 h1 rfl) ?_
  refine wpP_pure rfl rfl rfl (fun _ => (x_neS rfl rfl)) ?_
  refine wpP_nil (thenE_norm ?_)
  refine wpE_cond_d rfl (fun hne => ?_) (fun hne => ?_)
  · skip
    refine wpE_seq ?_
    refine wpE_region ?_
    refine wpL_value rfl x_assign (wpL_value rfl x_assign ?_)
    refine wpL_nil (thenE_norm ?_)
    refine wpE_ret (thenE_ret (fin_ret ?_))
    refine ⟨?_, hc1.tr (rdrw w1)⟩
    unfold opensR
    rw [if_neg hne]; rfl
  · skip
    refine wpE_skip (thenE_norm ?_)
    refine wpE_seq ?_
    refine wpE_region ?_
    have heq : now.take 8 = was.take 8 := Decidable.not_not.1 hne
    have hob6 : ∃ wd, wd = ({ w1 with drawn := w1.drawn + 1 } : World) := ⟨_, rfl⟩
    obtain ⟨wd, hwd⟩ := hob6
    have hcd : Chg [] w wd := by rw [hwd]; exact hc1.tr (rdrw w1)
    rw [← hwd]
    refine wpL_value rfl (x_buildV (List.replicate 32 (0 : UInt8)) ([(3, 9)]) (l := k39) Tryz.underlying23 I23 rfl I5 (by kernel_rfl) rfl (by kernel_rfl) rfl (by kernel_rfl)) ?_
    refine wpL_call rfl C79 (rDerive_ok k39 rfl tPage 0 0 rfl _ (by decide)) ?_
    rintro _ w4 ⟨rfl, hc4⟩
    refine wpL_allocA (List.replicate 32 (0 : UInt8)) I23 rfl rfl rfl ?_
    rintro w5 b5 hn5 ha5 hc5 hl5
    refine wpL_exs rfl (x_storeN 32 I23 rfl (ha5) rfl rfl (rfl) (hdl)) ?_
    rintro w6 ⟨ha6, hc6, hs6⟩
    refine wpL_nil (thenE_norm ?_)
    have hc16 : Chg [] wd w6 := (hc4.tr hc5).t1 hc6 (by have := hc4.1; omega)
    have hn6 := (hn.mod0 hcd).mod0 hc16
    have hnl12 := nonceL_length x.toNat gen.toNat
    have hcl : ((now.drop 8).take 498).length = 498 := by rw [List.length_take, List.length_drop]; omega
    refine wpE_cutF [12, 13] (fun vs w' => ∃ (v11 : Value) (e7 : Int), vs = [v11, .int .i64 e7] ∧ Chg [] w6 w' ∧ rOpenV (deriveL k39 tPage 0) (nonceL x.toNat gen.toNat) tPage ((now.drop 8).take 498) (.tuple #[v11, .int .i64 e7]) w') ?_ ?_
    · skip
      refine wpE_draw mixed (.read 0 (.pure 1 (.pure 2 (.pure 6 (.pure 7 (.alt (.eff 3 [0] (.eff 4 [0] (.eff 5 [0] (.eff 8 [] (.pure 9 (.pure 10 (.pure 11 (.pure 12 (.pure 13 .nil))))))))) (.eff 4 [0] (.alt (.eff 3 [0] (.eff 5 [0] (.eff 8 [] (.pure 9 (.pure 10 (.pure 11 (.pure 12 (.pure 13 .nil)))))))) (.eff 5 [0] (.eff 3 [0] (.eff 8 [] (.pure 9 (.pure 10 (.pure 11 (.pure 12 (.pure 13 .nil)))))))))))))))) (by kernel_rfl) ?_
      refine wpP_rdA 32 rfl rfl rfl Tryz.underlying23 rfl I23 rfl rfl (ha6) (hdl) ?_
      refine wpP_pure rfl rfl rfl (fun _ => x_move) ?_
      refine wpP_pure rfl rfl rfl (fun _ => x_move) ?_
      refine wpP_pure rfl rfl rfl (fun _ => x_move) ?_
      refine wpP_ex rfl rfl rfl (x_fromto 8 506 Tryz.underlying41 I5 rfl hn6 rfl rfl rfl rfl rfl (by omega)) ?_
      rintro _ ⟨⟨p10, c10, rfl⟩, hs10, hbl10⟩
      have hs10 : Sl w6 (.slice p10 498 c10) ((now.drop 8).take 498) := hs10
      have hob : ∀ {w' : World}, Chg [] w6 w' → Arr w' b5 (deriveL k39 tPage 0) := fun hc => ha6.chg0 hc
      have hcum : Chg [] w6 { w6 with drawn := w6.drawn + 1 } := Chg.heap rfl
      refine wpP_alt ?_ ?_
      · skip
        refine wpP_call rfl rfl rfl C58 (rNonceOf_ok x gen _) ?_
        rintro _ wq3 ⟨rfl, hc3⟩
        have hc3 : Chg [] _ wq3 := hc3
        have hcum := hcum.tr0 hc3
        refine ⟨⟨hob hcum, trivial⟩, ?_⟩
        refine wpP_exw rfl rfl rfl (x_bsS [.int .u8 112, .int .u8 97, .int .u8 103, .int .u8 101] tPage Tryz.underlying41 I5 rfl rfl rfl rfl rfl rfl (by decide) (by decide)) ?_
        rintro _ wq4 ⟨⟨b70, o70, c70, rfl⟩, ho70, hc4, hi70x⟩
        have hi70 : ∀ x ∈ blkOf (.slice (some ⟨b70, o70, none⟩) 4 c70), w6.heap.size ≤ x := fun x hx => Nat.le_trans hcum.1 (hi70x.ge x hx)
        have hs70 := ho70.sl
        have hcum := hcum.tr0 hc4
        refine ⟨⟨hob hcum, trivial⟩, ?_⟩
        refine wpP_exv rfl rfl rfl (x_convB Tryz.underlying41 Tryz.underlying5 rfl hs70) ?_
        rintro wq5 ⟨hs71, hc5q, hs5⟩
        have hc5 : Chg (blkOf (.slice (some ⟨b70, o70, none⟩) 4 c70)) _ wq5 := hc5q
        have hcum := hcum.t0 hc5 hi70
        have hs70 := hs71
        refine ⟨⟨hob hcum, trivial⟩, ?_⟩
        refine wpP_call rfl rfl rfl C60 (rOpen_ok (deriveL k39 tPage 0) (nonceL x.toNat gen.toNat) (.slice (some ⟨b70, o70, none⟩) 4 c70) (.slice p10 498 c10) tPage ((now.drop 8).take 498) _ hdl hnl12 hs70 (hs10.mod0 hcum) (by decide) (by omega) (by omega)) ?_
        rintro v76 wq8 ⟨hv76, hc8⟩
        refine ⟨trivial, ?_⟩
        have hob7 := rOpenV_form hv76
        obtain ⟨v11, e7, hform⟩ := hob7
        subst hform
        refine wpP_pure rfl rfl rfl (fun _ => x_move) ?_
        refine wpP_pure rfl rfl rfl (fun _ => (x_extract rfl rfl)) ?_
        refine wpP_pure rfl rfl rfl (fun _ => (x_extract rfl rfl)) ?_
        refine wpP_pure rfl rfl rfl (fun _ => x_assign) ?_
        refine wpP_pure rfl rfl rfl (fun _ => x_assign) ?_
        refine wpP_nil (thenE_norm ?_)
        exact ⟨v11, e7, rfl, hcum.tr hc8, hv76⟩
      · skip
        refine wpP_exw rfl rfl rfl (x_bsS [.int .u8 112, .int .u8 97, .int .u8 103, .int .u8 101] tPage Tryz.underlying41 I5 rfl rfl rfl rfl rfl rfl (by decide) (by decide)) ?_
        rintro _ wq4 ⟨⟨b70, o70, c70, rfl⟩, ho70, hc4, hi70x⟩
        have hi70 : ∀ x ∈ blkOf (.slice (some ⟨b70, o70, none⟩) 4 c70), w6.heap.size ≤ x := fun x hx => Nat.le_trans hcum.1 (hi70x.ge x hx)
        have hs70 := ho70.sl
        have hcum := hcum.tr0 hc4
        refine ⟨⟨hob hcum, trivial⟩, ?_⟩
        refine wpP_alt ?_ ?_
        · skip
          refine wpP_call rfl rfl rfl C58 (rNonceOf_ok x gen _) ?_
          rintro _ wq3 ⟨rfl, hc3⟩
          have hc3 : Chg [] _ wq3 := hc3
          have hcum := hcum.tr0 hc3
          have hs70 := hs70.mod0 hc3
          refine ⟨⟨hob hcum, trivial⟩, ?_⟩
          refine wpP_exv rfl rfl rfl (x_convB Tryz.underlying41 Tryz.underlying5 rfl hs70) ?_
          rintro wq5 ⟨hs71, hc5q, hs5⟩
          have hc5 : Chg (blkOf (.slice (some ⟨b70, o70, none⟩) 4 c70)) _ wq5 := hc5q
          have hcum := hcum.t0 hc5 hi70
          have hs70 := hs71
          refine ⟨⟨hob hcum, trivial⟩, ?_⟩
          refine wpP_call rfl rfl rfl C60 (rOpen_ok (deriveL k39 tPage 0) (nonceL x.toNat gen.toNat) (.slice (some ⟨b70, o70, none⟩) 4 c70) (.slice p10 498 c10) tPage ((now.drop 8).take 498) _ hdl hnl12 hs70 (hs10.mod0 hcum) (by decide) (by omega) (by omega)) ?_
          rintro v76 wq8 ⟨hv76, hc8⟩
          refine ⟨trivial, ?_⟩
          have hob8 := rOpenV_form hv76
          obtain ⟨v11, e7, hform⟩ := hob8
          subst hform
          refine wpP_pure rfl rfl rfl (fun _ => x_move) ?_
          refine wpP_pure rfl rfl rfl (fun _ => (x_extract rfl rfl)) ?_
          refine wpP_pure rfl rfl rfl (fun _ => (x_extract rfl rfl)) ?_
          refine wpP_pure rfl rfl rfl (fun _ => x_assign) ?_
          refine wpP_pure rfl rfl rfl (fun _ => x_assign) ?_
          refine wpP_nil (thenE_norm ?_)
          exact ⟨v11, e7, rfl, hcum.tr hc8, hv76⟩
        · skip
          refine wpP_exv rfl rfl rfl (x_convB Tryz.underlying41 Tryz.underlying5 rfl hs70) ?_
          rintro wq5 ⟨hs71, hc5q, hs5⟩
          have hc5 : Chg (blkOf (.slice (some ⟨b70, o70, none⟩) 4 c70)) _ wq5 := hc5q
          have hcum := hcum.t0 hc5 hi70
          have hs70 := hs71
          refine ⟨⟨hob hcum, trivial⟩, ?_⟩
          refine wpP_call rfl rfl rfl C58 (rNonceOf_ok x gen _) ?_
          rintro _ wq3 ⟨rfl, hc3⟩
          have hc3 : Chg [] _ wq3 := hc3
          have hcum := hcum.tr0 hc3
          have hs70 := hs70.mod0 hc3
          refine ⟨⟨hob hcum, trivial⟩, ?_⟩
          refine wpP_call rfl rfl rfl C60 (rOpen_ok (deriveL k39 tPage 0) (nonceL x.toNat gen.toNat) (.slice (some ⟨b70, o70, none⟩) 4 c70) (.slice p10 498 c10) tPage ((now.drop 8).take 498) _ hdl hnl12 hs70 (hs10.mod0 hcum) (by decide) (by omega) (by omega)) ?_
          rintro v76 wq8 ⟨hv76, hc8⟩
          refine ⟨trivial, ?_⟩
          have hob9 := rOpenV_form hv76
          obtain ⟨v11, e7, hform⟩ := hob9
          subst hform
          refine wpP_pure rfl rfl rfl (fun _ => x_move) ?_
          refine wpP_pure rfl rfl rfl (fun _ => (x_extract rfl rfl)) ?_
          refine wpP_pure rfl rfl rfl (fun _ => (x_extract rfl rfl)) ?_
          refine wpP_pure rfl rfl rfl (fun _ => x_assign) ?_
          refine wpP_pure rfl rfl rfl (fun _ => x_assign) ?_
          refine wpP_nil (thenE_norm ?_)
          exact ⟨v11, e7, rfl, hcum.tr hc8, hv76⟩
    · rintro vs J w7 ⟨v11, e7, rfl, hc7, hop⟩
      refine wpE_seq ?_
      refine wpE_seq ?_
      refine wpE_region ?_
      refine wpL_value rfl x_move (wpL_value rfl (x_neq rfl rfl) ?_)
      refine wpL_nil (thenE_norm ?_)
      unfold rOpenV at hop
      rw [hcl] at hop
      have htt : ((now.drop 8).take 498).take (498 - 16) = (now.drop 8).take 482 := by rw [List.take_take]; rfl
      rw [htt] at hop
      have hc07 : Chg [] w w7 := (hcd.tr hc16).tr hc7
      have hoR : opensR (deriveL k39 tPage 0) x.toNat was now = match openP (deriveL k39 tPage 0) x.toNat now with | some l => (l, true) | none => ([], false) := by unfold opensR; rw [if_pos heq]
      by_cases hfit : fitsL (deriveL k39 tPage 0) (nonceL x.toNat gen.toNat) tPage ((now.drop 8).take 498)
      · skip
        rw [if_pos hfit] at hop
        obtain ⟨r11, heq2, ho11⟩ := hop
        simp only [Value.tuple.injEq, Array.mk.injEq, List.cons.injEq, Value.int.injEq, true_and, and_true] at heq2
        obtain ⟨rfl, rfl⟩ := heq2
        have hob10 : ∃ pl, pl = crossK (deriveL k39 tPage 0) (nonceL x.toNat gen.toNat) ((now.drop 8).take 482) := ⟨_, rfl⟩
        obtain ⟨pl, hpl⟩ := hob10
        have hpll : pl.length = 482 := by rw [hpl, crossK_length, List.length_take, List.length_drop]; omega
        rw [← hpl] at ho11
        have hoP : openP (deriveL k39 tPage 0) x.toNat now = some ((pl.drop 2).take (min (ofBe (pl.take 2)) 480)) := by
          unfold openP
          rw [← hgen, if_pos hfit, ← hpl]
        refine wpE_cond_df rfl (fun h => h rfl) ?_
        refine wpE_skip (thenE_norm ?_)
        refine wpE_seq ?_
        refine wpE_region ?_
        refine wpL_value rfl x_move ?_
        refine wpL_call rfl C78 (rGet_ok v11 pl 2 w7 ho11.sl (by decide) (by omega)) ?_
        rintro v8 w8 ⟨hv8, hh8⟩
        rcases hv8 with ⟨q, _⟩ | ⟨_, r8, rfl, hs8, hb8⟩
        · omega
        have hlt3 : ofBe (pl.take 2) < 65536 := by
          have h := ofBe_lt (pl.take 2)
          rw [show (pl.take 2).length = 2 by rw [List.length_take]; omega] at h
          exact h
        have hn2 : (UInt64.ofNat (ofBe (pl.take 2))).toNat = ofBe (pl.take 2) := by
          rw [UInt64.toNat_ofNat']
          exact Nat.mod_eq_of_lt (by omega)
        have hd2 : (pl.drop 2).length = 480 := by rw [List.length_drop]; omega
        have hob11 := hs8.form hd2
        obtain ⟨p8, c8, rfl⟩ := hob11
        refine wpL_value rfl x_move (wpL_value rfl (x_extract rfl rfl) (wpL_value rfl (x_extract rfl rfl) (wpL_value rfl (x_extract rfl rfl) (wpL_value rfl x_assign (wpL_value rfl x_assign (wpL_value rfl x_assign ?_))))))
        refine wpL_nil (thenE_norm ?_)
        refine wpE_seq ?_
        refine wpE_region ?_
        refine wpL_value rfl x_move (wpL_value rfl x_move (wpL_value rfl (x_convI rfl Tryz.underlying35 Tryz.underlying3 (by omega)) (wpL_value rfl x_move (wpL_value rfl (x_len_slice rfl Tryz.underlying41) (wpL_value rfl (x_min rfl rfl) ?_)))))
        refine wpL_ex rfl (x_upto (min (ofBe (pl.take 2)) 480) Tryz.underlying41 I5 hs8 rfl rfl (by omega) (by omega)) ?_
        rintro _ ⟨⟨p9, c9, rfl⟩, hs9, hbl9⟩
        refine wpL_value rfl (x_b2s Tryz.underlying41 Tryz.underlying5 Tryz.underlying9 hs9 rfl) ?_
        refine wpL_value rfl x_assign (wpL_value rfl x_assign ?_)
        refine wpL_nil (thenE_norm ?_)
        refine wpE_ret (fin_ret ?_)
        rw [hoP] at hoR
        rw [hoR]
        exact ⟨rfl, hc07.tr (Chg.heap hh8)⟩
      · skip
        rw [if_neg hfit] at hop
        simp only [Value.tuple.injEq, Array.mk.injEq, List.cons.injEq, Value.int.injEq, true_and, and_true] at hop
        obtain ⟨rfl, rfl⟩ := hop
        have hoP : openP (deriveL k39 tPage 0) x.toNat now = none := by
          unfold openP
          rw [← hgen, if_neg hfit]
        rw [hoP] at hoR
        refine wpE_cond_dt rfl (by decide) ?_
        refine wpE_seq ?_
        refine wpE_region ?_
        refine wpL_value rfl x_assign (wpL_value rfl x_assign ?_)
        refine wpL_nil (thenE_norm ?_)
        refine wpE_ret (thenE_ret (fin_ret ?_))
        rw [hoR]
        exact ⟨rfl, hc07⟩
end Go.Proofs.YtenhmbhflgnhlaaGreat
