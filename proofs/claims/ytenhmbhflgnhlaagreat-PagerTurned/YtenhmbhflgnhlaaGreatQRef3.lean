/- A page of which a byte was changed on the disk, or another page's first sector stands in its place, is told as what stands there opens to, or that it isn't sealed so; other pages are as they were: by the document's seals. It holds for every input; there are no conditions. -/
import Derived.Test.YtenhmbhflgnhlaaGreatQRef2
import Derived.Test.YtenhmbhflgnhlaaGreatSac1
namespace Go.Proofs.YtenhmbhflgnhlaaGreat
open Go Go.Sac
set_option maxRecDepth 100000
set_option maxHeartbeats 4000000
theorem rdrw (w : World) : Chg [] w { w with drawn := w.drawn + 1 } := Chg.heap rfl
theorem rSum_ok (b : Value) (l : List UInt8) (w : World) (hb : Sl w b l) (hl : l.length ≤ 900000000) :
    Ret Tryz.prog 137 #[b] w fun v w' => v = arrV (shaSum l) ∧ Chg [] w w' := by
  obtain ⟨bp, bc, rfl⟩ := hb.form rfl
  refine enterR [.cell 2 22] Tryz.func137 rfl rfl (Nat.le_of_ble_eq_true rfl) ?_
  refine wpE_seq ?_
  refine wpE_region ?_
  refine wpL_allocA (List.replicate 32 (0 : UInt8)) I22 rfl rfl rfl ?_
  rintro w1 b2 hn1 ha1 hc1 hl1
  refine wpL_nil (thenE_norm ?_)
  refine wpE_seq ?_
  refine wpE_region ?_
  refine wpL_value rfl (x_buildV (List.replicate 8 (0 : UInt32)) (shaFirst.zipIdx.map fun x => (x.2, x.1)) (l := shaFirst) Tryz.underlying234 I234 rfl I34 rfl rfl rfl rfl rfl) ?_
  refine wpL_allocA (List.replicate 8 (0 : UInt32)) I234 rfl rfl rfl ?_
  rintro w2 b3 hn2 ha2 hc2 hl2
  refine wpL_exs rfl (x_storeN 8 I234 rfl (ha2) rfl rfl (by first | assumption | rfl | (simp <;> omega)) (by first | assumption | rfl | (simp <;> omega))) ?_
  rintro w3 ⟨ha3, hc3, hs3⟩
  refine wpL_nil (thenE_norm ?_)
  refine wpE_seq ?_
  refine wpE_region ?_
  refine wpL_value rfl x_move ?_
  have hc13 : Chg [] w w3 := (hc1.tr hc2).t1 hc3 (by omega)
  refine wpL_append Tryz.underlying41 Tryz.underlying41 I5 (.inr ⟨_, rfl⟩) rfl rfl rfl (by decide) rfl (Own.nil w3) ((hb.mod0 hc13).src) rfl rfl (by simp; omega) ?_
  rintro v4 w4 h4
  have hob1 := h4.step (Chg.refl _) In.nil
  obtain ⟨ho4, hc4, hi4⟩ := hob1
  refine wpL_push ((0x80 : UInt8)) Tryz.underlying41 I5 rfl rfl rfl (by decide) (by decide) rfl rfl rfl rfl (ho4) (fun _ => rfl) (by simp; omega) ?_
  rintro s5 v5 w5 h5
  refine wpL_value rfl x_assign ?_
  refine wpL_nil (thenE_norm ?_)
  refine wpE_seq ?_
  refine wpE_block ?_
  have hob2 := h5.step hc4 hi4
  obtain ⟨ho5, hc5, hi5⟩ := hob2
  rw [List.nil_append] at ho5
  have hn5 : (l ++ [(0x80 : UInt8)]).length = l.length + 1 := by rw [List.length_append]; rfl
  have hob3 := ho5.form hn5
  obtain ⟨p5, c5, rfl⟩ := hob3
  have hz : zeros l.length = (119 - l.length % 64) % 64 := rfl
  have h2w : Arr w3 b2 (List.replicate 32 (0 : UInt8)) := (ha1.chg0 hc2).nb hc3 (by omega)
  refine wpE_loopF [0, 2, 3, 4] (fun n vs w' => ∃ (k : Nat) (p : Option Addr) (c : Nat), vs = [.slice bp l.length bc, .pointer (some ⟨b2, 0, none⟩), .pointer (some ⟨b3, 0, none⟩), .slice p (l.length + 1 + k) c] ∧ k + n = zeros l.length ∧ Own w' (.slice p (l.length + 1 + k) c) (l ++ [0x80] ++ List.replicate k 0) ∧ Chg [] w3 w' ∧ In (.slice p (l.length + 1 + k) c) [] w3.heap.size) (zeros l.length) ?_ ?_
  · exact ⟨0, p5, c5, rfl, by omega, by simpa using ho5, hc5, hi5⟩
  · rintro n vs J w6 ⟨k, p, c, rfl, hk, ho6, hc6, hi6⟩
    refine wpE_seq ?_
    refine wpE_seq ?_
    refine wpE_region ?_
    refine wpL_value rfl x_move (wpL_value rfl (x_len_slice rfl Tryz.underlying41) (wpL_value rfl (x_rem64 rfl rfl (by omega)) (wpL_value rfl (x_neq rfl rfl) ?_)))
    refine wpL_nil (thenE_norm ?_)
    have hkl : (l ++ [0x80] ++ List.replicate k (0 : UInt8)).length = l.length + 1 + k := by rw [List.length_append, hn5, List.length_replicate]
    refine wpE_cond_d rfl (fun h => ?_) (fun h => ?_)
    · skip
      refine wpE_skip (thenE_norm ?_)
      refine wpE_block ?_
      refine wpE_region ?_
      refine wpL_value rfl x_move ?_
      have hob4 : ∃ q, n = q + 1 := ⟨n - 1, by omega⟩
      obtain ⟨n, rfl⟩ := hob4
      refine wpL_push ((0 : UInt8)) Tryz.underlying41 I5 rfl rfl rfl (by decide) (by decide) rfl rfl rfl rfl (ho6) (fun _ => rfl) (by omega) ?_
      rintro s7 v7 w7 h7
      refine wpL_value rfl x_assign ?_
      refine wpL_nil (blockE_norm (thenE_norm ?_))
      have hob5 := h7.step hc6 hi6
      obtain ⟨ho7, hc7, hi7⟩ := hob5
      rw [List.append_assoc, ← List.replicate_succ'] at ho7
      have hob6 := ho7.form (n := l.length + 1 + (k + 1)) (by rw [List.length_append, hn5, List.length_replicate])
      obtain ⟨p7, c7, rfl⟩ := hob6
      refine Exists.intro (n) (And.intro (by omega) ?_)
      exact ⟨k + 1, p7, c7, rfl, by omega, ho7, hc7, hi7⟩
    · skip
      refine wpE_exit (thenE_exit (thenE_exit (blockE_exit (thenE_norm ?_))))
      refine wpE_seq ?_
      refine wpE_region ?_
      refine wpL_value rfl x_move (wpL_value rfl x_move (wpL_value rfl (x_len_slice rfl Tryz.underlying41) (wpL_value rfl (x_conv64u rfl Tryz.underlying3 Tryz.underlying35) (wpL_value rfl (x_mul64u (b := 8) rfl rfl) ?_))))
      have hk0 : k = zeros l.length := by omega
      have h8 : (toU64 (l.length : Int) * 8).toNat = l.length * 8 := by
        rw [toU64_nat, UInt64.toNat_mul, UInt64.toNat_ofNat']
        show l.length % 18446744073709551616 * 8 % 18446744073709551616 = _
        omega
      refine wpL_call rfl C99 (rPut_ok _ _ (toU64 (l.length : Int) * 8) 8 w6 ho6 (by decide) (by omega)) ?_
      rintro v8 w8 ⟨ho8, hc8, hi8⟩
      refine wpL_value rfl x_assign ?_
      refine wpL_nil (thenE_norm ?_)
      refine wpE_seq ?_
      refine wpE_seq ?_
      refine wpE_region ?_
      refine wpL_value rfl x_assign ?_
      refine wpL_nil (thenE_norm ?_)
      refine wpE_block ?_
      have he : l ++ [0x80] ++ List.replicate k 0 ++ be 8 (toU64 (l.length : Int) * 8).toNat = l ++ padOf l.length := by
        rw [h8, hk0, padOf]; simp
      rw [he] at ho8
      have hpl := pad_length l.length
      have hob7 : ∃ tot, tot = l ++ padOf l.length := ⟨_, rfl⟩
      obtain ⟨tot, htot⟩ := hob7
      have htl : tot.length % 64 = 0 := by rw [htot, List.length_append]; exact hpl
      have htb : tot.length ≤ 1000000000 := by
        rw [htot, List.length_append]
        have : (padOf l.length).length = 1 + zeros l.length + 8 := by unfold padOf; simp [be_length]; omega
        omega
      have hsum : shaSum l = (absorb (tot.length / 64) shaFirst tot).flatMap putBigL := by rw [htot]; exact shaSum_def l
      rw [← htot] at ho8
      have hc38 : Chg [] w3 w8 := hc6.t0 hc8 hi6.ge
      have h2w8 := h2w.chg0 hc38
      have h3w8 := ha3.chg0 hc38
      have hs8 := ho8.sl
      have hi8f : ∀ x ∈ blkOf v8, w3.heap.size ≤ x := fun x hx => (hi8 x hx).elim (fun h => hi6.ge x h) (fun h => Nat.le_trans hc6.1 h)
      have hb3w3 := ha3.lt
      have hob8 := ho8.form rfl
      obtain ⟨p8, c8, rfl⟩ := hob8
      refine wpE_loopF [2, 3, 4, 5] (fun n vs w' => ∃ k : Nat, vs = [.pointer (some ⟨b2, 0, none⟩), .pointer (some ⟨b3, 0, none⟩), .slice p8 tot.length c8, .int .i64 ((64 * k : Nat) : Int)] ∧ k + n = tot.length / 64 ∧ Arr w' b3 (absorb k shaFirst tot) ∧ Chg [b3] w8 w') (tot.length / 64) ?_ ?_
      · exact ⟨0, rfl, by omega, by rw [absorb_zero]; exact h3w8, Chg.refl' _ _⟩
      · rintro n vs J w9 ⟨k, rfl, hk, ha9, hc9⟩
        refine wpE_seq ?_
        refine wpE_seq ?_
        refine wpE_region ?_
        refine wpL_value rfl x_move (wpL_value rfl x_move (wpL_value rfl (x_len_slice rfl Tryz.underlying41) (wpL_value rfl (x_lss rfl rfl) ?_)))
        refine wpL_nil (thenE_norm ?_)
        have hal := absorb_length k shaFirst tot rfl
        refine wpE_cond_d rfl (fun h => ?_) (fun h => ?_)
        · skip
          refine wpE_skip (thenE_norm ?_)
          refine wpE_seq ?_
          refine wpE_block ?_
          have hob9 : ∃ q, n = q + 1 := ⟨n - 1, by omega⟩
          obtain ⟨n, rfl⟩ := hob9
          refine wpE_draw mixed (.read 0 (.pure 1 (.pure 2 (.pure 3 (.pure 4 (.pure 5 (.eff 6 [] (.eff 7 [] .nil)))))))) (by kernel_rfl) ?_
          refine wpP_rdA 8 rfl rfl rfl Tryz.underlying234 rfl I234 rfl rfl (ha9) (hal) ?_
          refine wpP_pure rfl rfl rfl (fun _ => x_move) ?_
          refine wpP_pure rfl rfl rfl (fun _ => x_move) ?_
          refine wpP_pure rfl rfl rfl (fun _ => x_move) ?_
          refine wpP_pure rfl rfl rfl (fun _ => (x_add64 rfl rfl (by omega))) ?_
          refine wpP_ex rfl rfl rfl (x_fromto (64 * k) (64 * k + 64) Tryz.underlying41 I5 rfl (hs8.mod hc9 (fun x hx hh => by have := hi8f x hx; simp at hh; omega)) rfl rfl rfl rfl (by omega) (by omega)) ?_
          rintro _ ⟨⟨pa, ca, rfl⟩, hsa, hbla⟩
          refine wpP_call rfl rfl rfl C166 (rBlock_ok (absorb k shaFirst tot) hal (.slice pa (64 * k + 64 - 64 * k) ca) _ _ (hsa.mod0 (rdrw w9)) (by rw [List.length_take, List.length_drop]; omega)) ?_
          rintro _ wa ⟨rfl, hca⟩
          refine ⟨trivial, ?_⟩
          have hca : Chg [] w9 wa := (rdrw w9).tr hca
          refine wpP_exs rfl rfl rfl (x_storeN 8 I234 rfl (ha9.chg0 hca) rfl rfl (hal) (shaNext_length _ _ hal)) ?_
          rintro wb ⟨hab, hcb, hsb⟩
          refine ⟨trivial, ?_⟩
          refine wpP_nil (blockE_norm (thenE_norm ?_))
          refine wpE_region ?_
          refine wpL_value rfl x_move (wpL_value rfl (x_add64 rfl rfl (by omega)) (wpL_value rfl x_assign ?_))
          refine wpL_nil (thenE_norm ?_)
          refine Exists.intro (n) (And.intro (by omega) ?_)
          refine ⟨k + 1, vs_cons rfl (vs_cons rfl (vs_cons rfl (vs_cons (int_eq (by omega)) vs_nil))), by omega, ?_, (hc9.tr0 hca).tr hcb⟩
          rw [absorb_snoc]
          rw [show 64 * k + 64 - 64 * k = 64 by omega] at hab
          exact hab
        · skip
          refine wpE_exit (thenE_exit (thenE_exit (blockE_exit (thenE_norm ?_))))
          refine wpE_seq ?_
          refine wpE_region ?_
          have hob10 : k = tot.length / 64 := by omega
          obtain rfl := hob10
          have h2w9 := h2w8.nb hc9 (by omega)
          refine wpL_allocA (List.replicate 32 (0 : UInt8)) I22 rfl rfl rfl ?_
          rintro wa b6 hna haa hca hla
          refine wpL_nil (thenE_norm ?_)
          refine wpE_seq ?_
          refine wpE_seq ?_
          refine wpE_region ?_
          refine wpL_value rfl x_assign ?_
          refine wpL_nil (thenE_norm ?_)
          refine wpE_block ?_
          have h2wa := h2w9.chg0 hca
          have h3wa := ha9.chg0 hca
          have hSl : ((absorb (tot.length / 64) shaFirst tot).flatMap putBigL).length = 32 := by rw [← hsum]; exact shaSum_length l
          have hk8 := hc38.1
          have hk9 := hc9.1
          refine wpE_loopF [2, 3, 6, 7] (fun n vs w' => ∃ i : Nat, vs = [.pointer (some ⟨b2, 0, none⟩), .pointer (some ⟨b3, 0, none⟩), .pointer (some ⟨b6, 0, none⟩), .int .i64 i] ∧ i + n = 32 ∧ Arr w' b6 (((absorb (tot.length / 64) shaFirst tot).flatMap putBigL).take i ++ List.replicate (32 - i) 0) ∧ Chg [b6] wa w') (32) ?_ ?_
          · exact ⟨0, rfl, rfl, by simpa using haa, Chg.refl' _ _⟩
          · rintro n vs J wi ⟨i, rfl, hi, hai, hci⟩
            refine wpE_seq ?_
            refine wpE_seq ?_
            refine wpE_region ?_
            refine wpL_value rfl x_move (wpL_value rfl (x_lss rfl rfl) ?_)
            refine wpL_nil (thenE_norm ?_)
            have hfl := fill_len hSl (show i ≤ 32 by omega)
            have h3wi := h3wa.nb hci (by omega)
            refine wpE_cond_d rfl (fun h => ?_) (fun h => ?_)
            · skip
              refine wpE_skip (thenE_norm ?_)
              refine wpE_seq ?_
              refine wpE_block ?_
              refine wpE_region ?_
              refine wpL_value rfl x_move (wpL_value rfl x_move (wpL_value rfl (x_quo64 rfl rfl (by omega)) ?_))
              have hob11 : ∃ q, n = q + 1 := ⟨n - 1, by omega⟩
              obtain ⟨n, rfl⟩ := hob11
              have hq4 : ((i : Int) / 4) = ((i / 4 : Nat) : Int) := by omega
              have hr4 : ((i : Int) % 4) = ((i % 4 : Nat) : Int) := by omega
              have hsh := shiftN (i % 4) (by omega)
              have hpg := putBig_get (absorb (tot.length / 64) shaFirst tot) i (by omega)
              rw [← toU8_u32] at hpg
              refine wpL_value rfl (x_idxA (i / 4) Tryz.underlying234 I34 rfl rfl (by first | rfl | omega) (by first | assumption | omega)) ?_
              refine wpL_value rfl (x_load Tryz.underlying34 rfl rfl (h3wi.c (getD_some (d := 0) (by omega)) rfl rfl)) ?_
              refine wpL_value rfl x_move (wpL_value rfl (x_rem64 rfl rfl (by omega)) (wpL_value rfl (x_conv64u rfl Tryz.underlying3 Tryz.underlying130) (wpL_value rfl (x_mul64u (a := 8) rfl rfl) (wpL_value rfl (x_sub64u (a := 24) rfl rfl) ?_))))
              refine wpL_value rfl (x_shr32u rfl rfl (s := 24 - 8 * (i % 4)) (by rw [hr4]; exact hsh)) ?_
              refine wpL_value rfl (x_conv8u rfl Tryz.underlying34 Tryz.underlying5) ?_
              refine wpL_value rfl (x_idxA (i) Tryz.underlying22 I5 rfl rfl (by first | rfl | omega) (by first | assumption | omega)) ?_
              refine wpL_exs rfl (x_store1 (a := toU8 ((shr32 ((absorb (tot.length / 64) shaFirst tot).getD (i / 4) 0) (24 - 8 * (i % 4))).toNat : Int)) (k := i) I5 rfl rfl rfl rfl (hai) rfl (by first | assumption | omega)) ?_
              rintro wj ⟨haj, hcj, hsj⟩
              refine wpL_nil (blockE_norm (thenE_norm ?_))
              refine wpE_region ?_
              refine wpL_value rfl x_move (wpL_value rfl (x_add64 rfl rfl (by omega)) (wpL_value rfl x_assign ?_))
              refine wpL_nil (thenE_norm ?_)
              refine Exists.intro (n) (And.intro (by omega) ?_)
              refine ⟨i + 1, rfl, by omega, ?_, hci.tr hcj⟩
              rw [← fill_step hSl (by omega) hpg]
              exact haj
            · skip
              refine wpE_exit (thenE_exit (thenE_exit (blockE_exit (thenE_norm ?_))))
              refine wpE_seq ?_
              refine wpE_region ?_
              have hob12 : i = 32 := by omega
              obtain rfl := hob12
              rw [fill_full hSl, ← hsum] at hai
              refine wpL_value rfl (x_loadN 32 Tryz.underlying22 rfl I22 rfl rfl (hai) (shaSum_length _)) ?_
              have h2wi := h2wa.nb hci (by omega)
              refine wpL_exs rfl (x_storeN 32 I22 rfl (h2wi) rfl rfl (rfl) (shaSum_length _)) ?_
              rintro wj ⟨haj, hcj, hsj⟩
              refine wpL_nil (thenE_norm ?_)
              refine wpE_ret (fin_retR ?_)
              exact ⟨[arrV (shaSum l)], ⟨⟨_, rfl, run_loadN 32 Tryz.underlying22 rfl I22 rfl haj (shaSum_length _)⟩, trivial⟩, rfl, ((((hc13.tr hc38).t1 hc9 (by omega)).tr hca).t1 hci (by have := hc13.1; omega)).t1 hcj (by omega)⟩
theorem rMac_ok (kv mv : Value) (k m : List UInt8) (w : World) (hk : Sl w kv k) (hm : Sl w mv m) (hl : k.length ≤ 64) (hml : m.length ≤ 800000000) :
    Ret Tryz.prog 121 #[kv, mv] w fun v w' => v = arrV (macL k m) ∧ Chg [] w w' := by
  have hob13 := hk.form rfl
  obtain ⟨kp, kc, rfl⟩ := hob13
  have hob14 := hm.form rfl
  obtain ⟨mp, mc, rfl⟩ := hob14
  refine enterR [.cell 4 22] Tryz.func121 rfl rfl (Nat.le_of_ble_eq_true rfl) ?_
  refine wpE_seq ?_
  refine wpE_region ?_
  refine wpL_allocA (List.replicate 32 (0 : UInt8)) I22 rfl rfl rfl ?_
  rintro w1 b1 hn1 ha1 hc1 hl1
  refine wpL_nil (thenE_norm ?_)
  refine wpE_seq ?_
  refine wpE_seq ?_
  refine wpE_region ?_
  refine wpL_value rfl x_move (wpL_value rfl (x_len_slice rfl Tryz.underlying41) (wpL_value rfl (x_gtr rfl rfl) ?_))
  refine wpL_nil (thenE_norm ?_)
  refine wpE_cond_df rfl (by omega) ?_
  refine wpE_skip (thenE_norm ?_)
  refine wpE_seq ?_
  refine wpE_region ?_
  refine wpL_value rfl x_assign (wpL_value rfl x_assign ?_)
  refine wpL_nil (thenE_norm ?_)
  refine wpE_seq ?_
  refine wpE_seq ?_
  refine wpE_region ?_
  refine wpL_value rfl x_assign ?_
  refine wpL_nil (thenE_norm ?_)
  refine wpE_block ?_
  have hpi := macPad_length k 0x36 hl
  have hpo := macPad_length k 0x5c hl
  refine wpE_loopF [0, 1, 4, 6, 7, 8] (fun n vs w' => ∃ (i : Nat) (vi vo : Value), vs = [.slice kp k.length kc, .slice mp m.length mc, .pointer (some ⟨b1, 0, none⟩), vi, vo, .int .i64 i] ∧ i + n = 64 ∧ Own w' vi ((macPad k 0x36).take i) ∧ Own w' vo ((macPad k 0x5c).take i) ∧ Chg [] w1 w' ∧ In vi [] w1.heap.size ∧ In vo [] w1.heap.size ∧ (∀ x ∈ blkOf vi, x ∉ blkOf vo)) (64) ?_ ?_
  · exact ⟨0, .slice none 0 0, .slice none 0 0, rfl, rfl, Own.nil _, Own.nil _, Chg.refl _, In.nil, In.nil, fun x hx => by simp [blkOf] at hx⟩
  · rintro n vs J w2 ⟨i, vi, vo, rfl, hi, hoi, hoo, hc2, hii, hio, hap⟩
    refine wpE_seq ?_
    refine wpE_seq ?_
    refine wpE_region ?_
    refine wpL_value rfl x_move (wpL_value rfl (x_lss rfl rfl) ?_)
    refine wpL_nil (thenE_norm ?_)
    have hc02 := hc1.tr hc2
    refine wpE_cond_d rfl (fun h => ?_) (fun h => ?_)
    · skip
      refine wpE_skip (thenE_norm ?_)
      refine wpE_seq ?_
      refine wpE_block ?_
      refine wpE_seq ?_
      refine wpE_region ?_
      refine wpL_value rfl (x_as (v := .int .u8 ((0 : UInt8).toNat : Nat)) rfl) ?_
      refine wpL_nil (thenE_norm ?_)
      refine wpE_seq ?_
      refine wpE_seq ?_
      refine wpE_region ?_
      refine wpL_value rfl x_move (wpL_value rfl x_move (wpL_value rfl (x_len_slice rfl Tryz.underlying41) (wpL_value rfl (x_lss rfl rfl) ?_)))
      refine wpL_nil (thenE_norm ?_)
      have hob15 : ∃ q, n = q + 1 := ⟨n - 1, by omega⟩
      obtain ⟨n, rfl⟩ := hob15
      by_cases hik : i < k.length
      · skip
        refine wpE_cond_dt rfl (by omega) ?_
        refine wpE_region ?_
        refine wpL_value rfl x_move (wpL_value rfl x_move ?_)
        refine wpL_ex rfl (x_idx (i) Tryz.underlying41 I5 rfl (hk.mod0 hc02) rfl rfl (by first | rfl | omega) (by omega)) ?_
        rintro _ ⟨bi, oi, rfl, hei, hbi⟩
        refine wpL_value rfl (x_load Tryz.underlying5 rfl rfl (((hk.mod0 hc02).at hei (getD_some (d := 0) (by omega))).c0 rfl)) ?_
        refine wpL_value rfl x_assign ?_
        refine wpL_nil (thenE_norm ?_)
        refine wpE_region ?_
        refine wpL_value rfl x_move (wpL_value rfl x_move (wpL_value rfl (x_xor8u (b := 54) rfl rfl) ?_))
        refine wpL_push ((k.getD i 0 ^^^ 0x36)) Tryz.underlying41 I5 rfl rfl rfl (by decide) (by decide) rfl rfl rfl rfl (hoi) (fun _ => rfl) (by rw [List.length_take]; omega) ?_
        rintro s3 v3 w3 h3
        refine wpL_value rfl x_move (wpL_value rfl x_move (wpL_value rfl (x_xor8u (b := 92) rfl rfl) ?_))
        have ho3 := hoo.mod h3.mod (fun x hx hh => hap x hh hx)
        refine wpL_push ((k.getD i 0 ^^^ 0x5c)) Tryz.underlying41 I5 rfl rfl rfl (by decide) (by decide) rfl rfl rfl rfl (ho3) (fun _ => rfl) (by rw [List.length_take]; omega) ?_
        rintro s4 v4 w4 h4
        refine wpL_value rfl x_assign (wpL_value rfl x_assign ?_)
        refine wpL_nil (blockE_norm (thenE_norm ?_))
        refine wpE_region ?_
        refine wpL_value rfl x_move (wpL_value rfl (x_add64 rfl rfl (by omega)) (wpL_value rfl x_assign ?_))
        refine wpL_nil (thenE_norm ?_)
        have hlo := hoo.sl.lt
        have hap3 : ∀ x ∈ blkOf v3, x ∉ blkOf vo := fun x hx hh => by
          rcases h3.inn x hx with h | h
          · exact hap x h hh
          · have := hlo x hh; omega
        have hi4 := h3.own.mod h4.mod hap3
        have hk3 := h3.mod.1
        refine Exists.intro (n) (And.intro (by omega) ?_)
        refine ⟨i + 1, v3, v4, rfl, by omega, ?_, ?_, (hc2.t0 h3.mod hii.ge).t0 h4.mod hio.ge, h3.inn.mono (fun x hx => .inr (hii.ge x hx)) hc2.1, h4.inn.mono (fun x hx => .inr (hio.ge x hx)) (by have := hc2.1; omega), fun x hx hh => ?_⟩
        · rw [List.take_add_one, macPad_get k 0x36 i hl (by omega)]; exact hi4
        · rw [List.take_add_one, macPad_get k 0x5c i hl (by omega)]; exact h4.own
        · rcases h4.inn x hh with h | h
          · exact hap3 x hx h
          · have := h3.own.sl.lt x hx; omega
      · skip
        refine wpE_cond_df rfl (by omega) ?_
        refine wpE_skip (thenE_norm ?_)
        refine wpE_region ?_
        refine wpL_value rfl x_move (wpL_value rfl x_move (wpL_value rfl (x_xor8u (b := 54) rfl rfl) ?_))
        have hk0 : k.getD i 0 = 0 := by rw [List.getD_eq_getElem?_getD, List.getElem?_eq_none (by omega)]; rfl
        refine wpL_push (((0 : UInt8) ^^^ 0x36)) Tryz.underlying41 I5 rfl rfl rfl (by decide) (by decide) rfl rfl rfl rfl (hoi) (fun _ => rfl) (by rw [List.length_take]; omega) ?_
        rintro s3 v3 w3 h3
        refine wpL_value rfl x_move (wpL_value rfl x_move (wpL_value rfl (x_xor8u (b := 92) rfl rfl) ?_))
        have ho3 := hoo.mod h3.mod (fun x hx hh => hap x hh hx)
        refine wpL_push (((0 : UInt8) ^^^ 0x5c)) Tryz.underlying41 I5 rfl rfl rfl (by decide) (by decide) rfl rfl rfl rfl (ho3) (fun _ => rfl) (by rw [List.length_take]; omega) ?_
        rintro s4 v4 w4 h4
        refine wpL_value rfl x_assign (wpL_value rfl x_assign ?_)
        refine wpL_nil (blockE_norm (thenE_norm ?_))
        refine wpE_region ?_
        refine wpL_value rfl x_move (wpL_value rfl (x_add64 rfl rfl (by omega)) (wpL_value rfl x_assign ?_))
        refine wpL_nil (thenE_norm ?_)
        have hlo := hoo.sl.lt
        have hap3 : ∀ x ∈ blkOf v3, x ∉ blkOf vo := fun x hx hh => by
          rcases h3.inn x hx with h | h
          · exact hap x h hh
          · have := hlo x hh; omega
        have hi4 := h3.own.mod h4.mod hap3
        have hk3 := h3.mod.1
        refine Exists.intro (n) (And.intro (by omega) ?_)
        refine ⟨i + 1, v3, v4, rfl, by omega, ?_, ?_, (hc2.t0 h3.mod hii.ge).t0 h4.mod hio.ge, h3.inn.mono (fun x hx => .inr (hii.ge x hx)) hc2.1, h4.inn.mono (fun x hx => .inr (hio.ge x hx)) (by have := hc2.1; omega), fun x hx hh => ?_⟩
        · rw [List.take_add_one, macPad_get k 0x36 i hl (by omega), hk0]; exact hi4
        · rw [List.take_add_one, macPad_get k 0x5c i hl (by omega), hk0]; exact h4.own
        · rcases h4.inn x hh with h | h
          · exact hap3 x hx h
          · have := h3.own.sl.lt x hx; omega
    · skip
      refine wpE_exit (thenE_exit (thenE_exit (blockE_exit (thenE_norm ?_))))
      refine wpE_seq ?_
      refine wpE_region ?_
      refine wpL_value rfl x_move (wpL_value rfl x_move ?_)
      have hob16 : i = 64 := by omega
      obtain rfl := hob16
      rw [List.take_of_length_le (by omega)] at hoi hoo
      have hm2 := hm.mod0 hc02
      refine wpL_append Tryz.underlying41 Tryz.underlying41 I5 (.inr ⟨_, rfl⟩) rfl rfl rfl (by decide) rfl (hoi) (hm2.src) rfl rfl (by rw [hpi]; omega) ?_
      rintro v3 w3 h3
      have ho3 := hoo.mod h3.mod (fun x hx hh => hap x hh hx)
      refine wpL_call rfl C137 (rSum_ok v3 (macPad k 0x36 ++ m) w3 h3.own.sl (by rw [List.length_append, hpi]; omega)) ?_
      rintro _ w4 ⟨rfl, hc4⟩
      refine wpL_allocA (List.replicate 32 (0 : UInt8)) I22 rfl rfl rfl ?_
      rintro w5 b5 hn5 ha5 hc5 hl5
      refine wpL_exs rfl (x_storeN 32 I22 rfl (ha5) rfl rfl (rfl) (shaSum_length _)) ?_
      rintro w6 ⟨ha6, hc6, hs6⟩
      refine wpL_nil (thenE_norm ?_)
      refine wpE_seq ?_
      refine wpE_region ?_
      refine wpL_value rfl x_move ?_
      have hc36 : Chg [] w3 w6 := (hc4.tr hc5).t1 hc6 (by have := hc4.1; omega)
      have ho6 := ho3.mod0 hc36
      refine wpL_value rfl (x_arr_full Tryz.underlying22 I5 rfl) ?_
      refine wpL_append Tryz.underlying41 Tryz.underlying41 I5 (.inr ⟨_, rfl⟩) rfl rfl rfl (by decide) rfl (ho6) ((ha6.sl (n := 32) (c := 32) (shaSum_length _) (Nat.le_refl _)).src) rfl rfl (by rw [hpo, shaSum_length]; decide) ?_
      rintro v7 w7 h7
      have h7l : (macPad k 0x5c ++ shaSum (macPad k 0x36 ++ m)).length = 96 := by rw [List.length_append, hpo, shaSum_length]
      refine wpL_call rfl C137 (rSum_ok v7 (macPad k 0x5c ++ shaSum (macPad k 0x36 ++ m)) w7 h7.own.sl (by rw [h7l]; decide)) ?_
      rintro _ w8 ⟨rfl, hc8⟩
      have hc13 : Chg [] w1 w3 := hc2.t0 h3.mod hii.ge
      have hc17 : Chg [] w1 w7 := (hc13.tr hc36).t0 h7.mod hio.ge
      refine wpL_exs rfl (x_storeN 32 I22 rfl ((ha1.chg0 hc17).chg0 hc8) rfl rfl (rfl) (shaSum_length _)) ?_
      rintro w9 ⟨ha9, hc9, hs9⟩
      refine wpL_nil (thenE_norm ?_)
      refine wpE_ret (fin_retR ?_)
      rw [← macL_def] at ha9
      exact ⟨[arrV (macL k m)], ⟨⟨_, rfl, run_loadN 32 Tryz.underlying22 rfl I22 rfl ha9 (macL_length _ _)⟩, trivial⟩, rfl, ((hc1.tr hc17).tr hc8).t1 hc9 hn1⟩
theorem rExpand_ok (k : List UInt8) (hkl : k.length = 32) (iv : Value) (info : List UInt8) (w : World) (hi : Sl w iv info) (hil : info.length ≤ 700000000) :
    Ret Tryz.prog 106 #[arrV k, iv, .int .i64 32] w fun v w' => (∃ p c, v = .slice p 32 c) ∧ Sl w' v (macL k (info ++ [1])) ∧ Chg [] w w' := by
  have hob17 := hi.form rfl
  obtain ⟨ip, ic, rfl⟩ := hob17
  refine enter [6] Tryz.func106 rfl rfl (Nat.le_of_ble_eq_true rfl) ?_
  refine wpE_seq ?_
  refine wpE_region ?_
  refine wpL_boxA (l := k) rfl rfl ?_
  rintro w1 b1 hn1 ha1 hc1 hl1
  refine wpL_value rfl x_assign ?_
  refine wpL_nil (thenE_norm ?_)
  refine wpE_seq ?_
  refine wpE_region ?_
  refine wpL_value rfl x_move (wpL_value rfl (x_min rfl rfl) (wpL_value rfl (x_max rfl rfl) (wpL_value rfl x_assign ?_)))
  refine wpL_nil (thenE_norm ?_)
  refine wpE_seq ?_
  refine wpE_region ?_
  refine wpL_value rfl x_assign (wpL_value rfl x_assign ?_)
  refine wpL_nil (thenE_norm ?_)
  refine wpE_seq ?_
  refine wpE_seq ?_
  refine wpE_region ?_
  refine wpL_value rfl x_assign ?_
  refine wpL_nil (thenE_norm ?_)
  refine wpE_block ?_
  have hilt := hi.lt
  refine wpE_loop [7, 8, 9] [7, 8, 9, 10, 11, 15, 16, 17, 18, 19, 20, 21, 22, 23, 24, 25, 26, 27, 28, 29, 30, 31, 32, 33, 34, 35, 36] (fun n vs w' => ∃ (L : Nat) (p : Option Addr) (c : Nat) (v8 : Value) (i : Int), vs = [.slice p L c, v8, .int .i64 i] ∧ Chg [] w1 w' ∧ ((n = 1 ∧ L = 0 ∧ p = none ∧ c = 0 ∧ v8 = .slice none 0 0 ∧ i = 1) ∨ (n = 0 ∧ L = 32 ∧ Own w' (.slice p L c) (macL k (info ++ [1])) ∧ i = 2))) (1) (by kernel_rfl) ?_ ?_
  · exact ⟨0, none, 0, .slice none 0 0, 1, rfl, Chg.refl _, .inl ⟨rfl, rfl, rfl, rfl, rfl, rfl⟩⟩
  · rintro n vs J w2 ⟨L, p, c, v8, i, rfl, hc2, hor⟩
    refine wpE_seq ?_
    refine wpE_seq ?_
    refine wpE_region ?_
    refine wpL_value rfl x_move (wpL_value rfl (x_len_slice rfl Tryz.underlying41) (wpL_value rfl x_move (wpL_value rfl (x_lss rfl rfl) ?_)))
    refine wpL_nil (thenE_norm ?_)
    refine wpE_cond_d rfl (fun h => ?_) (fun h => ?_)
    · skip
      refine wpE_skip (thenE_norm ?_)
      refine wpE_seq ?_
      refine wpE_block ?_
      refine wpE_seq ?_
      refine wpE_region ?_
      refine wpL_value rfl x_move ?_
      obtain ⟨rfl, rfl, rfl, rfl, rfl, rfl⟩ : n = 1 ∧ L = 0 ∧ p = none ∧ c = 0 ∧ v8 = .slice none 0 0 ∧ i = 1 := by
        rcases hor with h1 | ⟨_, h1, _⟩
        · exact h1
        · omega
      refine wpL_append Tryz.underlying41 Tryz.underlying41 I5 (.inr ⟨_, rfl⟩) rfl rfl rfl (by decide) rfl (Own.nil w2) ((Sl.nil (α := UInt8) w2 0).src) rfl rfl (by simp) ?_
      rintro v3 w3 h3
      refine wpL_value rfl x_move ?_
      have hob18 := h3.step hc2 In.nil
      obtain ⟨ho3, hc3, hi3⟩ := hob18
      refine wpL_append Tryz.underlying41 Tryz.underlying41 I5 (.inr ⟨_, rfl⟩) rfl rfl rfl (by decide) rfl (ho3) ((hi.mod0 (hc1.tr hc3)).src) rfl rfl (by simp; omega) ?_
      rintro v4 w4 h4
      refine wpL_value rfl x_move (wpL_value rfl (x_conv8u rfl Tryz.underlying3 Tryz.underlying5) ?_)
      have hob19 := h4.step hc3 hi3
      obtain ⟨ho4, hc4, hi4⟩ := hob19
      refine wpL_push ((1 : UInt8)) Tryz.underlying41 I5 rfl rfl rfl (by decide) (by decide) rfl rfl rfl rfl (ho4) (fun _ => rfl) (by simp; omega) ?_
      rintro s5 v5 w5 h5
      refine wpL_value rfl x_assign ?_
      refine wpL_nil (thenE_norm ?_)
      refine wpE_seq ?_
      refine wpE_region ?_
      have hob20 := h5.step hc4 hi4
      obtain ⟨ho5, hc5, hi5⟩ := hob20
      rw [List.nil_append, List.nil_append] at ho5
      refine wpL_value rfl (x_arr_full Tryz.underlying23 I5 rfl) ?_
      refine wpL_value rfl x_move ?_
      refine wpL_call rfl C121 (rMac_ok _ v5 k _ w5 ((ha1.chg0 hc5).sl (n := 32) (c := 32) hkl (Nat.le_refl _)) ho5.sl (by omega) (by simp; omega)) ?_
      rintro _ w6 ⟨rfl, hc6⟩
      refine wpL_allocA (List.replicate 32 (0 : UInt8)) I22 rfl rfl rfl ?_
      rintro w7 b7 hn7 ha7 hc7 hl7
      refine wpL_exs rfl (x_storeN 32 I22 rfl (ha7) rfl rfl (rfl) (macL_length _ _)) ?_
      rintro w8 ⟨ha8, hc8, hs8⟩
      refine wpL_nil (thenE_norm ?_)
      refine wpE_seq ?_
      refine wpE_region ?_
      refine wpL_value rfl (x_arr_full Tryz.underlying22 I5 rfl) ?_
      have hc8' : Chg [] w1 w8 := ((hc5.tr hc6).tr hc7).t1 hc8 (by have := hc5.1; have := hc6.1; omega)
      refine wpL_append Tryz.underlying41 Tryz.underlying41 I5 (.inr ⟨_, rfl⟩) rfl rfl rfl (by decide) rfl (Own.nil w8) ((ha8.sl (n := 32) (c := 32) (macL_length _ _) (Nat.le_refl _)).src) rfl rfl (by simp [macL_length]) ?_
      rintro v9 w9 h9
      refine wpL_value rfl x_assign ?_
      refine wpL_nil (thenE_norm ?_)
      refine wpE_region ?_
      refine wpL_value rfl x_move (wpL_value rfl x_move ?_)
      have hob21 := h9.step hc8' In.nil
      obtain ⟨ho9, hc9, hi9⟩ := hob21
      rw [List.nil_append] at ho9
      refine wpL_append Tryz.underlying41 Tryz.underlying41 I5 (.inr ⟨_, rfl⟩) rfl rfl rfl (by decide) rfl (Own.nil w9) (ho9.sl.src) rfl rfl (by simp [macL_length]) ?_
      rintro va wa ha
      refine wpL_value rfl x_assign ?_
      refine wpL_nil (blockE_norm (thenE_norm ?_))
      refine wpE_region ?_
      refine wpL_value rfl x_move (wpL_value rfl (x_add64 rfl rfl (by omega)) (wpL_value rfl x_assign ?_))
      refine wpL_nil (thenE_norm ?_)
      have hob22 := ha.step hc9 In.nil
      obtain ⟨hoa, hca, hia⟩ := hob22
      rw [List.nil_append] at hoa
      have hob23 := hoa.form (n := 32) (macL_length _ _)
      obtain ⟨pa, ca, rfl⟩ := hob23
      refine Exists.intro (0) (And.intro (by omega) ?_)
      exact ⟨32, pa, ca, v9, 2, rfl, hca, .inr ⟨rfl, rfl, hoa, rfl⟩⟩
    · skip
      refine wpE_exit (thenE_exit (thenE_exit (blockE_exit (thenE_norm ?_))))
      refine wpE_seq ?_
      refine wpE_region ?_
      refine wpL_value rfl x_move (wpL_value rfl x_move ?_)
      obtain ⟨h0, rfl, ho2, rfl⟩ : n = 0 ∧ L = 32 ∧ Own w2 (.slice p L c) (macL k (info ++ [1])) ∧ i = 2 := by
        rcases hor with ⟨_, h1, _⟩ | h1
        · omega
        · exact h1
      refine wpL_ex rfl (x_upto 32 Tryz.underlying41 I5 ho2.sl rfl rfl (by omega) (Nat.le_of_eq (macL_length _ _).symm)) ?_
      rintro _ ⟨⟨p3, c3, rfl⟩, hs3, hbl3⟩
      refine wpL_value rfl x_assign ?_
      refine wpL_nil (thenE_norm ?_)
      refine wpE_ret (fin_ret ?_)
      rw [List.take_of_length_le (Nat.le_of_eq (macL_length _ _))] at hs3
      exact ⟨⟨_, _, rfl⟩, hs3, hc1.tr hc2⟩
theorem rDerive_ok (k : List UInt8) (hkl : k.length = 32) (label : List UInt8) (n : UInt32) (nn : Nat) (hnn : n.toNat = nn) (w : World) (hl : label.length ≤ 100000000) :
    Ret Tryz.prog 79 #[arrV k, str label, .int .u32 n.toNat] w fun v w' => v = arrV (deriveL k label nn) ∧ Chg [] w w' := by
  subst hnn
  refine enterR [.cell 6 23] Tryz.func79 rfl rfl (Nat.le_of_ble_eq_true rfl) ?_
  refine wpE_seq ?_
  refine wpE_region ?_
  refine wpL_boxA (l := k) rfl rfl ?_
  rintro w1 b1 hn1 ha1 hc1 hl1
  refine wpL_allocA (List.replicate 32 (0 : UInt8)) I23 rfl rfl rfl ?_
  rintro w2 b2 hn2 ha2 hc2 hl2
  refine wpL_nil (thenE_norm ?_)
  refine wpE_seq ?_
  have hA1 : Arr w2 b1 k := ha1.chg0 hc2
  refine wpE_draw mixed (.read 0 (.pure 1 (.pure 3 (.pure 4 (.eff 2 [0] (.eff 5 [0] (.eff 6 [] (.pure 7 .nil)))))))) (by kernel_rfl) ?_
  refine wpP_rdA 32 rfl rfl rfl Tryz.underlying23 rfl I23 rfl rfl (hA1) (hkl) ?_
  refine wpP_pure rfl rfl rfl (fun _ => x_move) ?_
  refine wpP_pure rfl rfl rfl (fun _ => x_move) ?_
  refine wpP_pure rfl rfl rfl (fun _ => (x_conv64u rfl Tryz.underlying34 Tryz.underlying35)) ?_
  refine wpP_exw rfl rfl rfl (x_s2b Tryz.underlying9 Tryz.underlying41 Tryz.underlying5 rfl) ?_
  rintro v4 w4 ⟨ho4, hc4, hi4⟩
  have hc4 : Chg [] w2 w4 := hc4
  refine ⟨⟨hA1.chg0 hc4, trivial⟩, ?_⟩
  have h4 : (toU64 (n.toNat : Int)).toNat = n.toNat := by
    rw [toU64_nat, UInt64.toNat_ofNat']
    have := n.toNat_lt
    omega
  refine wpP_call rfl rfl rfl C99 (rPut_ok v4 label (toU64 (n.toNat : Int)) 4 w4 ho4 (by decide) (by omega)) ?_
  rintro v5 w5 ⟨ho5, hc5, hi5⟩
  have hi4 : In v4 [] w2.heap.size := hi4
  have hc5' : Chg [] w2 w5 := hc4.t0 hc5 hi4.ge
  refine ⟨⟨hA1.chg0 hc5', trivial⟩, ?_⟩
  refine wpP_call rfl rfl rfl C106 (rExpand_ok k hkl v5 _ w5 ho5.sl (by rw [List.length_append, be_length]; omega)) ?_
  rintro _ w6 ⟨⟨p6, c6, rfl⟩, hs6, hc6⟩
  refine ⟨trivial, ?_⟩
  refine wpP_pure rfl rfl rfl (fun _ => x_assign) ?_
  refine wpP_nil (thenE_norm ?_)
  refine wpE_seq ?_
  refine wpE_region ?_
  rw [h4, ← deriveL_def] at hs6
  have hm := deriveL_length k label n.toNat
  refine wpL_allocA (List.replicate 32 (0 : UInt8)) I23 rfl rfl rfl ?_
  rintro w7 b7 hn7 ha7 hc7 hl7
  refine wpL_nil (thenE_norm ?_)
  refine wpE_seq ?_
  refine wpE_seq ?_
  refine wpE_region ?_
  refine wpL_value rfl x_assign ?_
  refine wpL_nil (thenE_norm ?_)
  refine wpE_block ?_
  have k1 := hc1.1
  have k2 := hc2.1
  have k5 := hc5'.1
  have k6 := hc6.1
  have h2w7 := ((ha2.chg0 hc5').chg0 hc6).chg0 hc7
  have hs7 := hs6.mod0 hc7
  have hc07 : Chg [] w w7 := (((hc1.tr hc2).tr hc5').tr hc6).tr hc7
  refine wpE_loopF [6, 7, 8, 9] (fun q vs w' => ∃ i : Nat, vs = [.pointer (some ⟨b2, 0, none⟩), .slice p6 32 c6, .pointer (some ⟨b7, 0, none⟩), .int .i64 i] ∧ i + q = 32 ∧ Arr w' b7 ((deriveL k label n.toNat).take i ++ List.replicate (32 - i) 0) ∧ Chg [b7] w7 w') (32) ?_ ?_
  · exact ⟨0, rfl, rfl, by simpa using ha7, Chg.refl' _ _⟩
  · rintro q vs J w8 ⟨i, rfl, hi, ha8, hc8⟩
    refine wpE_seq ?_
    refine wpE_seq ?_
    refine wpE_region ?_
    refine wpL_value rfl x_move (wpL_value rfl (x_lss rfl rfl) ?_)
    refine wpL_nil (thenE_norm ?_)
    have hfl := fill_len hm (show i ≤ 32 by omega)
    have hlt6 := hs6.lt
    have hs8 := hs7.mod hc8 (fun x hx hh => by simp at hh; subst hh; have := hlt6 _ hx; omega)
    refine wpE_cond_d rfl (fun h => ?_) (fun h => ?_)
    · skip
      refine wpE_skip (thenE_norm ?_)
      refine wpE_seq ?_
      refine wpE_block ?_
      refine wpE_region ?_
      refine wpL_value rfl x_move (wpL_value rfl x_move (wpL_value rfl x_move ?_))
      have hob24 : ∃ z, q = z + 1 := ⟨q - 1, by omega⟩
      obtain ⟨q, rfl⟩ := hob24
      refine wpL_ex rfl (x_idx (i) Tryz.underlying41 I5 rfl (hs8) rfl rfl (by first | rfl | omega) (by omega)) ?_
      rintro _ ⟨bi, oi, rfl, hei, hbi⟩
      refine wpL_value rfl (x_load Tryz.underlying5 rfl rfl ((hs8.at hei (getD_some (d := 0) (by omega))).c0 rfl)) ?_
      refine wpL_value rfl (x_idxA (i) Tryz.underlying23 I5 rfl rfl (by first | rfl | omega) (by first | assumption | omega)) ?_
      refine wpL_exs rfl (x_store1 (a := (deriveL k label n.toNat).getD i 0) (k := i) I5 rfl rfl rfl rfl (ha8) rfl (by first | assumption | omega)) ?_
      rintro w9 ⟨ha9, hc9, hs9⟩
      refine wpL_nil (blockE_norm (thenE_norm ?_))
      refine wpE_region ?_
      refine wpL_value rfl x_move (wpL_value rfl (x_add64 rfl rfl (by omega)) (wpL_value rfl x_assign ?_))
      refine wpL_nil (thenE_norm ?_)
      refine Exists.intro (q) (And.intro (by omega) ?_)
      refine ⟨i + 1, rfl, by omega, ?_, hc8.tr hc9⟩
      rw [← fill_step hm (by omega) (getD_some (d := 0) (by omega))]
      exact ha9
    · skip
      refine wpE_exit (thenE_exit (thenE_exit (blockE_exit (thenE_norm ?_))))
      refine wpE_seq ?_
      refine wpE_region ?_
      have hob25 : i = 32 := by omega
      obtain rfl := hob25
      rw [fill_full hm] at ha8
      refine wpL_value rfl (x_loadN 32 Tryz.underlying23 rfl I23 rfl rfl (ha8) (hm)) ?_
      refine wpL_exs rfl (x_storeN 32 I23 rfl (h2w7.nb hc8 (by omega)) rfl rfl (rfl) (hm)) ?_
      rintro w9 ⟨ha9, hc9, hs9⟩
      refine wpL_nil (thenE_norm ?_)
      refine wpE_ret (fin_retR ?_)
      exact ⟨[arrV (deriveL k label n.toNat)], ⟨⟨_, rfl, run_loadN 32 Tryz.underlying23 rfl I23 rfl ha9 hm⟩, trivial⟩, rfl, (hc07.t1 hc8 (by omega)).t1 hc9 (by omega)⟩
end Go.Proofs.YtenhmbhflgnhlaaGreat
