/- every row of calls, crashes, the power going within a commit: what each tells -/
import Derived.Test.YtenhmbhflgnhlaaGreatQSha
namespace Go.Proofs.YtenhmbhflgnhlaaGreat
open Go Go.Sac
set_option maxRecDepth 100000
set_option maxHeartbeats 4000000
theorem pad_ok (kv : Value) (k : List UInt8) (c : UInt8) (w : World) (hk : Sl w kv k) (hl : k.length ≤ 64) :
    Ret Tryz.prog 143 #[kv, .int .u8 c.toNat] w fun v w' => Sl w' v (macPad k c) ∧ Chg [] w w' ∧ In v [] w.heap.size := by
  refine enter [4] Tryz.func143 rfl rfl (Nat.le_of_ble_eq_true rfl) ?_
  refine wpE_seq ?_
  refine wpE_region ?_
  refine wpL_value rfl x_assign ?_
  refine wpL_nil (thenE_norm ?_)
  refine wpE_seq ?_
  refine wpE_region ?_
  refine wpL_allocA (List.replicate 64 (0 : UInt8)) I115 rfl rfl rfl ?_
  rintro w1 b1 hn1 ha1 hc1 hl1
  refine wpL_nil (thenE_norm ?_)
  refine wpE_seq ?_
  refine wpE_region ?_
  refine wpL_value rfl (x_arr_full Tryz.underlying115 I5 rfl) ?_
  refine wpL_value rfl x_move ?_
  refine wpL_exv rfl (x_copyArr (k := 0) Tryz.underlying41 I5 rfl rfl rfl rfl ((hk.mod0 hc1).src) (ha1) (by first | (simp; done) | omega)) ?_
  rintro w2 ⟨ha2, hc2, hs2⟩
  refine wpL_nil (thenE_norm ?_)
  refine wpE_seq ?_
  refine wpE_seq ?_
  refine wpE_region ?_
  refine wpL_value rfl x_move ?_
  refine wpL_nil (thenE_norm ?_)
  refine wpE_block ?_
  have hm : spl (List.replicate 64 (0 : UInt8)) 0 (k.take (min k.length 64)) = k ++ List.replicate (64 - k.length) 0 := by
    rw [Nat.min_eq_left hl, List.take_of_length_le (Nat.le_refl _)]
    unfold spl
    rw [List.take_zero, List.nil_append, Nat.zero_add, List.drop_replicate]
  rw [hm] at ha2
  have hkl : (k ++ List.replicate (64 - k.length) (0 : UInt8)).length = 64 := by simp; omega
  have hp : macPad k c = (k ++ List.replicate (64 - k.length) (0 : UInt8)).map (· ^^^ c) := rfl
  generalize k ++ List.replicate (64 - k.length) (0 : UInt8) = l at *
  refine wpE_loop [10] [6, 10, 11, 12, 13, 14, 15, 16, 17, 18, 19] (fun n vs w' => ∃ i : Nat, vs = [.int .i64 i] ∧ i + n = 64 ∧ Arr w' b1 ((l.take i).map (· ^^^ c) ++ l.drop i) ∧ Chg [] w w') (64) (by kernel_rfl) ?_ ?_
  · exact ⟨0, rfl, rfl, by simpa using ha2, hc1.t1 hc2 hn1⟩
  · rintro n vs J w3 ⟨i, rfl, hi, ha3, hc3⟩
    refine wpE_seq ?_
    refine wpE_region ?_
    refine wpL_value rfl (x_lss rfl rfl) ?_
    refine wpL_nil (thenE_norm ?_)
    refine wpE_seq ?_
    have hil : ((l.take i).map (· ^^^ c) ++ l.drop i).length = 64 := by simp; omega
    refine wpE_cond_d rfl (fun h => ?_) (fun h => ?_)
    · skip
      refine wpE_skip (thenE_norm ?_)
      refine wpE_seq ?_
      refine wpE_block ?_
      refine wpE_seq ?_
      refine wpE_region ?_
      refine wpL_value rfl x_move (wpL_value rfl x_assign ?_)
      refine wpL_nil (thenE_norm ?_)
      refine wpE_region ?_
      refine wpL_value rfl x_move ?_
      have hob1 : ∃ q, n = q + 1 := ⟨n - 1, by omega⟩
      obtain ⟨n, rfl⟩ := hob1
      refine wpL_value rfl (x_idxA (i) Tryz.underlying115 I5 rfl rfl (by first | rfl | omega) (by first | assumption | omega)) ?_
      refine wpL_value rfl (x_load Tryz.underlying5 rfl rfl (ha3.c (map_at _ l i 0 (by omega)) rfl rfl)) ?_
      refine wpL_value rfl x_move (wpL_value rfl (x_xor8u rfl rfl) ?_)
      refine wpL_value rfl (x_idxA (i) Tryz.underlying115 I5 rfl rfl (by first | rfl | omega) (by first | assumption | omega)) ?_
      refine wpL_exs rfl (x_store1 (a := _) (k := i) I5 rfl rfl rfl rfl (ha3) rfl (by first | assumption | omega)) ?_
      rintro w4 ⟨ha4, hc4, hs4⟩
      refine wpL_nil (blockE_norm (thenE_norm ?_))
      refine wpE_region ?_
      refine wpL_value rfl (x_add64 rfl rfl (by omega)) (wpL_value rfl x_move ?_)
      refine wpL_nil (thenE_norm ?_)
      refine Exists.intro (n) (And.intro (by omega) ?_)
      refine ⟨i + 1, vs_cons (int_eq rfl) vs_nil, by omega, ?_, hc3.t1 hc4 hn1⟩
      rw [← map_step _ l i 0 (by omega)]; exact ha4
    · skip
      refine wpE_exit (thenE_exit (thenE_exit (blockE_exit (thenE_norm ?_))))
      refine wpE_seq ?_
      refine wpE_region ?_
      have hob2 : i = 64 := by omega
      obtain rfl := hob2
      refine wpL_value rfl (x_arr_full Tryz.underlying115 I5 rfl) ?_
      refine wpL_value rfl x_assign ?_
      refine wpL_nil (thenE_norm ?_)
      refine wpE_ret (fin_ret ?_)
      rw [List.take_of_length_le (by omega), List.drop_of_length_le (by omega), List.append_nil, ← hp] at ha3
      refine ⟨ha3.sl (by rw [hp]; simpa using hkl) (by decide), hc3, In.of_ge hn1⟩
theorem Mac_ok (kv mv : Value) (k m : List UInt8) (w : World) (hk : Sl w kv k) (hm : Sl w mv m) (hl : k.length ≤ 64) (hml : m.length ≤ 900000000) :
    Ret Tryz.prog 123 #[kv, mv] w fun v w' => v = arrV (macL k m) ∧ Chg [] w w' := by
  have hob3 := hk.form rfl
  obtain ⟨kp, kc, rfl⟩ := hob3
  have hmlt := hm.lt
  refine enterR [.cell 4 22] Tryz.func123 rfl rfl (Nat.le_of_ble_eq_true rfl) ?_
  refine wpE_seq ?_
  refine wpE_region ?_
  refine wpL_allocA (List.replicate 32 (0 : UInt8)) I22 rfl rfl rfl ?_
  rintro w1 b1 hn1 ha1 hc1 hl1
  refine wpL_nil (thenE_norm ?_)
  refine wpE_seq ?_
  refine wpE_seq ?_
  refine wpE_region ?_
  refine wpL_value rfl x_move (wpL_value rfl (x_len_slice rfl Tryz.underlying41) (wpL_value rfl (x_gtr rfl rfl) ?_))
  refine wpL_nil (thenE_norm ?_)
  refine wpE_cond_df rfl (by omega) ?_
  refine wpE_skip (thenE_norm ?_)
  refine wpE_seq ?_
  refine wpE_region ?_
  refine wpL_call rfl C141 (New_ok w1) ?_
  rintro _ w2 ⟨b6, rfl, hh2⟩
  refine wpL_value rfl x_assign ?_
  refine wpL_nil (thenE_norm ?_)
  refine wpE_seq ?_
  refine wpE_region ?_
  refine wpL_value rfl x_move (wpL_value rfl x_move ?_)
  refine wpL_call rfl C143 (pad_ok _ k 0x36 w2 (hk.mod0 (hc1.tr hh2.1)) hl) ?_
  rintro v3 w3 ⟨hs3, hc3, hi3⟩
  refine wpL_call rfl C142 (Write_ok w1 w3 b6 [] _ v3 (hh2.chg0 hc3) hs3 (fun h => by have := hi3.ge _ h; have := hh2.lt; omega) (by rw [macPad_length k _ hl]; decide)) ?_
  rintro _ w4 hh4
  refine wpL_nil (thenE_norm ?_)
  refine wpE_seq ?_
  refine wpE_region ?_
  refine wpL_value rfl x_move (wpL_value rfl x_move ?_)
  refine wpL_call rfl C142 (Write_ok w1 w4 b6 _ m mv hh4 (hm.mod0 (hc1.tr hh4.1)) (fun h => by have := hmlt _ h; have := hh2.2.1; omega) (by rw [List.nil_append, macPad_length k _ hl]; omega)) ?_
  rintro _ w5 hh5
  refine wpL_nil (thenE_norm ?_)
  refine wpE_seq ?_
  refine wpE_region ?_
  refine wpL_value rfl x_move ?_
  refine wpL_call rfl C144 (HSum_ok w1 w5 b6 _ hh5 (by rw [List.nil_append, List.length_append, macPad_length k _ hl]; omega)) ?_
  rintro _ w6 ⟨rfl, hc6⟩
  refine wpL_allocA (List.replicate 32 (0 : UInt8)) I22 rfl rfl rfl ?_
  rintro w7 b7 hn7 ha7 hc7 hl7
  refine wpL_exs rfl (x_storeN 32 I22 rfl (ha7) rfl rfl (rfl) (shaSum_length _)) ?_
  rintro w8 ⟨ha8, hc8, hs8⟩
  refine wpL_nil (thenE_norm ?_)
  refine wpE_seq ?_
  refine wpE_region ?_
  have hcw8 : Chg [] w w8 := (((hc1.tr hh5.1).tr hc6).tr hc7).t1 hc8 (by have := hh5.1.1; have := hc6.1; omega)
  refine wpL_call rfl C141 (New_ok w8) ?_
  rintro _ w9 ⟨b8, rfl, hh9⟩
  refine wpL_value rfl x_assign ?_
  refine wpL_nil (thenE_norm ?_)
  refine wpE_seq ?_
  refine wpE_region ?_
  refine wpL_value rfl x_move (wpL_value rfl x_move ?_)
  refine wpL_call rfl C143 (pad_ok _ k 0x5c w9 (hk.mod0 (hcw8.tr hh9.1)) hl) ?_
  rintro va wa ⟨hsa, hca, hia⟩
  refine wpL_call rfl C142 (Write_ok w8 wa b8 [] _ va (hh9.chg0 hca) hsa (fun h => by have := hia.ge _ h; have := hh9.lt; omega) (by rw [macPad_length k _ hl]; decide)) ?_
  rintro _ wb hhb
  refine wpL_nil (thenE_norm ?_)
  refine wpE_seq ?_
  refine wpE_region ?_
  refine wpL_value rfl x_move ?_
  refine wpL_value rfl (x_arr_full Tryz.underlying22 I5 rfl) ?_
  refine wpL_call rfl C142 (Write_ok w8 wb b8 _ _ _ hhb ((ha8.chg0 hhb.1).sl (n := 32) (c := 32) (shaSum_length _) (Nat.le_refl _)) (nblk (by have := hh9.2.1; omega)) (by rw [List.nil_append, macPad_length k _ hl, shaSum_length]; decide)) ?_
  rintro _ wc hhc
  refine wpL_nil (thenE_norm ?_)
  refine wpE_seq ?_
  refine wpE_region ?_
  refine wpL_value rfl x_move ?_
  refine wpL_call rfl C144 (HSum_ok w8 wc b8 _ hhc (by rw [List.nil_append, List.length_append, macPad_length k _ hl, shaSum_length]; decide)) ?_
  rintro _ wd ⟨rfl, hcd⟩
  refine wpL_exs rfl (x_storeN 32 I22 rfl (((((((ha1.chg0 hh5.1).chg0 hc6).chg0 hc7).nb hc8 (by have := hh5.1.1; have := hc6.1; omega)).chg0 hhc.1).chg0 hcd)) rfl rfl (rfl) (shaSum_length _)) ?_
  rintro we ⟨hae, hce, hse⟩
  refine wpL_nil (thenE_norm ?_)
  refine wpE_ret (fin_retR ?_)
  simp only [List.nil_append] at hae
  rw [← macL_def] at hae
  exact ⟨[arrV (macL k m)], ⟨⟨_, rfl, run_loadN 32 Tryz.underlying22 rfl I22 rfl hae (macL_length _ _)⟩, trivial⟩, rfl, ((hcw8.tr hhc.1).tr hcd).t1 hce hn1⟩
theorem Expand_ok (k : List UInt8) (hkl : k.length = 32) (iv : Value) (info : List UInt8) (w : World) (hi : Sl w iv info) (hil : info.length ≤ 800000000) :
    Ret Tryz.prog 134 #[arrV k, iv, .int .i64 32] w fun v w' => Sl w' v (macL k (info ++ [1])) ∧ Chg [] w w' := by
  refine enter [6] Tryz.func134 rfl rfl (Nat.le_of_ble_eq_true rfl) ?_
  refine wpE_seq ?_
  refine wpE_region ?_
  refine wpL_boxA (l := k) rfl rfl ?_
  rintro w1 b1 hn1 ha1 hc1 hl1
  refine wpL_value rfl x_assign ?_
  refine wpL_nil (thenE_norm ?_)
  refine wpE_seq ?_
  refine wpE_region ?_
  refine wpL_value rfl x_move (wpL_value rfl (x_max rfl rfl) (wpL_value rfl (x_min rfl rfl) (wpL_value rfl x_assign ?_)))
  refine wpL_nil (thenE_norm ?_)
  refine wpE_seq ?_
  refine wpE_region ?_
  refine wpL_value rfl x_assign (wpL_value rfl x_assign ?_)
  refine wpL_nil (thenE_norm ?_)
  refine wpE_seq ?_
  refine wpE_seq ?_
  refine wpE_region ?_
  refine wpL_value rfl x_assign ?_
  refine wpL_nil (thenE_norm ?_)
  refine wpE_block ?_
  have hilt := hi.lt
  refine wpE_loop [7, 8, 9] [7, 8, 9, 10, 11, 15, 16, 17, 18, 19, 20, 21, 22, 23, 24, 25, 26, 27, 28, 29, 30, 31, 32, 33, 34, 35] (fun n vs w' => ∃ (L : Nat) (p : Option Addr) (c : Nat) (v8 : Value) (i : Int), vs = [.slice p L c, v8, .int .i64 i] ∧ Chg [] w1 w' ∧ ((n = 1 ∧ L = 0 ∧ p = none ∧ c = 0 ∧ v8 = .slice none 0 0 ∧ i = 1) ∨ (n = 0 ∧ L = 32 ∧ Own w' (.slice p L c) (macL k (info ++ [1])) ∧ i = 2))) (1) (by kernel_rfl) ?_ ?_
  · exact ⟨0, none, 0, .slice none 0 0, 1, rfl, Chg.refl _, .inl ⟨rfl, rfl, rfl, rfl, rfl, rfl⟩⟩
  · rintro n vs J w2 ⟨L, p, c, v8, i, rfl, hc2, hor⟩
    refine wpE_seq ?_
    refine wpE_seq ?_
    refine wpE_region ?_
    refine wpL_value rfl x_move (wpL_value rfl (x_len_slice rfl Tryz.underlying41) (wpL_value rfl x_move (wpL_value rfl (x_lss rfl rfl) ?_)))
    refine wpL_nil (thenE_norm ?_)
    refine wpE_cond_d rfl (fun h => ?_) (fun h => ?_)
    · skip
      refine wpE_skip (thenE_norm ?_)
      refine wpE_seq ?_
      refine wpE_block ?_
      refine wpE_seq ?_
      refine wpE_region ?_
      refine wpL_value rfl x_move ?_
      obtain ⟨rfl, rfl, rfl, rfl, rfl, rfl⟩ : n = 1 ∧ L = 0 ∧ p = none ∧ c = 0 ∧ v8 = .slice none 0 0 ∧ i = 1 := by
        rcases hor with h1 | ⟨_, h1, _⟩
        · exact h1
        · omega
      refine wpL_append Tryz.underlying41 Tryz.underlying41 I5 (.inr ⟨_, rfl⟩) rfl rfl rfl (by decide) rfl (Own.nil w2) ((Sl.nil (α := UInt8) w2 0).src) rfl rfl (by simp) ?_
      rintro v3 w3 h3
      refine wpL_value rfl x_move ?_
      have hob4 := h3.step hc2 In.nil
      obtain ⟨ho3, hc3, hi3⟩ := hob4
      refine wpL_append Tryz.underlying41 Tryz.underlying41 I5 (.inr ⟨_, rfl⟩) rfl rfl rfl (by decide) rfl (ho3) ((hi.mod0 (hc1.tr hc3)).src) rfl rfl (by simp; omega) ?_
      rintro v4 w4 h4
      refine wpL_value rfl x_move (wpL_value rfl (x_conv8u rfl Tryz.underlying3 Tryz.underlying5) ?_)
      have hob5 := h4.step hc3 hi3
      obtain ⟨ho4, hc4, hi4⟩ := hob5
      refine wpL_push ((1 : UInt8)) Tryz.underlying41 I5 rfl rfl rfl (by decide) (by decide) rfl rfl rfl rfl (ho4) (fun _ => rfl) (by simp; omega) ?_
      rintro s5 v5 w5 h5
      refine wpL_value rfl x_assign ?_
      refine wpL_nil (thenE_norm ?_)
      refine wpE_seq ?_
      refine wpE_region ?_
      have hob6 := h5.step hc4 hi4
      obtain ⟨ho5, hc5, hi5⟩ := hob6
      refine wpL_value rfl (x_arr_full Tryz.underlying23 I5 rfl) ?_
      refine wpL_value rfl x_move ?_
      refine wpL_call rfl C123 (Mac_ok _ v5 k _ w5 ((ha1.chg0 hc5).sl (n := 32) (c := 32) hkl (Nat.le_refl _)) ho5.sl (by omega) (by simp; omega)) ?_
      rintro _ w6 ⟨rfl, hc6⟩
      refine wpL_allocA (List.replicate 32 (0 : UInt8)) I22 rfl rfl rfl ?_
      rintro w7 b7 hn7 ha7 hc7 hl7
      refine wpL_exs rfl (x_storeN 32 I22 rfl (ha7) rfl rfl (rfl) (macL_length _ _)) ?_
      rintro w8 ⟨ha8, hc8, hs8⟩
      refine wpL_nil (thenE_norm ?_)
      refine wpE_seq ?_
      refine wpE_region ?_
      refine wpL_value rfl (x_arr_full Tryz.underlying22 I5 rfl) ?_
      refine wpL_value rfl x_assign ?_
      refine wpL_nil (thenE_norm ?_)
      refine wpE_region ?_
      refine wpL_value rfl x_move (wpL_value rfl x_move ?_)
      have hc8' : Chg [] w1 w8 := ((hc5.tr hc6).tr hc7).t1 hc8 (by have := hc5.1; have := hc6.1; omega)
      refine wpL_append Tryz.underlying41 Tryz.underlying41 I5 (.inr ⟨_, rfl⟩) rfl rfl rfl (by decide) rfl (Own.nil w8) ((ha8.sl (n := 32) (c := 32) (macL_length _ _) (Nat.le_refl _)).src) rfl rfl (by simp [macL_length]) ?_
      rintro v9 w9 h9
      refine wpL_value rfl x_assign ?_
      refine wpL_nil (blockE_norm (thenE_norm ?_))
      refine wpE_region ?_
      refine wpL_value rfl x_move (wpL_value rfl (x_add64 rfl rfl (by omega)) (wpL_value rfl x_assign ?_))
      refine wpL_nil (thenE_norm ?_)
      have hob7 := h9.step hc8' In.nil
      obtain ⟨ho9, hc9, hi9⟩ := hob7
      have hob8 := ho9.form (n := 32) (by rw [List.nil_append, macL_length])
      obtain ⟨p9, c9, rfl⟩ := hob8
      simp only [List.nil_append] at ho9
      refine Exists.intro (0) (And.intro (by omega) ?_)
      exact ⟨32, p9, c9, .slice (some ⟨b7, 0, none⟩) 32 32, 2, rfl, hc9, .inr ⟨rfl, rfl, ho9, rfl⟩⟩
    · skip
      refine wpE_exit (thenE_exit (thenE_exit (blockE_exit (thenE_norm ?_))))
      refine wpE_seq ?_
      refine wpE_region ?_
      refine wpL_value rfl x_move (wpL_value rfl x_move ?_)
      obtain ⟨h0, rfl, ho2, rfl⟩ : n = 0 ∧ L = 32 ∧ Own w2 (.slice p L c) (macL k (info ++ [1])) ∧ i = 2 := by
        rcases hor with ⟨_, h1, _⟩ | h1
        · omega
        · exact h1
      refine wpL_ex rfl (x_upto 32 Tryz.underlying41 I5 ho2.sl rfl rfl (by omega) (Nat.le_of_eq (macL_length _ _).symm)) ?_
      rintro _ ⟨⟨p3, c3, rfl⟩, hs3, hbl3⟩
      refine wpL_value rfl x_assign ?_
      refine wpL_nil (thenE_norm ?_)
      refine wpE_ret (fin_ret ?_)
      rw [List.take_of_length_le (Nat.le_of_eq (macL_length _ _))] at hs3
      exact ⟨hs3, hc1.tr hc2⟩
theorem Derive_ok (k : List UInt8) (hkl : k.length = 32) (label : List UInt8) (n : UInt32) (nn : Nat) (hnn : n.toNat = nn) (w : World) (hl : label.length ≤ 100000000) :
    Ret Tryz.prog 117 #[arrV k, str label, .int .u32 n.toNat] w fun v w' => v = arrV (deriveL k label nn) ∧ Chg [] w w' := by
  subst hnn
  refine enterR [.cell 6 23] Tryz.func117 rfl rfl (Nat.le_of_ble_eq_true rfl) ?_
  refine wpE_seq ?_
  refine wpE_region ?_
  refine wpL_boxA (l := k) rfl rfl ?_
  rintro w1 b1 hn1 ha1 hc1 hl1
  refine wpL_allocA (List.replicate 32 (0 : UInt8)) I23 rfl rfl rfl ?_
  rintro w2 b2 hn2 ha2 hc2 hl2
  refine wpL_nil (thenE_norm ?_)
  refine wpE_seq ?_
  refine wpE_region ?_
  refine wpL_allocA (List.replicate 32 (0 : UInt8)) I23 rfl rfl rfl ?_
  rintro w3 b3 hn3 ha3 hc3 hl3
  refine wpL_nil (thenE_norm ?_)
  refine wpE_seq ?_
  refine wpE_draw mixed (.pure 0 (.read 1 (.pure 2 (.pure 4 (.pure 5 (.eff 3 [1] (.eff 6 [1] (.eff 7 [] (.eff 8 [] .nil))))))))) (by kernel_rfl) ?_
  refine wpP_pure rfl rfl rfl (fun _ => x_arr_full Tryz.underlying23 I5 rfl) ?_
  have hA1 : Arr w3 b1 k := (ha1.chg0 hc2).chg0 hc3
  refine wpP_rdA 32 rfl rfl rfl Tryz.underlying23 rfl I23 rfl rfl (hA1) (hkl) ?_
  refine wpP_pure rfl rfl rfl (fun _ => x_move) ?_
  refine wpP_pure rfl rfl rfl (fun _ => x_move) ?_
  refine wpP_pure rfl rfl rfl (fun _ => (x_conv64u rfl Tryz.underlying34 Tryz.underlying35)) ?_
  refine wpP_exw rfl rfl rfl (x_s2b Tryz.underlying9 Tryz.underlying41 Tryz.underlying5 rfl) ?_
  rintro v4 w4 ⟨ho4, hc4, hi4⟩
  have hc4 : Chg [] w3 w4 := hc4
  refine ⟨⟨hA1.chg0 hc4, trivial⟩, ?_⟩
  have h4 : (toU64 (n.toNat : Int)).toNat = n.toNat := by
    rw [toU64_nat, UInt64.toNat_ofNat']
    have := n.toNat_lt
    omega
  refine wpP_call rfl rfl rfl C64 (Put_ok v4 label (toU64 (n.toNat : Int)) 4 w4 ho4 (by decide) (by omega)) ?_
  rintro v5 w5 ⟨ho5, hc5, hi5⟩
  have hi4 : In v4 [] w3.heap.size := hi4
  have hc5' : Chg [] w3 w5 := hc4.t0 hc5 hi4.ge
  refine ⟨⟨hA1.chg0 hc5', trivial⟩, ?_⟩
  refine wpP_call rfl rfl rfl C134 (Expand_ok k hkl v5 _ w5 ho5.sl (by rw [List.length_append, be_length]; omega)) ?_
  rintro v6 w6 ⟨hs6, hc6⟩
  refine ⟨trivial, ?_⟩
  rw [h4, ← deriveL_def] at hs6
  have hm := deriveL_length k label n.toNat
  refine wpP_exv rfl rfl rfl (x_copyArr (k := 0) Tryz.underlying41 I5 rfl rfl rfl rfl (hs6.src) ((ha3.chg0 hc5').chg0 hc6) (by first | (simp; done) | omega)) ?_
  rintro w7 ⟨ha7, hc7, hs7⟩
  refine ⟨trivial, ?_⟩
  refine wpP_nil (thenE_norm ?_)
  refine wpE_seq ?_
  refine wpE_region ?_
  rw [hm, Nat.min_self, List.take_of_length_le (Nat.le_of_eq hm), spl_all (by rw [hm]; rfl)] at ha7
  refine wpL_value rfl (x_loadN 32 Tryz.underlying23 rfl I23 rfl rfl (ha7) (hm)) ?_
  refine wpL_exs rfl (x_storeN 32 I23 rfl (((((ha2.chg0 hc3).chg0 hc5').chg0 hc6).nb hc7 (by omega))) rfl rfl (rfl) (hm)) ?_
  rintro w8 ⟨ha8, hc8, hs8⟩
  refine wpL_nil (thenE_norm ?_)
  refine wpE_ret (fin_retR ?_)
  exact ⟨[arrV (deriveL k label n.toNat)], ⟨⟨_, rfl, run_loadN 32 Tryz.underlying23 rfl I23 rfl ha8 hm⟩, trivial⟩, rfl, (((((hc1.tr hc2).tr hc3).tr hc5').tr hc6).t1 hc7 (by omega)).t1 hc8 (by omega)⟩
end Go.Proofs.YtenhmbhflgnhlaaGreat

