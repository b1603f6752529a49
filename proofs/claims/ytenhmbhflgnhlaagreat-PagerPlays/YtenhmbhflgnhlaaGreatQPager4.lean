/- every row of calls, crashes, the power going within a commit: what each tells -/
import Derived.Test.YtenhmbhflgnhlaaGreatQPager3
import Derived.Test.YtenhmbhflgnhlaaGreatQLaid
import Derived.Test.YtenhmbhflgnhlaaGreatSac1
namespace Go.Proofs.YtenhmbhflgnhlaaGreat
open Go Go.Sac
set_option maxRecDepth 100000
set_option maxHeartbeats 4000000
theorem bytes_ok (w : World) (k : List UInt8) (hk : k.length = 32) (s : Sup) (u r : Nat) (hs : s.Ok) (hu : SetAt w u s.used) (hr : SetAt w r s.written) :
    Ret Tryz.prog 105 #[supV s u r, arrV k] w fun v w' => Own w' v (superB k s) ∧ Chg [] w w' ∧ In v [] w.heap.size := by
  have htx := hs.txt
  have hb8 : ∀ n, (be 8 n).length = 8 := be_length 8
  have hb4 : ∀ n, (be 4 n).length = 4 := be_length 4
  have hb2 : ∀ n, (be 2 n).length = 2 := be_length 2
  refine enter [4] Tryz.func105 rfl rfl (Nat.le_of_ble_eq_true rfl) ?_
  refine wpE_seq ?_
  refine wpE_region ?_
  refine wpL_exw rfl (x_boxB (l := supC s u r) rfl rfl) ?_
  rintro _ w1 ⟨q, rfl, hq, hB, hc1, hl1⟩
  refine wpL_boxA (l := k) rfl rfl ?_
  rintro w2 b2 hn2 ha2 hc2 hl2
  refine wpL_value rfl x_assign ?_
  refine wpL_nil (thenE_norm ?_)
  refine wpE_seq ?_
  have hB2 := hB.chg0 hc2
  refine wpE_draw mixed (.pure 0 (.read 1 (.pure 3 (.read 4 (.pure 5 (.pure 7 (.pure 8 (.read 9 (.pure 10 (.eff 2 [4, 9] (.eff 6 [9] (.eff 11 [] (.pure 12 .nil))))))))))))) (by kernel_rfl) ?_
  refine wpP_pure rfl rfl rfl (fun _ => (x_fieldAddr Tryz.underlying125 rfl I35 rfl rfl)) ?_
  refine wpP_rd rfl rfl rfl Tryz.underlying35 rfl rfl (hB2.c (off := 4) rfl) ?_
  refine wpP_pure rfl rfl rfl (fun _ => (x_fieldAddr Tryz.underlying125 rfl I34 rfl rfl)) ?_
  refine wpP_rd rfl rfl rfl Tryz.underlying34 rfl rfl (hB2.c (off := 5) rfl) ?_
  refine wpP_pure rfl rfl rfl (fun _ => (x_conv64u rfl Tryz.underlying34 Tryz.underlying35)) ?_
  refine wpP_pure rfl rfl rfl (fun _ => (x_fieldAddr Tryz.underlying125 rfl I123 rfl rfl)) ?_
  refine wpP_pure rfl rfl rfl (fun _ => (x_fieldAddr Tryz.underlying123 rfl I34 rfl rfl)) ?_
  refine wpP_rd rfl rfl rfl Tryz.underlying34 rfl rfl (hB2.c (off := 0) rfl) ?_
  refine wpP_pure rfl rfl rfl (fun _ => (x_conv64u rfl Tryz.underlying34 Tryz.underlying35)) ?_
  have heU : (toU64 (s.epoch.toNat : Int)).toNat = s.epoch.toNat := by rw [toU64_u32]; simp
  have hrU : (toU64 (s.root.toNat : Int)).toNat = s.root.toNat := by rw [toU64_u32]; simp
  refine wpP_call rfl rfl rfl C64 (Put_ok (.slice none 0 0) [] s.commit 8 _ (Own.nil _) (by decide) (by decide)) ?_
  rintro v3 w3 ⟨ho3, hc3, hi3⟩
  have hc3 : Chg [] w2 w3 := hc3
  have hi3 : In v3 [] w2.heap.size := hi3
  rw [List.nil_append] at ho3
  refine ⟨⟨(hB2.chg0 hc3).c (off := 5) rfl, (hB2.chg0 hc3).c (off := 0) rfl, trivial⟩, ?_⟩
  refine wpP_call rfl rfl rfl C64 (Put_ok v3 _ (toU64 (s.epoch.toNat : Int)) 4 _ ho3 (by decide) (by rw [hb8]; decide)) ?_
  rintro v4 w4 ⟨ho4, hc4, hi4⟩
  rw [heU] at ho4
  have hc24 : Chg [] w2 w4 := hc3.t0 hc4 hi3.ge
  have hi4 : In v4 [] w2.heap.size := hi4.mono (fun x hx => .inr (hi3.ge x hx)) hc3.1
  refine ⟨⟨(hB2.chg0 hc24).c (off := 0) rfl, trivial⟩, ?_⟩
  refine wpP_call rfl rfl rfl C64 (Put_ok v4 _ (toU64 (s.root.toNat : Int)) 4 _ ho4 (by decide) (by rw [List.length_append, hb8, hb4]; decide)) ?_
  rintro v5 w5 ⟨ho5, hc5, hi5⟩
  refine ⟨trivial, ?_⟩
  refine wpP_pure rfl rfl rfl (fun _ => x_assign) ?_
  refine wpP_nil (thenE_norm ?_)
  refine wpE_seq ?_
  refine wpE_region ?_
  refine wpL_value rfl x_move (wpL_value rfl (x_fieldAddr Tryz.underlying125 rfl I123 rfl rfl) (wpL_value rfl (x_fieldAddr Tryz.underlying123 rfl I9 rfl rfl) ?_))
  rw [hrU] at ho5
  have hc25 : Chg [] w2 w5 := hc24.t0 hc5 hi4.ge
  have hi5 : In v5 [] w2.heap.size := hi5.mono (fun x hx => .inr (hi4.ge x hx)) hc24.1
  have hB5 := hB2.chg0 hc25
  refine wpL_value rfl (x_load Tryz.underlying9 rfl rfl (hB5.c (off := 1) rfl)) ?_
  refine wpL_call rfl C124 (Text_ok w5 v5 _ s.txt ho5 (by simp only [List.length_append, hb8, hb4]; decide) (by omega)) ?_
  rintro v6 w6 ⟨ho6, hc6, hi6⟩
  refine wpL_value rfl x_assign ?_
  refine wpL_nil (thenE_norm ?_)
  refine wpE_seq ?_
  refine wpE_seq ?_
  have hc26 : Chg [] w2 w6 := hc25.t0 hc6 hi5.ge
  have hi6 : In v6 [] w2.heap.size := hi6.mono (fun x hx => .inr (hi5.ge x hx)) hc25.1
  have hB6 := hB2.chg0 hc26
  have hu6 := (hu.chg0 (hc1.tr hc2)).chg0 hc26
  have hr6 := (hr.chg0 (hc1.tr hc2)).chg0 hc26
  refine wpE_draw mixed (.pure 0 (.pure 1 (.read 2 (.pure 4 (.pure 5 (.read 6 (.pure 10 (.eff 3 [6] (.eff 7 [] (.eff 8 [] (.pure 9 .nil))))))))))) (by kernel_rfl) ?_
  refine wpP_pure rfl rfl rfl (fun _ => (x_fieldAddr Tryz.underlying125 rfl I123 rfl rfl)) ?_
  refine wpP_pure rfl rfl rfl (fun _ => (x_fieldAddr Tryz.underlying123 rfl I121 rfl rfl)) ?_
  refine wpP_rd rfl rfl rfl Tryz.underlying121 rfl rfl (hB6.c (off := 2) rfl) ?_
  refine wpP_pure rfl rfl rfl (fun _ => (x_fieldAddr Tryz.underlying125 rfl I123 rfl rfl)) ?_
  refine wpP_pure rfl rfl rfl (fun _ => (x_fieldAddr Tryz.underlying123 rfl I121 rfl rfl)) ?_
  refine wpP_rd rfl rfl rfl Tryz.underlying121 rfl rfl (hB6.c (off := 3) rfl) ?_
  refine wpP_pure rfl rfl rfl (fun _ => x_move) ?_
  refine wpP_call rfl rfl rfl C125 (marks_ok _ u s.used (hu6.chg0 (drw _)) hs.used) ?_
  rintro _ w7 ⟨rfl, hc7⟩
  have hc7 : Chg [] w6 w7 := hc7
  refine ⟨⟨(hB6.chg0 hc7).c (off := 3) rfl, trivial⟩, ?_⟩
  refine wpP_call rfl rfl rfl C125 (marks_ok w7 r s.written (hr6.chg0 hc7) hs.written) ?_
  rintro _ w8 ⟨rfl, hc8⟩
  refine ⟨trivial, ?_⟩
  refine wpP_exw rfl rfl rfl (x_bsF [arrV (marksL s.used), arrV (marksL s.written)] [m50 s.used, m50 s.written] Tryz.underlying195 I193 rfl rfl rfl rfl rfl rfl (by decide)) ?_
  rintro _ w9 ⟨⟨p9, c9, rfl⟩, ho9, hc9, hi9⟩
  refine ⟨trivial, ?_⟩
  refine wpP_pure rfl rfl rfl (fun _ => (x_len_slice rfl Tryz.underlying195)) ?_
  refine wpP_nil (thenE_norm ?_)
  refine wpE_block ?_
  have hc69 : Chg [] w6 w9 := (hc7.tr hc8).tr hc9
  have hc29 : Chg [] w2 w9 := hc26.tr hc69
  have hl6 : ([] ++ be 8 s.commit.toNat ++ be 4 s.epoch.toNat ++ be 4 s.root.toNat ++ (be 2 s.txt.length ++ s.txt)).length = 18 + s.txt.length := by simp only [List.length_append, hb8, hb4, hb2, List.length_nil]; omega
  have hob1 : ∃ pre, pre = be 8 s.commit.toNat ++ be 4 s.epoch.toNat ++ be 4 s.root.toNat ++ (be 2 s.txt.length ++ s.txt) := ⟨_, rfl⟩
  obtain ⟨pre, hpre⟩ := hob1
  rw [← hpre] at ho6
  have hpl : pre.length = 18 + s.txt.length := by rw [hpre]; simp only [List.length_append, hb8, hb4, hb2]; omega
  refine wpE_loop [5, 36] [5, 7, 36, 37, 38, 39, 40, 41, 42, 43] (fun n vs w' => ∃ (i : Nat) (v : Value) (m : List UInt8), vs = [v, .int .i64 i] ∧ i + n = 2 ∧ Own w' v m ∧ m = pre ++ (if 0 < i then marksL s.used else []) ++ (if 1 < i then marksL s.written else []) ∧ Sl w' (.slice p9 2 c9) [m50 s.used, m50 s.written] ∧ (∀ x ∈ blkOf v, x ∉ blkOf (.slice p9 2 c9)) ∧ w9.heap.size ≤ w'.heap.size ∧ Chg [] w2 w' ∧ In v [] w2.heap.size) (2) (by kernel_rfl) ?_ ?_
  · exact ⟨0, _, _, rfl, rfl, ho6.mod0 hc69, by simp, ho9.sl, fun x hx h => (by have := ho6.sl.lt x hx; have := hi9.ge x h; have := hc7.1; have := hc8.1; omega), Nat.le_refl _, hc29, hi6⟩
  · rintro n vs J w10 ⟨i, v10, m, rfl, hi, ho10, hm, hs10, hap10, hz10, hc210, hi10⟩
    refine wpE_seq ?_
    refine wpE_region ?_
    refine wpL_value rfl (x_lss rfl rfl) ?_
    refine wpL_nil (thenE_norm ?_)
    refine wpE_seq ?_
    have hml : m.length ≤ 18 + s.txt.length + 100 := by
      rw [hm]
      simp only [List.length_append, hpl]
      have h1 : (if 0 < i then marksL s.used else []).length ≤ 50 := by split <;> simp [marksL_length]
      have h2 : (if 1 < i then marksL s.written else []).length ≤ 50 := by split <;> simp [marksL_length]
      omega
    refine wpE_cond_d rfl (fun h => ?_) (fun h => ?_)
    · skip
      refine wpE_skip (thenE_norm ?_)
      refine wpE_seq ?_
      refine wpE_block ?_
      refine wpE_seq ?_
      refine wpE_region ?_
      have hob2 : ∃ q, n = q + 1 := ⟨n - 1, by omega⟩
      obtain ⟨n, rfl⟩ := hob2
      obtain ⟨g, hg, hgm⟩ : ∃ g : M50, [m50 s.used, m50 s.written][i]? = some g ∧ m ++ g.1 = pre ++ (if 0 < i + 1 then marksL s.used else []) ++ (if 1 < i + 1 then marksL s.written else []) := by
        rcases (by omega : i = 0 ∨ i = 1) with rfl | rfl
        · exact ⟨_, rfl, by rw [hm]; simp [m50]⟩
        · exact ⟨_, rfl, by rw [hm]; simp [m50]⟩
      refine wpL_ex rfl (x_idx (i) Tryz.underlying195 I193 rfl (hs10) rfl rfl (by first | rfl | omega) (by show i < 2; omega)) ?_
      rintro _ ⟨bi, oi, rfl, hei, hbi⟩
      refine wpL_value rfl (x_loadAt 50 Tryz.underlying193 rfl I193 rfl (hs10.at hei hg) g.2 rfl) ?_
      refine wpL_allocA (List.replicate 50 (0 : UInt8)) I193 rfl rfl rfl ?_
      rintro w11 b11 hn11 ha11 hc11 hl11
      refine wpL_exs rfl (x_storeN 50 I193 rfl (ha11) rfl rfl (rfl) (g.2)) ?_
      rintro w12 ⟨ha12, hc12, hs12⟩
      refine wpL_nil (thenE_norm ?_)
      refine wpE_region ?_
      refine wpL_value rfl x_move ?_
      have hc1012 : Chg [] w10 w12 := hc11.t1 hc12 hn11
      refine wpL_value rfl (x_arr_full Tryz.underlying193 I5 rfl) ?_
      refine wpL_append Tryz.underlying41 Tryz.underlying41 I5 (.inr ⟨_, rfl⟩) rfl rfl rfl (by decide) rfl (ho10.mod0 hc1012) ((ha12.sl (n := 50) (c := 50) g.2 (Nat.le_refl _)).src) rfl rfl (by rw [g.2]; omega) ?_
      rintro v13 w13 h13
      refine wpL_value rfl x_assign ?_
      refine wpL_nil (blockE_norm (thenE_norm ?_))
      refine wpE_region ?_
      refine wpL_value rfl (x_add64 rfl rfl (by omega)) (wpL_value rfl x_move ?_)
      refine wpL_nil (thenE_norm ?_)
      have hob3 := h13.step (hc210.tr hc1012) hi10
      obtain ⟨ho13, hc13, hi13⟩ := hob3
      have h9lt := ho9.sl.lt
      have hap13 : ∀ x ∈ blkOf v13, x ∉ blkOf (.slice p9 2 c9) := fun x hx h => by
        rcases h13.inn x hx with q | q
        · exact hap10 x q h
        · have := h9lt x h; have := hc1012.1; omega
      have hs13 := (hs10.mod0 hc1012).mod h13.mod (fun x hx h => hap10 x h hx)
      refine Exists.intro (n) (And.intro (by omega) ?_)
      exact ⟨i + 1, v13, _, vs_cons rfl (vs_cons (int_eq (by omega)) vs_nil), by omega, ho13, hgm, hs13, hap13, by have := hc1012.1; have := h13.mod.1; omega, hc13, hi13⟩
    · skip
      refine wpE_exit (thenE_exit (thenE_exit (blockE_exit (thenE_norm ?_))))
      refine wpE_seq ?_
      refine wpE_region ?_
      have h2 : i = 2 := by omega
      subst h2
      have hm2 : m = superP s := by rw [hm, hpre]; simp [superP]
      subst hm2
      have ha10 := ha2.chg0 hc210
      refine wpL_value rfl (x_loadN 32 Tryz.underlying23 rfl I23 rfl rfl (ha10) (hk)) ?_
      refine wpL_value rfl x_move ?_
      refine wpL_call rfl C126 (sign_ok w10 k hk v10 _ ho10.sl (by omega)) ?_
      rintro _ w11 ⟨rfl, hc11⟩
      refine wpL_allocA (List.replicate 32 (0 : UInt8)) I22 rfl rfl rfl ?_
      rintro w12 b12 hn12 ha12 hc12 hl12
      have hgl := signL_length k (superP s)
      refine wpL_exs rfl (x_storeN 32 I22 rfl (ha12) rfl rfl (rfl) (hgl)) ?_
      rintro w13 ⟨ha13, hc13, hs13⟩
      refine wpL_nil (thenE_norm ?_)
      refine wpE_seq ?_
      refine wpE_region ?_
      refine wpL_value rfl x_move ?_
      refine wpL_value rfl (x_arr_full Tryz.underlying22 I5 rfl) ?_
      have hc1013 : Chg [] w10 w13 := (hc11.tr hc12).t1 hc13 (by have := hc11.1; omega)
      refine wpL_append Tryz.underlying41 Tryz.underlying41 I5 (.inr ⟨_, rfl⟩) rfl rfl rfl (by decide) rfl (ho10.mod0 hc1013) ((ha13.sl (n := 32) (c := 32) hgl (Nat.le_refl _)).src) rfl rfl (by rw [hgl]; omega) ?_
      rintro v14 w14 h14
      refine wpL_value rfl x_assign ?_
      refine wpL_nil (thenE_norm ?_)
      refine wpE_ret (fin_ret ?_)
      have hob4 := h14.step (hc210.tr hc1013) hi10
      obtain ⟨ho14, hc14, hi14⟩ := hob4
      exact ⟨ho14, (hc1.tr hc2).tr hc14, hi14.mono (fun _ h => .inl h) (by have := hc1.1; have := hc2.1; omega)⟩
end Go.Proofs.YtenhmbhflgnhlaaGreat

