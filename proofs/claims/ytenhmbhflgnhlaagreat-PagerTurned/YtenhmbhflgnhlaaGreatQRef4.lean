/- A page of which a byte was changed on the disk, or another page's first sector stands in its place, is told as what stands there opens to, or that it isn't sealed so; other pages are as they were: by the document's seals. It holds for every input; there are no conditions. -/
import Derived.Test.YtenhmbhflgnhlaaGreatQRef3
import Derived.Test.YtenhmbhflgnhlaaGreatSac2
namespace Go.Proofs.YtenhmbhflgnhlaaGreat
open Go Go.Sac
set_option maxRecDepth 100000
set_option maxHeartbeats 4000000
theorem rQuarter_ok (a b c d : UInt32) (w : World) :
    Ret Tryz.prog 136 #[.int .u32 a.toNat, .int .u32 b.toNat, .int .u32 c.toNat, .int .u32 d.toNat] w fun v w' => w = w' ∧
      v = .tuple #[.int .u32 (quarterL a b c d).1.toNat, .int .u32 (quarterL a b c d).2.1.toNat, .int .u32 (quarterL a b c d).2.2.1.toNat, .int .u32 (quarterL a b c d).2.2.2.toNat] := by
  refine enter [8, 9, 10, 11] Tryz.func136 rfl rfl (Nat.le_of_ble_eq_true rfl) ?_
  refine wpE_seq ?_
  refine wpE_region ?_
  refine wpL_value rfl (x_as (v := .int .u32 ((0 : UInt32).toNat : Nat)) rfl) (wpL_value rfl (x_as (v := .int .u32 ((0 : UInt32).toNat : Nat)) rfl) (wpL_value rfl (x_as (v := .int .u32 ((0 : UInt32).toNat : Nat)) rfl) (wpL_value rfl (x_as (v := .int .u32 ((0 : UInt32).toNat : Nat)) rfl) ?_)))
  refine wpL_nil (thenE_norm ?_)
  refine wpE_seq ?_
  refine wpE_region ?_
  refine wpL_value rfl x_move (wpL_value rfl x_move (wpL_value rfl (x_add32u rfl rfl) (wpL_value rfl x_assign ?_)))
  refine wpL_nil (thenE_norm ?_)
  refine wpE_seq ?_
  refine wpE_region ?_
  refine wpL_value rfl x_move (wpL_value rfl x_move (wpL_value rfl (x_xor32u rfl rfl) ?_))
  refine wpL_call rfl C165 (rRotl_ok _ 16 16 (by decide) _) ?_
  rintro _ _ ⟨rfl, rfl⟩
  refine wpL_value rfl x_assign ?_
  refine wpL_nil (thenE_norm ?_)
  refine wpE_seq ?_
  refine wpE_region ?_
  refine wpL_value rfl x_move (wpL_value rfl x_move (wpL_value rfl (x_add32u rfl rfl) (wpL_value rfl x_assign ?_)))
  refine wpL_nil (thenE_norm ?_)
  refine wpE_seq ?_
  refine wpE_region ?_
  refine wpL_value rfl x_move (wpL_value rfl x_move (wpL_value rfl (x_xor32u rfl rfl) ?_))
  refine wpL_call rfl C165 (rRotl_ok _ 12 12 (by decide) _) ?_
  rintro _ _ ⟨rfl, rfl⟩
  refine wpL_value rfl x_assign ?_
  refine wpL_nil (thenE_norm ?_)
  refine wpE_seq ?_
  refine wpE_region ?_
  refine wpL_value rfl x_move (wpL_value rfl x_move (wpL_value rfl (x_add32u rfl rfl) (wpL_value rfl x_assign ?_)))
  refine wpL_nil (thenE_norm ?_)
  refine wpE_seq ?_
  refine wpE_region ?_
  refine wpL_value rfl x_move (wpL_value rfl x_move (wpL_value rfl (x_xor32u rfl rfl) ?_))
  refine wpL_call rfl C165 (rRotl_ok _ 8 8 (by decide) _) ?_
  rintro _ _ ⟨rfl, rfl⟩
  refine wpL_value rfl x_assign ?_
  refine wpL_nil (thenE_norm ?_)
  refine wpE_seq ?_
  refine wpE_region ?_
  refine wpL_value rfl x_move (wpL_value rfl x_move (wpL_value rfl (x_add32u rfl rfl) (wpL_value rfl x_assign ?_)))
  refine wpL_nil (thenE_norm ?_)
  refine wpE_seq ?_
  refine wpE_region ?_
  refine wpL_value rfl x_move (wpL_value rfl x_move (wpL_value rfl (x_xor32u rfl rfl) ?_))
  refine wpL_call rfl C165 (rRotl_ok _ 7 7 (by decide) _) ?_
  rintro _ _ ⟨rfl, rfl⟩
  refine wpL_value rfl x_assign ?_
  refine wpL_nil (thenE_norm ?_)
  refine wpE_seq ?_
  refine wpE_region ?_
  refine wpL_value rfl x_move (wpL_value rfl x_move (wpL_value rfl x_move (wpL_value rfl x_move (wpL_value rfl x_assign (wpL_value rfl x_assign (wpL_value rfl x_assign (wpL_value rfl x_assign ?_)))))))
  refine wpL_nil (thenE_norm ?_)
  refine wpE_ret (fin_ret ?_)
  refine ⟨rfl, congrArg Value.tuple (congrArg List.toArray (vs_cons (u32_eq ?_) (vs_cons (u32_eq ?_) (vs_cons (u32_eq ?_) (vs_cons (u32_eq ?_) vs_nil)))))⟩
  all_goals rw [quarterL_def]; rfl
theorem rBlock4_ok (k nonce : List UInt8) (ctr : UInt32) (w : World) (hk : k.length = 32) (hn : nonce.length = 12) :
    Ret Tryz.prog 119 #[arrV k, arrV nonce, .int .u32 ctr.toNat] w fun v w' => v = arrV (blockL k nonce ctr) ∧ Chg [] w w' := by
  refine enterR [.cell 6 115] Tryz.func119 rfl rfl (Nat.le_of_ble_eq_true rfl) ?_
  refine wpE_seq ?_
  refine wpE_region ?_
  refine wpL_boxA (l := k) rfl rfl ?_
  rintro w1 b1 hn1 ha1 hc1 hl1
  refine wpL_boxA (l := nonce) rfl rfl ?_
  rintro w2 b2 hn2 ha2 hc2 hl2
  refine wpL_allocA (List.replicate 64 (0 : UInt8)) I115 rfl rfl rfl ?_
  rintro w3 b3 hn3 ha3 hc3 hl3
  refine wpL_nil (thenE_norm ?_)
  refine wpE_seq ?_
  refine wpE_region ?_
  refine wpL_allocA (List.replicate 16 (0 : UInt32)) I205 rfl rfl rfl ?_
  rintro w4 b4 hn4 ha4 hc4 hl4
  refine wpL_nil (thenE_norm ?_)
  refine wpE_seq ?_
  refine wpE_region ?_
  refine wpL_value rfl (x_idxA 0 Tryz.underlying205 I34 rfl rfl rfl (by decide)) ?_
  refine wpL_exs rfl (x_store1 (a := 0x61707865) (k := 0) I34 rfl rfl rfl rfl (ha4) rfl (by simp)) ?_
  rintro w5 ⟨ha5, hc5, hs5⟩
  refine wpL_value rfl (x_idxA 1 Tryz.underlying205 I34 rfl rfl rfl (by decide)) ?_
  refine wpL_exs rfl (x_store1 (a := 0x3320646e) (k := 1) I34 rfl rfl rfl rfl (ha5) rfl (by simp)) ?_
  rintro w6 ⟨ha6, hc6, hs6⟩
  refine wpL_value rfl (x_idxA 2 Tryz.underlying205 I34 rfl rfl rfl (by decide)) ?_
  refine wpL_exs rfl (x_store1 (a := 0x79622d32) (k := 2) I34 rfl rfl rfl rfl (ha6) rfl (by simp)) ?_
  rintro w7 ⟨ha7, hc7, hs7⟩
  refine wpL_value rfl (x_idxA 3 Tryz.underlying205 I34 rfl rfl rfl (by decide)) ?_
  refine wpL_exs rfl (x_store1 (a := 0x6b206574) (k := 3) I34 rfl rfl rfl rfl (ha7) rfl (by simp)) ?_
  rintro w8 ⟨ha8, hc8, hs8⟩
  refine wpL_nil (thenE_norm ?_)
  refine wpE_seq ?_
  refine wpE_seq ?_
  refine wpE_region ?_
  refine wpL_value rfl x_assign ?_
  refine wpL_nil (thenE_norm ?_)
  refine wpE_block ?_
  have ha8' : Arr w8 b4 streamC := ha8
  have hc48 : Chg [b4] w4 w8 := ((hc5.tr hc6).tr hc7).tr hc8
  have hc08 : Chg [] w w8 := (((hc1.tr hc2).tr hc3).tr hc4).t1 hc48 (by have := hc1.1; have := hc2.1; have := hc3.1; omega)
  have hk8 : Arr w8 b1 k := (((ha1.chg0 hc2).chg0 hc3).chg0 hc4).nb hc48 (by have := hc2.1; have := hc3.1; omega)
  have hn8 : Arr w8 b2 nonce := ((ha2.chg0 hc3).chg0 hc4).nb hc48 (by have := hc3.1; omega)
  have hr8 : Arr w8 b3 (List.replicate 64 (0 : UInt8)) := (ha3.chg0 hc4).nb hc48 (by omega)
  have hb12 : b1 < b4 ∧ b2 < b4 ∧ b3 < b4 ∧ w.heap.size ≤ b4 := by have := hc1.1; have := hc2.1; have := hc3.1; omega
  refine wpE_loopF [2, 3, 4, 6, 7, 8] (fun n vs w' => ∃ i : Nat, vs = [.int .u32 ctr.toNat, .pointer (some ⟨b1, 0, none⟩), .pointer (some ⟨b2, 0, none⟩), .pointer (some ⟨b3, 0, none⟩), .pointer (some ⟨b4, 0, none⟩), .int .i64 i] ∧ i + n = 8 ∧ Arr w' b4 (firstK k i) ∧ Chg [b4] w8 w') (8) ?_ ?_
  · exact ⟨0, rfl, rfl, by rw [firstK_zero]; exact ha8', Chg.refl' _ _⟩
  · rintro n vs J wa ⟨i, rfl, hi, haa, hca⟩
    refine wpE_seq ?_
    refine wpE_seq ?_
    refine wpE_region ?_
    refine wpL_value rfl x_move (wpL_value rfl (x_lss rfl rfl) ?_)
    refine wpL_nil (thenE_norm ?_)
    have hfl := firstK_length k i
    have hka := hk8.nb hca (by omega)
    refine wpE_cond_d rfl (fun h => ?_) (fun h => ?_)
    · skip
      refine wpE_skip (thenE_norm ?_)
      refine wpE_seq ?_
      refine wpE_block ?_
      refine wpE_region ?_
      refine wpL_value rfl x_move (wpL_value rfl (x_add64 rfl rfl (by omega)) (wpL_value rfl x_move (wpL_value rfl (x_mul64 rfl rfl (by omega)) (wpL_value rfl x_move (wpL_value rfl (x_mul64 rfl rfl (by omega)) (wpL_value rfl (x_add64 rfl rfl (by omega)) ?_))))))
      have hob1 : ∃ q, n = q + 1 := ⟨n - 1, by omega⟩
      obtain ⟨n, rfl⟩ := hob1
      refine wpL_value rfl (x_arr_ft (4 * i) (4 * i + 4) Tryz.underlying23 I5 rfl rfl rfl rfl rfl (by omega) (by omega)) ?_
      have hsl := hka.slc (i := 4 * i) (n := 4 * i + 4 - 4 * i) (c := 32 - 4 * i) rfl (by omega) (by omega)
      refine wpL_call rfl C135 (rLittle_ok _ ((k.drop (4 * i)).take (4 * i + 4 - 4 * i)) wa hsl (by rw [List.length_take, List.length_drop]; omega)) ?_
      rintro _ _ ⟨rfl, rfl⟩
      refine wpL_value rfl (x_idxA (4 + i) Tryz.underlying205 I34 rfl rfl (by first | rfl | omega) (by first | assumption | omega)) ?_
      refine wpL_exs rfl (x_store1 (a := littleL ((k.drop (4 * i)).take (4 * i + 4 - 4 * i))) (k := 4 + i) I34 rfl rfl rfl rfl (haa) rfl (by first | assumption | omega)) ?_
      rintro wb ⟨hab, hcb, hsb⟩
      refine wpL_nil (blockE_norm (thenE_norm ?_))
      refine wpE_region ?_
      refine wpL_value rfl x_move (wpL_value rfl (x_add64 rfl rfl (by omega)) (wpL_value rfl x_assign ?_))
      refine wpL_nil (thenE_norm ?_)
      refine Exists.intro (n) (And.intro (by omega) ?_)
      refine ⟨i + 1, rfl, by omega, ?_, hca.tr hcb⟩
      rw [show 4 * i + 4 - 4 * i = 4 by omega, littleL_take] at hab
      rw [firstK_succ]; exact hab
    · skip
      refine wpE_exit (thenE_exit (thenE_exit (blockE_exit (thenE_norm ?_))))
      refine wpE_seq ?_
      refine wpE_region ?_
      refine wpL_value rfl x_move (wpL_value rfl (x_idxA 12 Tryz.underlying205 I34 rfl rfl rfl (by decide)) ?_)
      have hob2 : i = 8 := by omega
      obtain rfl := hob2
      refine wpL_exs rfl (x_store1 (a := ctr) (k := 12) I34 rfl rfl rfl rfl (haa) rfl (by rw [hfl]; decide)) ?_
      rintro wb ⟨hab, hcb, hsb⟩
      refine wpL_nil (thenE_norm ?_)
      refine wpE_seq ?_
      refine wpE_seq ?_
      refine wpE_region ?_
      refine wpL_value rfl x_assign ?_
      refine wpL_nil (thenE_norm ?_)
      refine wpE_block ?_
      have hc8b := hca.tr hcb
      refine wpE_loopF [4, 6, 7, 9] (fun n vs w' => ∃ i : Nat, vs = [.pointer (some ⟨b2, 0, none⟩), .pointer (some ⟨b3, 0, none⟩), .pointer (some ⟨b4, 0, none⟩), .int .i64 i] ∧ i + n = 3 ∧ Arr w' b4 (firstN ((firstK k 8).set 12 ctr) nonce i) ∧ Chg [b4] w8 w') (3) ?_ ?_
      · exact ⟨0, rfl, rfl, by rw [firstN_zero]; exact hab, hc8b⟩
      · rintro n vs J wc ⟨i, rfl, hi, hac, hcc⟩
        refine wpE_seq ?_
        refine wpE_seq ?_
        refine wpE_region ?_
        refine wpL_value rfl x_move (wpL_value rfl (x_lss rfl rfl) ?_)
        refine wpL_nil (thenE_norm ?_)
        have hfl2 : (firstN ((firstK k 8).set 12 ctr) nonce i).length = 16 := by rw [firstN_length, List.length_set, hfl]
        have hnc := hn8.nb hcc (by omega)
        refine wpE_cond_d rfl (fun h2 => ?_) (fun h2 => ?_)
        · skip
          refine wpE_skip (thenE_norm ?_)
          refine wpE_seq ?_
          refine wpE_block ?_
          refine wpE_region ?_
          refine wpL_value rfl x_move (wpL_value rfl (x_add64 rfl rfl (by omega)) (wpL_value rfl x_move (wpL_value rfl (x_mul64 rfl rfl (by omega)) (wpL_value rfl x_move (wpL_value rfl (x_mul64 rfl rfl (by omega)) (wpL_value rfl (x_add64 rfl rfl (by omega)) ?_))))))
          have hob3 : ∃ q, n = q + 1 := ⟨n - 1, by omega⟩
          obtain ⟨n, rfl⟩ := hob3
          refine wpL_value rfl (x_arr_ft (4 * i) (4 * i + 4) Tryz.underlying109 I5 rfl rfl rfl rfl rfl (by omega) (by omega)) ?_
          have hsl := hnc.slc (i := 4 * i) (n := 4 * i + 4 - 4 * i) (c := 12 - 4 * i) rfl (by omega) (by omega)
          refine wpL_call rfl C135 (rLittle_ok _ ((nonce.drop (4 * i)).take (4 * i + 4 - 4 * i)) wc hsl (by rw [List.length_take, List.length_drop]; omega)) ?_
          rintro _ _ ⟨rfl, rfl⟩
          refine wpL_value rfl (x_idxA (13 + i) Tryz.underlying205 I34 rfl rfl (by first | rfl | omega) (by first | assumption | omega)) ?_
          refine wpL_exs rfl (x_store1 (a := littleL ((nonce.drop (4 * i)).take (4 * i + 4 - 4 * i))) (k := 13 + i) I34 rfl rfl rfl rfl (hac) rfl (by first | assumption | omega)) ?_
          rintro wd ⟨had, hcd, hsd⟩
          refine wpL_nil (blockE_norm (thenE_norm ?_))
          refine wpE_region ?_
          refine wpL_value rfl x_move (wpL_value rfl (x_add64 rfl rfl (by omega)) (wpL_value rfl x_assign ?_))
          refine wpL_nil (thenE_norm ?_)
          refine Exists.intro (n) (And.intro (by omega) ?_)
          refine ⟨i + 1, rfl, by omega, ?_, hcc.tr hcd⟩
          rw [show 4 * i + 4 - 4 * i = 4 by omega, littleL_take] at had
          rw [firstN_succ]; exact had
        · skip
          refine wpE_exit (thenE_exit (thenE_exit (blockE_exit (thenE_norm ?_))))
          refine wpE_seq ?_
          refine wpE_region ?_
          have hob4 : i = 3 := by omega
          obtain rfl := hob4
          rw [← firstL_def] at hac hfl2
          have hob5 : ∃ was, was = firstL k nonce ctr := ⟨_, rfl⟩
          obtain ⟨was, hwas⟩ := hob5
          rw [← hwas] at hac hfl2
          refine wpL_value rfl (x_buildV (List.replicate 4 (0 : Int)) ([(0, 0), (1, 4), (2, 8), (3, 12)]) (l := [0, 4, 8, 12]) Tryz.underlying207 I207 rfl I3 rfl rfl rfl rfl rfl) ?_
          refine wpL_value rfl (x_buildV (List.replicate 4 (0 : Int)) ([(0, 1), (1, 5), (2, 9), (3, 13)]) (l := [1, 5, 9, 13]) Tryz.underlying207 I207 rfl I3 rfl rfl rfl rfl rfl) ?_
          refine wpL_value rfl (x_buildV (List.replicate 4 (0 : Int)) ([(0, 2), (1, 6), (2, 10), (3, 14)]) (l := [2, 6, 10, 14]) Tryz.underlying207 I207 rfl I3 rfl rfl rfl rfl rfl) ?_
          refine wpL_value rfl (x_buildV (List.replicate 4 (0 : Int)) ([(0, 3), (1, 7), (2, 11), (3, 15)]) (l := [3, 7, 11, 15]) Tryz.underlying207 I207 rfl I3 rfl rfl rfl rfl rfl) ?_
          refine wpL_value rfl (x_buildV (List.replicate 4 (0 : Int)) ([(0, 0), (1, 5), (2, 10), (3, 15)]) (l := [0, 5, 10, 15]) Tryz.underlying207 I207 rfl I3 rfl rfl rfl rfl rfl) ?_
          refine wpL_value rfl (x_buildV (List.replicate 4 (0 : Int)) ([(0, 1), (1, 6), (2, 11), (3, 12)]) (l := [1, 6, 11, 12]) Tryz.underlying207 I207 rfl I3 rfl rfl rfl rfl rfl) ?_
          refine wpL_value rfl (x_buildV (List.replicate 4 (0 : Int)) ([(0, 2), (1, 7), (2, 8), (3, 13)]) (l := [2, 7, 8, 13]) Tryz.underlying207 I207 rfl I3 rfl rfl rfl rfl rfl) ?_
          refine wpL_value rfl (x_buildV (List.replicate 4 (0 : Int)) ([(0, 3), (1, 4), (2, 9), (3, 14)]) (l := [3, 4, 9, 14]) Tryz.underlying207 I207 rfl I3 rfl rfl rfl rfl rfl) ?_
          refine wpL_value rfl (x_buildV (List.replicate 8 q40) ([(0, qRow 0), (1, qRow 1), (2, qRow 2), (3, qRow 3), (4, qRow 4), (5, qRow 5), (6, qRow 6), (7, qRow 7)]) (l := qRows) Tryz.underlying208 I208 rfl I207 rfl rfl rfl rfl rfl) ?_
          refine wpL_allocA (List.replicate 8 q40) I208 rfl rfl rfl ?_
          rintro wd bd hnd had hcd hld
          refine wpL_exs rfl (x_storeN 8 I208 rfl (had) rfl rfl (rfl) (rfl)) ?_
          rintro we ⟨hae, hce, hse⟩
          refine wpL_nil (thenE_norm ?_)
          refine wpE_seq ?_
          refine wpE_region ?_
          have hac2 : Arr we b4 was := (hac.chg0 hcd).nb hce (by have := hac.lt; omega)
          refine wpL_value rfl (x_loadN 16 Tryz.underlying205 rfl I205 rfl rfl (hac2) (hfl2)) ?_
          refine wpL_allocA (List.replicate 16 (0 : UInt32)) I205 rfl rfl rfl ?_
          rintro wf bf hnf haf hcf hlf
          refine wpL_exs rfl (x_storeN 16 I205 rfl (haf) rfl rfl (rfl) (hfl2)) ?_
          rintro wg ⟨hag, hcg, hsg⟩
          refine wpL_nil (thenE_norm ?_)
          refine wpE_seq ?_
          refine wpE_seq ?_
          refine wpE_region ?_
          refine wpL_value rfl x_assign ?_
          refine wpL_nil (thenE_norm ?_)
          refine wpE_block ?_
          have kcc := hcc.1
          have kcd := hcd.1
          have l4 := hac.lt
          have l3 := (hr8.nb hcc (by omega)).lt
          have hrows : Arr wg bd qRows := (hae.chg0 hcf).nb hcg (by omega)
          have hwasg : Arr wg b4 was := (hac2.chg0 hcf).nb hcg (by omega)
          have hrg : Arr wg b3 (List.replicate 64 (0 : UInt8)) := ((((hr8.nb hcc (by omega)).chg0 hcd).nb hce (by omega)).chg0 hcf).nb hcg (by omega)
          have hc0g : Chg [] w wg := ((((hc08.t1 hcc hb12.2.2.2).tr hcd).t1 hce (by have := hc08.1; omega)).tr hcf).t1 hcg (by have := hc08.1; omega)
          have hbig : b4 < bf ∧ bd < bf ∧ b3 < bf ∧ w.heap.size ≤ bf := by have := hc08.1; omega
          refine wpE_loopF [6, 7, 10, 11, 12] (fun n vs w' => ∃ i : Nat, vs = [.pointer (some ⟨b3, 0, none⟩), .pointer (some ⟨b4, 0, none⟩), .pointer (some ⟨bd, 0, none⟩), .pointer (some ⟨bf, 0, none⟩), .int .i64 i] ∧ i + n = 80 ∧ Arr w' bf (quarN was i) ∧ Chg [bf] wg w') (80) ?_ ?_
          · exact ⟨0, rfl, rfl, by rw [quarN_zero]; exact hag, Chg.refl' _ _⟩
          · rintro n vs J wh ⟨i, rfl, hi, hah, hch⟩
            refine wpE_seq ?_
            refine wpE_seq ?_
            refine wpE_region ?_
            refine wpL_value rfl x_move (wpL_value rfl (x_lss rfl rfl) ?_)
            refine wpL_nil (thenE_norm ?_)
            have hql := (quarN_length was i).trans hfl2
            refine wpE_cond_d rfl (fun h3 => ?_) (fun h3 => ?_)
            · skip
              refine wpE_skip (thenE_norm ?_)
              refine wpE_seq ?_
              refine wpE_block ?_
              refine wpE_seq ?_
              refine wpE_region ?_
              refine wpL_value rfl x_move (wpL_value rfl (x_rem64 rfl rfl (by omega)) ?_)
              have hob6 : ∃ q, n = q + 1 := ⟨n - 1, by omega⟩
              obtain ⟨n, rfl⟩ := hob6
              have hrh := hrows.nb hch (by omega)
              have hr8' : ((i : Int) % 8) = ((i % 8 : Nat) : Int) := by omega
              have hob7 := q_lt i
              obtain ⟨ha16, hb16, hc16, hd16⟩ := hob7
              refine wpL_value rfl (x_idxA (i % 8) Tryz.underlying208 I207 rfl rfl (by first | rfl | omega) (by first | assumption | omega)) ?_
              refine wpL_value rfl (x_loadAt 4 Tryz.underlying207 rfl I207 rfl (hrh.elt (qRows_get i)) (qRow i).2 rfl) ?_
              refine wpL_allocA (List.replicate 4 (0 : Int)) I207 rfl rfl rfl ?_
              rintro wi bi hni hai hci hli
              refine wpL_exs rfl (x_storeN 4 I207 rfl (hai) rfl rfl (rfl) ((qRow i).2)) ?_
              rintro wj ⟨haj, hcj, hsj⟩
              refine wpL_nil (thenE_norm ?_)
              refine wpE_seq ?_
              have hvj : Arr wj bf (quarN was i) := (hah.chg0 hci).nb hcj (by have := hah.lt; omega)
              have hbj : bf ≠ bi := by have := hah.lt; omega
              refine wpE_draw mixed (.pure 0 (.read 1 (.pure 2 (.read 3 (.pure 4 (.read 5 (.pure 6 (.read 7 (.pure 8 (.read 9 (.pure 10 (.read 11 (.pure 12 (.read 13 (.pure 14 (.read 15 (.eff 16 [] (.pure 17 (.pure 18 (.pure 19 (.pure 20 (.pure 21 (.pure 22 (.pure 23 (.pure 24 (.pure 25 .nil)))))))))))))))))))))))))) (by kernel_rfl) ?_
              refine wpP_pure rfl rfl rfl (fun _ => (x_idxA 0 Tryz.underlying207 I3 rfl rfl rfl (by decide))) ?_
              refine wpP_rd rfl rfl rfl Tryz.underlying3 rfl rfl (haj.c (show (qRow i).1[0]? = some (qA i : Int) from rfl) rfl rfl) ?_
              refine wpP_pure rfl rfl rfl (fun _ => x_idxA (qA i) Tryz.underlying205 I34 rfl rfl (by first | rfl | omega) (by first | assumption | omega)) ?_
              refine wpP_rd rfl rfl rfl Tryz.underlying34 rfl rfl (hvj.c (getD_some (d := 0) (by omega)) rfl rfl) ?_
              refine wpP_pure rfl rfl rfl (fun _ => (x_idxA 1 Tryz.underlying207 I3 rfl rfl rfl (by decide))) ?_
              refine wpP_rd rfl rfl rfl Tryz.underlying3 rfl rfl (haj.c (show (qRow i).1[1]? = some (qB i : Int) from rfl) rfl rfl) ?_
              refine wpP_pure rfl rfl rfl (fun _ => x_idxA (qB i) Tryz.underlying205 I34 rfl rfl (by first | rfl | omega) (by first | assumption | omega)) ?_
              refine wpP_rd rfl rfl rfl Tryz.underlying34 rfl rfl (hvj.c (getD_some (d := 0) (by omega)) rfl rfl) ?_
              refine wpP_pure rfl rfl rfl (fun _ => (x_idxA 2 Tryz.underlying207 I3 rfl rfl rfl (by decide))) ?_
              refine wpP_rd rfl rfl rfl Tryz.underlying3 rfl rfl (haj.c (show (qRow i).1[2]? = some (qC i : Int) from rfl) rfl rfl) ?_
              refine wpP_pure rfl rfl rfl (fun _ => x_idxA (qC i) Tryz.underlying205 I34 rfl rfl (by first | rfl | omega) (by first | assumption | omega)) ?_
              refine wpP_rd rfl rfl rfl Tryz.underlying34 rfl rfl (hvj.c (getD_some (d := 0) (by omega)) rfl rfl) ?_
              refine wpP_pure rfl rfl rfl (fun _ => (x_idxA 3 Tryz.underlying207 I3 rfl rfl rfl (by decide))) ?_
              refine wpP_rd rfl rfl rfl Tryz.underlying3 rfl rfl (haj.c (show (qRow i).1[3]? = some (qD i : Int) from rfl) rfl rfl) ?_
              refine wpP_pure rfl rfl rfl (fun _ => x_idxA (qD i) Tryz.underlying205 I34 rfl rfl (by first | rfl | omega) (by first | assumption | omega)) ?_
              refine wpP_rd rfl rfl rfl Tryz.underlying34 rfl rfl (hvj.c (getD_some (d := 0) (by omega)) rfl rfl) ?_
              refine wpP_call rfl rfl rfl C136 (rQuarter_ok ((quarN was i).getD (qA i) 0) ((quarN was i).getD (qB i) 0) ((quarN was i).getD (qC i) 0) ((quarN was i).getD (qD i) 0) _) ?_
              rintro _ _ ⟨rfl, rfl⟩
              refine ⟨trivial, ?_⟩
              refine wpP_pure rfl rfl rfl (fun _ => x_move) ?_
              refine wpP_pure rfl rfl rfl (fun _ => (x_extract rfl rfl)) ?_
              refine wpP_pure rfl rfl rfl (fun _ => (x_extract rfl rfl)) ?_
              refine wpP_pure rfl rfl rfl (fun _ => (x_extract rfl rfl)) ?_
              refine wpP_pure rfl rfl rfl (fun _ => (x_extract rfl rfl)) ?_
              refine wpP_pure rfl rfl rfl (fun _ => x_assign) ?_
              refine wpP_pure rfl rfl rfl (fun _ => x_assign) ?_
              refine wpP_pure rfl rfl rfl (fun _ => x_assign) ?_
              refine wpP_pure rfl rfl rfl (fun _ => x_assign) ?_
              refine wpP_nil (thenE_norm ?_)
              refine wpE_seq ?_
              refine wpE_region ?_
              refine wpL_value rfl (x_idxA 0 Tryz.underlying207 I3 rfl rfl rfl (by decide)) ?_
              refine wpL_value rfl (x_load Tryz.underlying3 rfl rfl (haj.c (show (qRow i).1[0]? = some (qA i : Int) from rfl) rfl rfl)) ?_
              refine wpL_value rfl x_move ?_
              refine wpL_value rfl (x_idxA (qA i) Tryz.underlying205 I34 rfl rfl (by first | rfl | omega) (by first | assumption | omega)) ?_
              refine wpL_exs rfl (x_store1 (a := (quarterL ((quarN was i).getD (qA i) 0) ((quarN was i).getD (qB i) 0) ((quarN was i).getD (qC i) 0) ((quarN was i).getD (qD i) 0)).1) (k := qA i) I34 rfl rfl rfl rfl (hvj) rfl (by omega)) ?_
              rintro wk0 ⟨hvk0, hck0, hsk0⟩
              refine wpL_nil (thenE_norm ?_)
              refine wpE_seq ?_
              refine wpE_region ?_
              refine wpL_value rfl (x_idxA 1 Tryz.underlying207 I3 rfl rfl rfl (by decide)) ?_
              have hak0 := haj.nb hck0 (Ne.symm hbj)
              refine wpL_value rfl (x_load Tryz.underlying3 rfl rfl (hak0.c (show (qRow i).1[1]? = some (qB i : Int) from rfl) rfl rfl)) ?_
              refine wpL_value rfl x_move ?_
              refine wpL_value rfl (x_idxA (qB i) Tryz.underlying205 I34 rfl rfl (by first | rfl | omega) (by first | assumption | omega)) ?_
              refine wpL_exs rfl (x_store1 (a := (quarterL ((quarN was i).getD (qA i) 0) ((quarN was i).getD (qB i) 0) ((quarN was i).getD (qC i) 0) ((quarN was i).getD (qD i) 0)).2.1) (k := qB i) I34 rfl rfl rfl rfl (hvk0) rfl (by simp; omega)) ?_
              rintro wk1 ⟨hvk1, hck1, hsk1⟩
              refine wpL_nil (thenE_norm ?_)
              refine wpE_seq ?_
              refine wpE_region ?_
              refine wpL_value rfl (x_idxA 2 Tryz.underlying207 I3 rfl rfl rfl (by decide)) ?_
              have hak1 := hak0.nb hck1 (Ne.symm hbj)
              refine wpL_value rfl (x_load Tryz.underlying3 rfl rfl (hak1.c (show (qRow i).1[2]? = some (qC i : Int) from rfl) rfl rfl)) ?_
              refine wpL_value rfl x_move ?_
              refine wpL_value rfl (x_idxA (qC i) Tryz.underlying205 I34 rfl rfl (by first | rfl | omega) (by first | assumption | omega)) ?_
              refine wpL_exs rfl (x_store1 (a := (quarterL ((quarN was i).getD (qA i) 0) ((quarN was i).getD (qB i) 0) ((quarN was i).getD (qC i) 0) ((quarN was i).getD (qD i) 0)).2.2.1) (k := qC i) I34 rfl rfl rfl rfl (hvk1) rfl (by simp; omega)) ?_
              rintro wk2 ⟨hvk2, hck2, hsk2⟩
              refine wpL_nil (thenE_norm ?_)
              refine wpE_region ?_
              refine wpL_value rfl (x_idxA 3 Tryz.underlying207 I3 rfl rfl rfl (by decide)) ?_
              have hak2 := hak1.nb hck2 (Ne.symm hbj)
              refine wpL_value rfl (x_load Tryz.underlying3 rfl rfl (hak2.c (show (qRow i).1[3]? = some (qD i : Int) from rfl) rfl rfl)) ?_
              refine wpL_value rfl x_move ?_
              refine wpL_value rfl (x_idxA (qD i) Tryz.underlying205 I34 rfl rfl (by first | rfl | omega) (by first | assumption | omega)) ?_
              refine wpL_exs rfl (x_store1 (a := (quarterL ((quarN was i).getD (qA i) 0) ((quarN was i).getD (qB i) 0) ((quarN was i).getD (qC i) 0) ((quarN was i).getD (qD i) 0)).2.2.2) (k := qD i) I34 rfl rfl rfl rfl (hvk2) rfl (by simp; omega)) ?_
              rintro wk3 ⟨hvk3, hck3, hsk3⟩
              refine wpL_nil (blockE_norm (thenE_norm ?_))
              refine wpE_region ?_
              refine wpL_value rfl x_move (wpL_value rfl (x_add64 rfl rfl (by omega)) (wpL_value rfl x_assign ?_))
              refine wpL_nil (thenE_norm ?_)
              have hck0 : Chg [bf] wj wk0 := hck0
              refine Exists.intro (n) (And.intro (by omega) ?_)
              refine ⟨i + 1, rfl, by omega, ?_, (((((hch.tr0 hci).tn hcj (by have := hch.1; omega)).tr hck0).tr hck1).tr hck2).tr hck3⟩
              rw [quarN_succ, qStep, quarterAt_def]
              exact hvk3
            · skip
              refine wpE_exit (thenE_exit (thenE_exit (blockE_exit (thenE_norm ?_))))
              refine wpE_seq ?_
              refine wpE_region ?_
              have hob8 : i = 80 := by omega
              obtain rfl := hob8
              rw [show 80 = 8 * 10 by rfl, quarN_rounds] at hah
              have hrl : (roundsL was 10).length = 16 := (roundsL_length was 10).trans hfl2
              have hwh := hwasg.nb hch (by omega)
              have hrgh := hrg.nb hch (by omega)
              refine wpL_allocA (List.replicate 64 (0 : UInt8)) I115 rfl rfl rfl ?_
              rintro wi bi hni hai hci hli
              refine wpL_nil (thenE_norm ?_)
              refine wpE_seq ?_
              refine wpE_seq ?_
              refine wpE_region ?_
              refine wpL_value rfl x_assign ?_
              refine wpL_nil (thenE_norm ?_)
              refine wpE_block ?_
              have hwi := hwh.chg0 hci
              have hvi := hah.chg0 hci
              have hrgi := hrgh.chg0 hci
              have hbl : (blockL k nonce ctr).length = 64 := blockL_length _ _ _
              have hbo : blockL k nonce ctr = (sumW was (roundsL was 10) 16).flatMap putLittleL := by rw [blockL_def, ← hwas, outL_sum]
              have hsl16 : (sumW was (roundsL was 10) 16).length = 16 := by simp [sumW]
              have khi := hch.1
              refine wpE_loopF [6, 7, 11, 18, 19] (fun n vs w' => ∃ i : Nat, vs = [.pointer (some ⟨b3, 0, none⟩), .pointer (some ⟨b4, 0, none⟩), .pointer (some ⟨bf, 0, none⟩), .pointer (some ⟨bi, 0, none⟩), .int .i64 i] ∧ i + n = 64 ∧ Arr w' bi ((blockL k nonce ctr).take i ++ List.replicate (64 - i) 0) ∧ Chg [bi] wi w') (64) ?_ ?_
              · exact ⟨0, rfl, rfl, by simpa using hai, Chg.refl' _ _⟩
              · rintro n vs J wj ⟨i, rfl, hi, haj, hcj⟩
                refine wpE_seq ?_
                refine wpE_seq ?_
                refine wpE_region ?_
                refine wpL_value rfl x_move (wpL_value rfl (x_lss rfl rfl) ?_)
                refine wpL_nil (thenE_norm ?_)
                have hfl := fill_len hbl (show i ≤ 64 by omega)
                have lf := hvi.lt
                have hwj := hwi.nb hcj (by have := hwh.lt; omega)
                have hvj := hvi.nb hcj (by have := hah.lt; omega)
                refine wpE_cond_d rfl (fun h => ?_) (fun h => ?_)
                · skip
                  refine wpE_skip (thenE_norm ?_)
                  refine wpE_seq ?_
                  refine wpE_block ?_
                  refine wpE_seq ?_
                  have hob9 : ∃ q, n = q + 1 := ⟨n - 1, by omega⟩
                  obtain ⟨n, rfl⟩ := hob9
                  have hq4 : ((i : Int) / 4) = ((i / 4 : Nat) : Int) := by omega
                  have hr4 : ((i : Int) % 4) = ((i % 4 : Nat) : Int) := by omega
                  have hsh := shiftM (i % 4) (by omega)
                  have hpg := putLittle_get (sumW was (roundsL was 10) 16) i (by omega)
                  rw [← hbo, sumW_get _ _ _ _ (by omega), ← toU8_u32] at hpg
                  refine wpE_draw mixed (.pure 0 (.pure 1 (.pure 2 (.read 3 (.pure 4 (.pure 5 (.pure 6 (.read 7 (.pure 8 (.pure 9 .nil)))))))))) (by kernel_rfl) ?_
                  refine wpP_pure rfl rfl rfl (fun _ => x_move) ?_
                  refine wpP_pure rfl rfl rfl (fun _ => (x_quo64 rfl rfl (by omega))) ?_
                  refine wpP_pure rfl rfl rfl (fun _ => x_idxA (i / 4) Tryz.underlying205 I34 rfl rfl (by first | rfl | omega) (by first | assumption | omega)) ?_
                  refine wpP_rd rfl rfl rfl Tryz.underlying34 rfl rfl (hvj.c (getD_some (d := 0) (by omega)) rfl rfl) ?_
                  refine wpP_pure rfl rfl rfl (fun _ => x_move) ?_
                  refine wpP_pure rfl rfl rfl (fun _ => (x_quo64 rfl rfl (by omega))) ?_
                  refine wpP_pure rfl rfl rfl (fun _ => x_idxA (i / 4) Tryz.underlying205 I34 rfl rfl (by first | rfl | omega) (by first | assumption | omega)) ?_
                  refine wpP_rd rfl rfl rfl Tryz.underlying34 rfl rfl (hwj.c (getD_some (d := 0) (by omega)) rfl rfl) ?_
                  refine wpP_pure rfl rfl rfl (fun _ => (x_add32u rfl rfl)) ?_
                  refine wpP_pure rfl rfl rfl (fun _ => x_assign) ?_
                  refine wpP_nil (thenE_norm ?_)
                  refine wpE_region ?_
                  refine wpL_value rfl x_move (wpL_value rfl x_move (wpL_value rfl x_move (wpL_value rfl (x_rem64 rfl rfl (by omega)) (wpL_value rfl (x_conv64u rfl Tryz.underlying3 Tryz.underlying130) (wpL_value rfl (x_mul64u (a := 8) rfl rfl) ?_)))))
                  refine wpL_value rfl (x_shr32u rfl rfl (s := 8 * (i % 4)) (by rw [hr4]; exact hsh)) ?_
                  refine wpL_value rfl (x_conv8u rfl Tryz.underlying34 Tryz.underlying5) ?_
                  refine wpL_value rfl (x_idxA (i) Tryz.underlying115 I5 rfl rfl (by first | rfl | omega) (by first | assumption | omega)) ?_
                  refine wpL_exs rfl (x_store1 (a := toU8 ((shr32 ((roundsL was 10).getD (i / 4) 0 + was.getD (i / 4) 0) (8 * (i % 4))).toNat : Int)) (k := i) I5 rfl rfl rfl rfl (haj) rfl (by first | assumption | omega)) ?_
                  rintro wk ⟨hak, hck, hsk⟩
                  refine wpL_nil (blockE_norm (thenE_norm ?_))
                  refine wpE_region ?_
                  refine wpL_value rfl x_move (wpL_value rfl (x_add64 rfl rfl (by omega)) (wpL_value rfl x_assign ?_))
                  refine wpL_nil (thenE_norm ?_)
                  have hck : Chg [bi] wj wk := hck
                  refine Exists.intro (n) (And.intro (by omega) ?_)
                  refine ⟨i + 1, rfl, by omega, ?_, hcj.tr hck⟩
                  rw [← fill_step hbl (by omega) hpg]
                  exact hak
                · skip
                  refine wpE_exit (thenE_exit (thenE_exit (blockE_exit (thenE_norm ?_))))
                  refine wpE_seq ?_
                  refine wpE_region ?_
                  have hob10 : i = 64 := by omega
                  obtain rfl := hob10
                  rw [fill_full hbl] at haj
                  refine wpL_value rfl (x_loadN 64 Tryz.underlying115 rfl I115 rfl rfl (haj) (hbl)) ?_
                  have hrj := hrgi.nb hcj (by have := hrgh.lt; omega)
                  refine wpL_exs rfl (x_storeN 64 I115 rfl (hrj) rfl rfl (rfl) (hbl)) ?_
                  rintro wk ⟨hak, hck, hsk⟩
                  refine wpL_nil (thenE_norm ?_)
                  refine wpE_ret (fin_retR ?_)
                  exact ⟨[arrV (blockL k nonce ctr)], ⟨⟨_, rfl, run_loadN 64 Tryz.underlying115 rfl I115 rfl hak hbl⟩, trivial⟩, rfl, (((hc0g.t1 hch (by omega)).tr hci).t1 hcj (by have := hc0g.1; omega)).t1 hck (by have := hn3; have := hc1.1; have := hc2.1; omega)⟩
end Go.Proofs.YtenhmbhflgnhlaaGreat
