/- The law SlotsMade of the slots returns true for every input, and leaves its inputs as they were; no condition. -/
import Derived.Test.YtenhmbhflgnhlaaQLaw12
import Derived.Test.YtenhmbhflgnhlaaSac1
namespace Go.Proofs.Ytenhmbhflgnhlaa
open Go Go.Sac
set_option maxRecDepth 100000
set_option maxHeartbeats 4000000
theorem SlotsMade_ok (w : World) (lv cv : Value) (l : List StepV) (ch : List UInt8) (hl : Sl w lv l) (hch : Sl w cv ch) :
    Ret Try.prog 4 #[lv, cv] w fun v w' => v = .bool true ∧ Chg [] w w' := by
  obtain ⟨pl, cl, rfl⟩ := hl.form rfl
  obtain ⟨pc, cc, rfl⟩ := hch.form rfl
  refine enter [4] Try.func4 rfl rfl (Nat.le_of_ble_eq_true rfl) ?_
  refine wpE_seq ?_
  refine wpE_region ?_
  refine wpL_value rfl x_assign ?_
  refine wpL_nil (thenE_norm ?_)
  refine wpE_seq ?_
  refine wpE_seq ?_
  refine wpE_region ?_
  refine wpL_call rfl C8 (known_ok w) ?_
  rintro _ w1 ⟨rfl, hc1⟩
  refine wpL_value rfl (x_not rfl) ?_
  refine wpL_nil (thenE_norm ?_)
  refine wpE_cond_f (rfl) ?_
  refine wpE_skip (thenE_norm ?_)
  refine wpE_seq ?_
  refine wpE_seq ?_
  refine wpE_region ?_
  refine wpL_value rfl x_move (wpL_value rfl (x_len_slice rfl Try.underlying40) ?_)
  by_cases h20 : (20 : Int) < l.length
  · skip
    refine wpL_value rfl (x_to (x_gtr rfl rfl) (congrArg Value.bool (decide_eq_true (h20)))) ?_
    refine wpL_value rfl x_move (wpL_no rfl rfl (wpL_no rfl rfl (wpL_no rfl rfl (wpL_value rfl (x_pick_t rfl) ?_))))
    refine wpL_nil (thenE_norm ?_)
    refine wpE_cond_t (rfl) ?_
    refine wpE_seq ?_
    refine wpE_region ?_
    refine wpL_value rfl x_assign ?_
    refine wpL_nil (thenE_norm ?_)
    refine wpE_ret (thenE_ret (fin_ret ?_))
    exact ⟨rfl, hc1⟩
  · skip
    refine wpL_value rfl (x_to (x_gtr rfl rfl) (congrArg Value.bool (decide_eq_false (h20)))) ?_
    refine wpL_value rfl x_move (wpL_yes rfl (wpL_value rfl x_move (wpL_yes rfl (wpL_value rfl (x_len_slice rfl Try.underlying22) (wpL_yes rfl (wpL_value rfl (x_gtr rfl rfl) (wpL_value rfl (x_pick_f rfl) ?_)))))))
    refine wpL_nil (thenE_norm ?_)
    refine wpE_cond_d rfl (fun hch20 => ?_) (fun hch20 => ?_)
    · skip
      refine wpE_seq ?_
      refine wpE_region ?_
      refine wpL_value rfl x_assign ?_
      refine wpL_nil (thenE_norm ?_)
      refine wpE_ret (thenE_ret (fin_ret ?_))
      exact ⟨rfl, hc1⟩
    · skip
      refine wpE_skip (thenE_norm ?_)
      refine wpE_seq ?_
      refine wpE_region ?_
      refine wpL_call rfl C9 (new_run w w1 64 (by decide) hc1) ?_
      rintro _ w2 ⟨b, kv, r, rfl, hd2, hc2, hF2⟩
      refine wpL_value rfl x_assign ?_
      refine wpL_nil (thenE_norm ?_)
      refine wpE_seq ?_
      refine wpE_region ?_
      refine wpL_value rfl x_move ?_
      refine wpL_call rfl C10 (make_run hd2 (by decide) (by decide)) ?_
      rintro _ w3 ⟨sb, fr, rfl, hS3, hc3, hsb, hfr⟩
      refine wpL_value rfl x_move (wpL_value rfl (x_extract rfl rfl) (wpL_value rfl (x_extract rfl rfl) (wpL_value rfl x_assign (wpL_value rfl x_assign ?_))))
      refine wpL_nil (thenE_norm ?_)
      refine wpE_seq ?_
      refine wpE_seq ?_
      refine wpE_region ?_
      refine wpL_value rfl x_move (wpL_value rfl (x_neq rfl rfl) ?_)
      refine wpL_nil (thenE_norm ?_)
      refine wpE_cond_df rfl (fun h => h rfl) ?_
      refine wpE_skip (thenE_norm ?_)
      refine wpE_seq ?_
      refine wpE_seq ?_
      refine wpE_region ?_
      refine wpL_value rfl x_assign ?_
      refine wpL_nil (thenE_norm ?_)
      refine wpE_block ?_
      refine wpE_loop [8] [8, 38, 39, 40, 41, 42, 43, 44, 45, 46, 47, 48, 49, 50, 51, 52, 53, 54, 55, 56, 57, 58, 59, 60, 61, 62] (fun n vs w' => ∃ (i : Nat) (C : Cont) (ds : DSt) (s : SSt), vs = [.int .i64 i] ∧ i + n = l.length ∧ Sess w w' b kv r sb fr 64 (i + 1) C ds s) (l.length) (by kernel_rfl) ?_ ?_
      · exact ⟨0, _, _, _, rfl, by omega, hS3⟩
      · rintro n vs J w4 ⟨i, C, ds, s, rfl, hi, hS4⟩
        refine wpE_seq ?_
        refine wpE_seq ?_
        refine wpE_region ?_
        refine wpL_value rfl x_move (wpL_value rfl x_move (wpL_value rfl (x_len_slice rfl Try.underlying40) (wpL_value rfl (x_lss rfl rfl) ?_)))
        refine wpL_nil (thenE_norm ?_)
        refine wpE_cond_d rfl (fun hil => ?_) (fun hil => ?_)
        · skip
          refine wpE_skip (thenE_norm ?_)
          refine wpE_seq ?_
          refine wpE_block ?_
          have hob1 : ∃ q, n = q + 1 := ⟨n - 1, by omega⟩
          obtain ⟨n, rfl⟩ := hob1
          have hli : l[i]? = some (l.getD i step0) := getD_some (by omega)
          generalize l.getD i step0 = x at *
          have hl4 := hl.mod0 hS4.now
          refine wpE_draw mixed (.pure 0 (.pure 1 (.pure 2 (.pure 3 (.pure 4 (.read 5 (.pure 6 (.pure 7 (.pure 8 (.pure 9 (.read 10 (.pure 12 (.pure 13 (.pure 14 (.pure 15 (.read 16 (.eff 11 [5, 16] (.eff 17 [5] (.eff 18 [] .nil))))))))))))))))))) (by kernel_rfl) ?_
          refine wpP_pure rfl rfl rfl (fun _ => x_move) ?_
          refine wpP_pure rfl rfl rfl (fun _ => x_move) ?_
          refine wpP_pure rfl rfl rfl (fun _ => x_move) ?_
          refine wpP_ex rfl rfl rfl (x_idx (i) Try.underlying40 I42 rfl (hl4) rfl rfl (by first | rfl | omega) (by omega)) ?_
          rintro _ ⟨b1, o1, rfl, he1, hb1⟩
          refine wpP_pure rfl rfl rfl (fun _ => (x_fieldAddr Try.underlying42 rfl I3 rfl rfl)) ?_
          refine wpP_rd rfl rfl rfl Try.underlying3 rfl rfl ((hl4.at he1 hli).cell (i := 1) rfl) ?_
          refine wpP_pure rfl rfl rfl (fun _ => x_move) ?_
          refine wpP_pure rfl rfl rfl (fun _ => x_move) ?_
          refine wpP_ex rfl rfl rfl (x_idx (i) Try.underlying40 I42 rfl (hl4) rfl rfl (by first | rfl | omega) (by omega)) ?_
          rintro _ ⟨b2, o2, rfl, he2, hb2⟩
          refine wpP_pure rfl rfl rfl (fun _ => (x_fieldAddr Try.underlying42 rfl I5 rfl rfl)) ?_
          refine wpP_rd rfl rfl rfl Try.underlying5 rfl rfl ((hl4.at he2 hli).cell (i := 2) rfl) ?_
          refine wpP_pure rfl rfl rfl (fun _ => x_move) ?_
          refine wpP_pure rfl rfl rfl (fun _ => x_move) ?_
          refine wpP_ex rfl rfl rfl (x_idx (i) Try.underlying40 I42 rfl (hl4) rfl rfl (by first | rfl | omega) (by omega)) ?_
          rintro _ ⟨b3, o3, rfl, he3, hb3⟩
          refine wpP_pure rfl rfl rfl (fun _ => (x_fieldAddr Try.underlying42 rfl I5 rfl rfl)) ?_
          refine wpP_rd rfl rfl rfl Try.underlying5 rfl rfl ((hl4.at he3 hli).cell (i := 3) rfl) ?_
          refine wpP_call rfl rfl rfl C13 (key_ok x.kek _) ?_
          rintro _ w5 ⟨rfl, hc5⟩
          have hc5 : Chg [] w4 w5 := hc5
          refine ⟨⟨((hl4.mod0 hc5).at he1 hli).cell (i := 1) rfl, ((hl4.mod0 hc5).at he3 hli).cell (i := 3) rfl, trivial⟩, ?_⟩
          refine wpP_call rfl rfl rfl C13 (key_ok x.key _) ?_
          rintro _ w6 ⟨rfl, hc6⟩
          refine ⟨⟨((hl4.mod0 (hc5.tr hc6)).at he1 hli).cell (i := 1) rfl, trivial⟩, ?_⟩
          refine wpP_call rfl rfl rfl C12 (put_any ((hS4.chg0 hc5).chg0 hc6) (by omega) x.i (keyN x.kek) (keyN x.key) rfl rfl) ?_
          rintro _ w7 ⟨⟨e7, rfl⟩, ⟨C7, ds7, s7, hS7⟩, hc7⟩
          refine ⟨trivial, ?_⟩
          refine wpP_nil (blockE_norm (thenE_norm ?_))
          refine wpE_region ?_
          refine wpL_value rfl x_move (wpL_value rfl (x_add64 rfl rfl (by omega)) (wpL_value rfl x_assign ?_))
          refine wpL_nil (thenE_norm ?_)
          refine Exists.intro (n) (And.intro (by omega) ?_)
          exact ⟨i + 1, _, _, _, vs_cons (int_eq rfl) vs_nil, by omega, hS7⟩
        · skip
          refine wpE_exit (thenE_exit (thenE_exit (blockE_exit (thenE_norm ?_))))
          refine wpE_seq ?_
          refine wpE_region ?_
          refine wpL_value rfl x_move ?_
          have hob2 : n = 0 := by omega
          obtain rfl := hob2
          refine wpL_call rfl C10 (make_run hS4.disk (by decide) (by omega)) ?_
          rintro _ w5 ⟨sb2, fr2, rfl, hS5, hc5, hsb2, hfr2⟩
          refine wpL_value rfl x_move (wpL_value rfl (x_extract rfl rfl) (wpL_value rfl (x_extract rfl rfl) (wpL_value rfl x_assign (wpL_value rfl x_assign ?_))))
          refine wpL_nil (thenE_norm ?_)
          refine wpE_seq ?_
          refine wpE_seq ?_
          refine wpE_region ?_
          refine wpL_value rfl x_move ?_
          refine wpL_value rfl (x_to (x_neq rfl rfl) (congrArg Value.bool (decide_eq_false (fun h => h rfl)))) ?_
          refine wpL_value rfl x_move (wpL_yes rfl (wpL_value rfl x_move (wpL_yes rfl ?_)))
          refine wpL_call rfl C16 (used_run hS5) ?_
          rintro v6 w6 ⟨ho6, hS6, hc6⟩
          rw [show usedC (fun _ => none) = [] by decide] at ho6
          have hf6 := ho6.form (n := 0) rfl
          obtain ⟨p6, c6, hv6⟩ := hf6
          subst hv6
          refine wpL_yes rfl (wpL_value rfl (x_len_slice rfl Try.underlying43) (wpL_yes rfl ?_))
          refine wpL_value rfl (x_to (x_neq rfl rfl) (congrArg Value.bool (decide_eq_false (fun h => h rfl)))) ?_
          refine wpL_value rfl (x_pick_f rfl) (wpL_value rfl x_move (wpL_yes rfl (wpL_value rfl x_move (wpL_yes rfl ?_))))
          refine wpL_call rfl C11 (free_run hS6) ?_
          rintro _ w7 ⟨rfl, hS7, hc7⟩
          refine wpL_yes rfl (wpL_value rfl (x_neq rfl rfl) (wpL_value rfl (x_pick_f rfl) ?_))
          refine wpL_nil (thenE_norm ?_)
          refine wpE_cond_df rfl (fun h => h rfl) ?_
          refine wpE_skip (thenE_norm ?_)
          refine wpE_seq ?_
          refine wpE_region ?_
          refine wpL_value rfl x_move (wpL_value rfl x_move ?_)
          have hlt7 := hS7.lt
          refine wpL_call rfl C17 (crash_run hS7 _ ch (hch.mod0 hS7.now) (by omega) (fun x hx h => by have := hch.lt x hx; have := hS7.ge x (by simp [SF, h]); omega)) ?_
          rintro _ w8 ⟨hD8, hc8⟩
          refine wpL_nil (thenE_norm ?_)
          refine wpE_seq ?_
          refine wpE_region ?_
          refine wpL_value rfl x_move ?_
          refine wpL_call rfl C18 (open_run hD8) ?_
          rintro _ w9 ⟨sb3, fr3, rfl, hS9, hc9, hsb3, hfr3⟩
          refine wpL_value rfl x_move (wpL_value rfl (x_extract rfl rfl) (wpL_value rfl (x_extract rfl rfl) (wpL_value rfl x_assign (wpL_value rfl x_assign ?_))))
          refine wpL_nil (thenE_norm ?_)
          refine wpE_seq ?_
          refine wpE_seq ?_
          refine wpE_region ?_
          refine wpL_value rfl x_move ?_
          refine wpL_value rfl (x_to (x_neq rfl rfl) (congrArg Value.bool (decide_eq_false (fun h => h rfl)))) ?_
          refine wpL_value rfl x_move (wpL_yes rfl (wpL_value rfl x_move (wpL_yes rfl ?_)))
          refine wpL_call rfl C16 (used_run hS9) ?_
          rintro v10 w10 ⟨ho10, hS10, hc10⟩
          rw [show usedC (fun _ => none) = [] by decide] at ho10
          have hf10 := ho10.form (n := 0) rfl
          obtain ⟨p10, c10, hv10⟩ := hf10
          subst hv10
          refine wpL_yes rfl (wpL_value rfl (x_len_slice rfl Try.underlying43) (wpL_yes rfl (wpL_value rfl (x_neq rfl rfl) (wpL_value rfl (x_pick_f rfl) ?_))))
          refine wpL_nil (thenE_norm ?_)
          refine wpE_cond_df rfl (fun h => h rfl) ?_
          refine wpE_skip (thenE_norm ?_)
          refine wpE_seq ?_
          refine wpE_seq ?_
          refine wpE_region ?_
          refine wpL_value rfl x_assign ?_
          refine wpL_nil (thenE_norm ?_)
          refine wpE_block ?_
          refine wpE_loop [13] [4, 13, 14, 15, 97, 98, 99, 100, 101, 102, 103, 104, 105, 106, 107, 108, 109] (fun n vs w' => ∃ (i k : Nat) (ds : DSt) (s : SSt), vs = [.int .i64 i] ∧ i + n = 24 ∧ Sess w w' b kv r sb3 fr3 64 k (fun _ => none) ds s) (24) (by kernel_rfl) ?_ ?_
          · exact ⟨0, _, _, _, rfl, rfl, hS10⟩
          · rintro n vs J w11 ⟨j, k, ds2, s2, rfl, hj, hS11⟩
            refine wpE_seq ?_
            refine wpE_seq ?_
            refine wpE_region ?_
            refine wpL_value rfl x_move (wpL_value rfl (x_lss rfl rfl) ?_)
            refine wpL_nil (thenE_norm ?_)
            refine wpE_cond_d rfl (fun hj24 => ?_) (fun hj24 => ?_)
            · skip
              refine wpE_skip (thenE_norm ?_)
              refine wpE_seq ?_
              refine wpE_block ?_
              refine wpE_seq ?_
              refine wpE_region ?_
              refine wpL_value rfl x_move (wpL_value rfl x_move ?_)
              have hob3 : ∃ q, n = q + 1 := ⟨n - 1, by omega⟩
              obtain ⟨n, rfl⟩ := hob3
              refine wpL_call rfl C13 (key_ok 1 w11) ?_
              rintro _ w12 ⟨rfl, hc12⟩
              refine wpL_call rfl C15 (get_none (hS11.chg0 hc12) j (by omega) (keyN 1) rfl rfl) ?_
              rintro _ w13 ⟨rfl, hS13, hc13⟩
              refine wpL_value rfl x_move (wpL_value rfl (x_extract rfl rfl) (wpL_value rfl (x_extract rfl rfl) ?_))
              refine wpL_allocA (List.replicate 32 (0 : UInt8)) I33 rfl rfl rfl ?_
              rintro w14 b14 hn14 ha14 hc14 hl14
              refine wpL_exs rfl (x_storeN 32 I33 rfl (ha14) rfl rfl (rfl) (rfl)) ?_
              rintro w15 ⟨ha15, hc15, hs15⟩
              refine wpL_value rfl x_assign ?_
              refine wpL_nil (thenE_norm ?_)
              refine wpE_seq ?_
              refine wpE_region ?_
              refine wpL_value rfl x_move (wpL_value rfl (x_neq rfl rfl) ?_)
              refine wpL_nil (thenE_norm ?_)
              refine wpE_cond_df rfl (fun h => h rfl) ?_
              refine wpE_skip (blockE_norm (thenE_norm ?_))
              refine wpE_region ?_
              refine wpL_value rfl x_move (wpL_value rfl (x_add64 rfl rfl (by omega)) (wpL_value rfl x_assign ?_))
              refine wpL_nil (thenE_norm ?_)
              refine Exists.intro (n) (And.intro (by omega) ?_)
              exact ⟨j + 1, _, _, _, vs_cons (int_eq rfl) vs_nil, by omega, hS13.chg0 (hc14.t1 hc15 hn14)⟩
            · skip
              refine wpE_exit (thenE_exit (thenE_exit (blockE_exit (thenE_norm ?_))))
              refine wpE_seq ?_
              refine wpE_region ?_
              refine wpL_value rfl x_move ?_
              refine wpL_call rfl C13 (key_ok 1 w11) ?_
              rintro _ w12 ⟨rfl, hc12⟩
              refine wpL_call rfl C15 (get_bad (hS11.chg0 hc12) 24 rfl (keyN 1) rfl) ?_
              rintro _ w13 ⟨rfl, hS13, hc13⟩
              refine wpL_value rfl x_move (wpL_value rfl (x_extract rfl rfl) (wpL_value rfl (x_extract rfl rfl) ?_))
              refine wpL_allocA (List.replicate 32 (0 : UInt8)) I33 rfl rfl rfl ?_
              rintro w14 b14 hn14 ha14 hc14 hl14
              refine wpL_exs rfl (x_storeN 32 I33 rfl (ha14) rfl rfl (rfl) (rfl)) ?_
              rintro w15 ⟨ha15, hc15, hs15⟩
              refine wpL_value rfl x_assign ?_
              refine wpL_nil (thenE_norm ?_)
              refine wpE_seq ?_
              refine wpE_region ?_
              refine wpL_value rfl x_move ?_
              refine wpL_call rfl C13 (key_ok 1 w15) ?_
              rintro _ w16 ⟨rfl, hc16⟩
              refine wpL_call rfl C15 (get_bad ((hS13.chg0 (hc14.t1 hc15 hn14)).chg0 hc16) (-1) rfl (keyN 1) rfl) ?_
              rintro _ w17 ⟨rfl, hS17, hc17⟩
              refine wpL_value rfl x_move (wpL_value rfl (x_extract rfl rfl) (wpL_value rfl (x_extract rfl rfl) ?_))
              refine wpL_allocA (List.replicate 32 (0 : UInt8)) I33 rfl rfl rfl ?_
              rintro w18 b18 hn18 ha18 hc18 hl18
              refine wpL_exs rfl (x_storeN 32 I33 rfl (ha18) rfl rfl (rfl) (rfl)) ?_
              rintro w19 ⟨ha19, hc19, hs19⟩
              refine wpL_value rfl x_assign ?_
              refine wpL_nil (thenE_norm ?_)
              refine wpE_seq ?_
              refine wpE_region ?_
              refine wpL_value rfl x_move ?_
              have hS19 := hS17.chg0 (hc18.t1 hc19 hn18)
              refine wpL_value rfl (x_to (x_eql rfl rfl) (congrArg Value.bool (decide_eq_true (rfl)))) ?_
              refine wpL_value rfl x_move (wpL_yes rfl (wpL_value rfl x_move (wpL_yes rfl ?_)))
              refine wpL_value rfl (x_to (x_eql rfl rfl) (congrArg Value.bool (decide_eq_true (rfl)))) ?_
              refine wpL_value rfl (x_pick_t rfl) (wpL_value rfl x_move (wpL_yes rfl (wpL_value rfl x_move (wpL_yes rfl ?_))))
              refine wpL_call rfl C14 (erase_bad hS19 (-1) rfl) ?_
              rintro _ w20 ⟨rfl, hS20, hc20⟩
              refine wpL_yes rfl (wpL_value rfl (x_eql rfl rfl) (wpL_value rfl (x_pick_t rfl) (wpL_value rfl x_assign ?_)))
              refine wpL_nil (thenE_norm ?_)
              refine wpE_ret (fin_ret ?_)
              exact ⟨rfl, hS20.now⟩
end Go.Proofs.Ytenhmbhflgnhlaa
