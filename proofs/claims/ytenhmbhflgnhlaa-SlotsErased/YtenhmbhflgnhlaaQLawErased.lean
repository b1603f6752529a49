/- The law SlotsErased of the slots returns true for every input, and leaves its inputs as they were; no condition. -/
import Derived.Test.YtenhmbhflgnhlaaQLaw12
import Derived.Test.YtenhmbhflgnhlaaSac1
namespace Go.Proofs.Ytenhmbhflgnhlaa
open Go Go.Sac
set_option maxRecDepth 100000
set_option maxHeartbeats 4000000
theorem strne_same {a b : List UInt8} (h : a = b) : Value.bool (!((⟨a.toArray⟩ : ByteArray).toList == (⟨b.toArray⟩ : ByteArray).toList)) = .bool false := by subst h; simp
theorem SlotsErased_ok (w : World) (a : UInt8) (kek kel ka kb next : List UInt8) (again : Bool) (cv : Value) (ch : List UInt8) (hch : Sl w cv ch)
    (h1 : kek.length = 32) (h2 : kel.length = 32) (h3 : ka.length = 32) (h4 : kb.length = 32) (h5 : next.length = 32) :
    Ret Try.prog 6 #[.int .u8 a.toNat, arrV kek, arrV kel, arrV ka, arrV kb, arrV next, .bool again, cv] w fun v w' => v = .bool true ∧ Chg [] w w' := by
  obtain ⟨pc, cc, rfl⟩ := hch.form rfl
  refine enter [16] Try.func6 rfl rfl (Nat.le_of_ble_eq_true rfl) ?_
  refine wpE_seq ?_
  refine wpE_region ?_
  refine wpL_boxA (l := kek) rfl rfl ?_
  rintro w1 b1 hn1 ha1 hc1 hl1
  refine wpL_boxA (l := kel) rfl rfl ?_
  rintro w2 b2 hn2 ha2 hc2 hl2
  refine wpL_boxA (l := ka) rfl rfl ?_
  rintro w3 b3 hn3 ha3 hc3 hl3
  refine wpL_boxA (l := kb) rfl rfl ?_
  rintro w4 b4 hn4 ha4 hc4 hl4
  refine wpL_boxA (l := next) rfl rfl ?_
  rintro w5 b5 hn5 ha5 hc5 hl5
  refine wpL_value rfl x_assign ?_
  refine wpL_nil (thenE_norm ?_)
  refine wpE_seq ?_
  refine wpE_seq ?_
  refine wpE_region ?_
  have hc05 : Chg [] w w5 := (((hc1.tr hc2).tr hc3).tr hc4).tr hc5
  refine wpL_call rfl C8 (known_ok w5) ?_
  rintro _ w6 ⟨rfl, hc6⟩
  refine wpL_value rfl (x_not rfl) ?_
  refine wpL_nil (thenE_norm ?_)
  refine wpE_cond_f (rfl) ?_
  refine wpE_skip (thenE_norm ?_)
  refine wpE_seq ?_
  refine wpE_seq ?_
  refine wpE_region ?_
  refine wpL_value rfl x_move (wpL_value rfl (x_len_slice rfl Try.underlying22) (wpL_value rfl (x_gtr rfl rfl) ?_))
  refine wpL_nil (thenE_norm ?_)
  refine wpE_cond_d rfl (fun hch20 => ?_) (fun hch20 => ?_)
  · skip
    refine wpE_seq ?_
    refine wpE_region ?_
    refine wpL_value rfl x_assign ?_
    refine wpL_nil (thenE_norm ?_)
    refine wpE_ret (thenE_ret (fin_ret ?_))
    exact ⟨rfl, hc05.tr hc6⟩
  · skip
    refine wpE_skip (thenE_norm ?_)
    refine wpE_seq ?_
    refine wpE_region ?_
    have hk24 : (a % 24).toNat < 24 := by rw [UInt8.toNat_mod]; exact Nat.mod_lt _ (by decide)
    refine wpL_call rfl C9 (new_run w5 w6 64 (by decide) hc6) ?_
    rintro _ w7 ⟨b6, kv, r, rfl, hd7, hc7, hF7⟩
    refine wpL_call rfl C9 (new_run w5 w7 64 (by decide) (hc6.tr hc7)) ?_
    rintro _ w8 ⟨b7, kv2, r2, rfl, hd8, hc8, hF8⟩
    refine wpL_value rfl x_assign (wpL_value rfl x_assign ?_)
    refine wpL_nil (thenE_norm ?_)
    refine wpE_seq ?_
    refine wpE_region ?_
    refine wpL_value rfl x_move ?_
    have hlt7 := hd7.lt
    have hlt8 := hd8.lt
    refine wpL_call rfl C10 (make_run (hd7.chg0 hc8) (by decide) (by decide)) ?_
    rintro _ w9 ⟨sb, fr, rfl, hS9, hc9, hsb, hfr⟩
    refine wpL_value rfl x_move (wpL_value rfl (x_extract rfl rfl) (wpL_value rfl (x_extract rfl rfl) (wpL_value rfl x_assign (wpL_value rfl x_assign ?_))))
    refine wpL_nil (thenE_norm ?_)
    refine wpE_seq ?_
    refine wpE_region ?_
    refine wpL_value rfl x_move ?_
    have hge9 := hS9.ge
    have hlt9 := hS9.lt
    refine wpL_call rfl C10 (make_run (hd8.chg hc9 (fun x hx h => by have := hlt7 x h; have := hF8 x hx; omega) hd7.ge) (by decide) (by decide)) ?_
    rintro _ w10 ⟨sb2, fr2, rfl, hT10, hc10, hsb2, hfr2⟩
    refine wpL_value rfl x_move (wpL_value rfl (x_extract rfl rfl) (wpL_value rfl (x_extract rfl rfl) (wpL_value rfl x_assign (wpL_value rfl x_assign ?_))))
    refine wpL_nil (thenE_norm ?_)
    refine wpE_seq ?_
    refine wpE_region ?_
    refine wpL_value rfl x_move (wpL_value rfl (x_rem8u (b := 24) rfl rfl (by decide)) (wpL_value rfl (x_convI rfl Try.underlying5 Try.underlying3 (by omega)) (wpL_value rfl x_assign ?_)))
    refine wpL_nil (thenE_norm ?_)
    refine wpE_seq ?_
    refine wpE_seq ?_
    refine wpE_region ?_
    refine wpL_value rfl x_move ?_
    have hdj : ∀ x ∈ SF sb fr b6 kv r, x ∉ SF sb2 fr2 b7 kv2 r2 := fun x hx hy => by
      have h8 := hc8.1
      have hx9 := hlt9 x hx
      simp only [SF, List.mem_cons] at hx hy
      rcases hy with rfl | rfl | hy
      · omega
      · omega
      · have q1 := hF8 x hy
        have q2 := hlt8 x hy
        rcases hx with rfl | rfl | hx
        · omega
        · omega
        · have := hlt7 x hx; omega
    have hdj2 : ∀ x ∈ SF sb2 fr2 b7 kv2 r2, x ∉ SF sb fr b6 kv r := fun x hx hy => hdj x hy hx
    have hDT : ∀ x ∈ DF b7 kv2 r2, x ∈ SF sb2 fr2 b7 kv2 r2 := fun x hx => by simp [SF, hx]
    have hS10 := hS9.chg hc10 (fun x hx h => hdj x hx (hDT x h)) hd8.ge
    have hA1 : Arr w5 b1 kek := (((ha1.chg0 hc2).chg0 hc3).chg0 hc4).chg0 hc5
    have hA2 : Arr w5 b2 kel := ((ha2.chg0 hc3).chg0 hc4).chg0 hc5
    have hA3 : Arr w5 b3 ka := (ha3.chg0 hc4).chg0 hc5
    have hA4 : Arr w5 b4 kb := ha4.chg0 hc5
    have hge10 := hT10.ge
    have hge10' := hS10.ge
    refine wpL_value rfl (x_to (x_neq rfl rfl) (congrArg Value.bool (decide_eq_false (fun h => h rfl)))) ?_
    refine wpL_value rfl x_move (wpL_yes rfl (wpL_value rfl x_move (wpL_yes rfl ?_)))
    refine wpL_value rfl (x_to (x_neq rfl rfl) (congrArg Value.bool (decide_eq_false (fun h => h rfl)))) ?_
    refine wpL_value rfl (x_pick_f rfl) (wpL_value rfl x_move (wpL_yes rfl (wpL_value rfl x_move (wpL_yes rfl (wpL_value rfl x_move (wpL_yes rfl ?_))))))
    refine wpL_value rfl (x_loadN 32 Try.underlying33 rfl I33 rfl rfl (hA1.chg0 hS10.now) (h1)) ?_
    refine wpL_yes rfl ?_
    refine wpL_value rfl (x_loadN 32 Try.underlying33 rfl I33 rfl rfl (hA3.chg0 hS10.now) (h3)) ?_
    refine wpL_yes rfl ?_
    refine wpL_call rfl C12 (put_run hS10 (by decide) _ hk24 kek ka h1 h3) ?_
    rintro _ w11 ⟨rfl, hS11, hc11⟩
    refine wpL_yes rfl ?_
    have hT11 := hT10.chg hc11 hdj2 hge10'
    refine wpL_value rfl (x_to (x_neq rfl rfl) (congrArg Value.bool (decide_eq_false (fun h => h rfl)))) ?_
    refine wpL_value rfl (x_pick_f rfl) (wpL_value rfl x_move (wpL_yes rfl (wpL_value rfl x_move (wpL_yes rfl (wpL_value rfl x_move (wpL_yes rfl ?_))))))
    refine wpL_value rfl (x_loadN 32 Try.underlying33 rfl I33 rfl rfl (hA2.chg0 hT11.now) (h2)) ?_
    refine wpL_yes rfl ?_
    refine wpL_value rfl (x_loadN 32 Try.underlying33 rfl I33 rfl rfl (hA4.chg0 hT11.now) (h4)) ?_
    refine wpL_yes rfl ?_
    refine wpL_call rfl C12 (put_run hT11 (by decide) _ hk24 kel kb h2 h4) ?_
    rintro _ w12 ⟨rfl, hT12, hc12⟩
    refine wpL_yes rfl (wpL_value rfl (x_neq rfl rfl) (wpL_value rfl (x_pick_f rfl) ?_))
    refine wpL_nil (thenE_norm ?_)
    have hS12 := hS11.chg hc12 hdj hge10
    have hb5 : ∀ {w' : World}, Chg [] w5 w' → Arr w' b5 next := fun h => ha5.chg0 h
    have hob1 := put_put (kek := kek) (kel := kel) (nx := next) hS10.2.2 (by decide) hk24 h3 h4 h5
    obtain ⟨hPP, hPE⟩ := hob1
    have hgS12 := hS12.ge
    have hgT12 := hT12.ge
    refine wpE_cond_df rfl (fun h => h rfl) ?_
    refine wpE_skip (thenE_norm ?_)
    refine wpE_cut [20, 22] [20, 22, 70, 71, 72, 73, 74, 75, 76, 77, 78, 79, 80, 81, 82, 83, 84, 85, 86] (fun vs w' => ∃ (k : Nat) (C C' : Cont) (ds ds' : DSt) (s s' : SSt), vs = [.int .i64 0, .int .i64 0] ∧ Sess w5 w' b6 kv r sb fr 64 k C ds s ∧ Sess w5 w' b7 kv2 r2 sb2 fr2 64 k C' ds' s' ∧ ds.kept = ds'.kept ∧ C (a % 24).toNat = (if again then some (next, next) else none) ∧ C' (a % 24).toNat = (if again then some (next, next) else none)) (by kernel_rfl) ?_ ?_
    · skip
      refine wpE_seq ?_
      refine wpE_region ?_
      refine wpL_value rfl x_move ?_
      refine wpL_nil (thenE_norm ?_)
      refine wpE_cond rfl (fun hag => ?_) (fun hag => ?_)
      · skip
        subst hag
        refine wpE_draw mixed (.pure 0 (.pure 1 (.read 2 (.read 3 (.pure 5 (.pure 6 (.read 7 (.read 8 (.eff 4 [7, 8] (.eff 9 [] (.pure 10 (.pure 11 .nil)))))))))))) (by kernel_rfl) ?_
        refine wpP_pure rfl rfl rfl (fun _ => x_move) ?_
        refine wpP_pure rfl rfl rfl (fun _ => x_move) ?_
        refine wpP_rdA 32 rfl rfl rfl Try.underlying33 rfl I33 rfl rfl (hb5 hS12.now) (h5) ?_
        refine wpP_rdA 32 rfl rfl rfl Try.underlying33 rfl I33 rfl rfl (hb5 hS12.now) (h5) ?_
        refine wpP_pure rfl rfl rfl (fun _ => x_move) ?_
        refine wpP_pure rfl rfl rfl (fun _ => x_move) ?_
        refine wpP_rdA 32 rfl rfl rfl Try.underlying33 rfl I33 rfl rfl (hb5 hS12.now) (h5) ?_
        refine wpP_rdA 32 rfl rfl rfl Try.underlying33 rfl I33 rfl rfl (hb5 hS12.now) (h5) ?_
        refine wpP_call rfl rfl rfl C12 (put_run (hS12.chg0 (drw _)) (by decide) _ hk24 next next h5 h5) ?_
        rintro _ w13 ⟨rfl, hS13, hc13⟩
        have hc13 : Chg (SF sb fr b6 kv r) w12 w13 := hc13
        refine ⟨⟨hb5 hS13.now, hb5 hS13.now, trivial⟩, ?_⟩
        have hT13 := hT12.chg hc13 hdj2 hgS12
        refine wpP_call rfl rfl rfl C12 (put_run hT13 (by decide) _ hk24 next next h5 h5) ?_
        rintro _ w14 ⟨rfl, hT14, hc14⟩
        refine ⟨trivial, ?_⟩
        refine wpP_pure rfl rfl rfl (fun _ => x_assign) ?_
        refine wpP_pure rfl rfl rfl (fun _ => x_assign) ?_
        refine wpP_nil (thenE_norm ?_)
        have hS14 := hS13.chg hc14 hdj hgT12
        exact ⟨_, _, _, _, _, _, _, rfl, hS14, hT14, hPP, by unfold setC; rw [if_pos rfl]; rfl, by unfold setC; rw [if_pos rfl]; rfl⟩
      · skip
        refine wpE_region ?_
        refine wpL_value rfl x_move (wpL_value rfl x_move ?_)
        subst hag
        refine wpL_call rfl C14 (erase_run hS12 (by decide) _ hk24) ?_
        rintro _ w13 ⟨rfl, hS13, hc13⟩
        refine wpL_value rfl x_move (wpL_value rfl x_move ?_)
        have hT13 := hT12.chg hc13 hdj2 hgS12
        refine wpL_call rfl C14 (erase_run hT13 (by decide) _ hk24) ?_
        rintro _ w14 ⟨rfl, hT14, hc14⟩
        refine wpL_value rfl x_assign (wpL_value rfl x_assign ?_)
        refine wpL_nil (thenE_norm ?_)
        have hS14 := hS13.chg hc14 hdj hgT12
        exact ⟨_, _, _, _, _, _, _, rfl, hS14, hT14, hPE, by unfold setC; rw [if_pos rfl]; rfl, by unfold setC; rw [if_pos rfl]; rfl⟩
    · rintro vs J w15 ⟨k, C, C', ds, ds', s, s', rfl, hS15, hT15, hkk, hCa, hCa'⟩
      refine wpE_seq ?_
      refine wpE_seq ?_
      refine wpE_draw mixed (.pure 0 (.pure 1 (.pure 2 (.pure 3 (.pure 4 (.pure 5 (.pure 6 (.pure 7 (.pure 10 (.eff 8 [] (.read 9 (.eff 11 [9] (.read 12 (.pure 13 (.pure 14 .nil))))))))))))))) (by kernel_rfl) ?_
      refine wpP_pure rfl rfl rfl (fun _ => x_move) ?_
      refine wpP_pure rfl rfl rfl (fun _ => x_to (x_neq rfl rfl) (congrArg Value.bool (decide_eq_false (fun h => h rfl)))) ?_
      refine wpP_pure rfl rfl rfl (fun _ => x_move) ?_
      refine wpP_pure rfl rfl rfl (fun _ => x_move) ?_
      refine wpP_pure rfl rfl rfl (fun _ => x_to (x_neq rfl rfl) (congrArg Value.bool (decide_eq_false (fun h => h rfl)))) ?_
      refine wpP_pure rfl rfl rfl (fun _ => (x_pick_f rfl)) ?_
      refine wpP_pure rfl rfl rfl (fun _ => x_move) ?_
      refine wpP_pure rfl rfl rfl (fun _ => x_move) ?_
      refine wpP_pure rfl rfl rfl (fun _ => x_move) ?_
      refine wpP_call rfl rfl rfl C19 (image_run (hS15.chg0 (drw _))) ?_
      rintro v16 w16 ⟨ho16, hS16, hc16⟩
      refine ⟨trivial, ?_⟩
      have hc16 : Chg [] w15 w16 := hc16
      refine wpP_read rfl rfl rfl (fun w' => Own w' v16 (imageOf ds.kept)) (ho16) (fun w1 h1 => x_b2s Try.underlying22 Try.underlying5 Try.underlying9 h1.sl rfl) ?_
      refine wpP_call rfl rfl rfl C19 (image_run (hT15.chg0 hc16)) ?_
      rintro v17 w17 ⟨ho17, hT17, hc17⟩
      refine ⟨⟨ho16.mod0 hc17, trivial⟩, ?_⟩
      refine wpP_read rfl rfl rfl (fun w' => Own w' v17 (imageOf ds'.kept)) (ho17) (fun w1 h1 => x_b2s Try.underlying22 Try.underlying5 Try.underlying9 h1.sl rfl) ?_
      refine wpP_pure rfl rfl rfl (fun _ => (x_strne rfl rfl)) ?_
      refine wpP_pure rfl rfl rfl (fun _ => (x_pick_f rfl)) ?_
      refine wpP_nil (thenE_norm ?_)
      refine wpE_cond_f (strne_same (congrArg imageOf hkk)) ?_
      refine wpE_skip (thenE_norm ?_)
      refine wpE_seq ?_
      refine wpE_region ?_
      refine wpL_value rfl x_move (wpL_value rfl x_move ?_)
      have hS17 := hS16.chg0 hc17
      have hchw : Sl w5 (.slice pc ch.length cc) ch := hch.mod0 hc05
      have hchlt := hchw.lt
      have hgS17 := hS17.ge
      have hgT17 := hT17.ge
      have hsS : ∀ x ∈ DF b6 kv r, x ∈ SF sb fr b6 kv r := fun x hx => by simp [SF, hx]
      refine wpL_call rfl C17 (crash_run hS17 _ ch (hchw.mod0 hS17.now) (by omega) (fun x hx h => by have := hchlt x hx; have := hgS17 x (hsS x h); omega)) ?_
      rintro _ w18 ⟨hD18, hc18⟩
      refine wpL_nil (thenE_norm ?_)
      refine wpE_seq ?_
      refine wpE_region ?_
      refine wpL_value rfl x_move (wpL_value rfl x_move ?_)
      have hT18 := hT17.chg hc18 (fun x hx h => hdj2 x hx (hsS x h)) (fun x hx => hgS17 x (hsS x hx))
      refine wpL_call rfl C17 (crash_run hT18 _ ch (hchw.mod0 hT18.now) (by omega) (fun x hx h => by have := hchlt x hx; have := hgT17 x (hDT x h); omega)) ?_
      rintro _ w19 ⟨hE19, hc19⟩
      refine wpL_nil (thenE_norm ?_)
      refine wpE_seq ?_
      refine wpE_region ?_
      refine wpL_value rfl x_move ?_
      have hD19 := hD18.chg hc19 (fun x hx h => hdj x (hsS x hx) (hDT x h)) (fun x hx => hgT17 x (hDT x hx))
      refine wpL_call rfl C18 (open_run hD19) ?_
      rintro _ w20 ⟨sb3, fr3, rfl, hS20, hc20, hsb3, hfr3⟩
      refine wpL_value rfl x_move (wpL_value rfl (x_extract rfl rfl) (wpL_value rfl (x_extract rfl rfl) (wpL_value rfl x_assign (wpL_value rfl x_assign ?_))))
      refine wpL_nil (thenE_norm ?_)
      refine wpE_seq ?_
      refine wpE_region ?_
      refine wpL_value rfl x_move ?_
      refine wpL_call rfl C18 (open_run (hE19.chg0 hc20)) ?_
      rintro _ w21 ⟨sb4, fr4, rfl, hT21, hc21, hsb4, hfr4⟩
      refine wpL_value rfl x_move (wpL_value rfl (x_extract rfl rfl) (wpL_value rfl (x_extract rfl rfl) (wpL_value rfl x_assign (wpL_value rfl x_assign ?_))))
      refine wpL_nil (thenE_norm ?_)
      refine wpE_seq ?_
      refine wpE_seq ?_
      have hS21 := hS20.chg0 hc21
      have hkk2 : (ds.crash ch).kept = (ds'.crash ch).kept := by
        rw [crash_nil hS15.2.2.inv.pend, crash_nil hT15.2.2.inv.pend]; exact hkk
      refine wpE_draw mixed (.pure 0 (.pure 1 (.pure 2 (.pure 3 (.pure 4 (.pure 5 (.pure 6 (.pure 7 (.pure 10 (.eff 8 [] (.read 9 (.eff 11 [9] (.read 12 (.pure 13 (.pure 14 .nil))))))))))))))) (by kernel_rfl) ?_
      refine wpP_pure rfl rfl rfl (fun _ => x_move) ?_
      refine wpP_pure rfl rfl rfl (fun _ => x_to (x_neq rfl rfl) (congrArg Value.bool (decide_eq_false (fun h => h rfl)))) ?_
      refine wpP_pure rfl rfl rfl (fun _ => x_move) ?_
      refine wpP_pure rfl rfl rfl (fun _ => x_move) ?_
      refine wpP_pure rfl rfl rfl (fun _ => x_to (x_neq rfl rfl) (congrArg Value.bool (decide_eq_false (fun h => h rfl)))) ?_
      refine wpP_pure rfl rfl rfl (fun _ => (x_pick_f rfl)) ?_
      refine wpP_pure rfl rfl rfl (fun _ => x_move) ?_
      refine wpP_pure rfl rfl rfl (fun _ => x_move) ?_
      refine wpP_pure rfl rfl rfl (fun _ => x_move) ?_
      refine wpP_call rfl rfl rfl C19 (image_run (hS21.chg0 (drw _))) ?_
      rintro v22 w22 ⟨ho22, hS22, hc22⟩
      refine ⟨trivial, ?_⟩
      have hc22 : Chg [] w21 w22 := hc22
      refine wpP_read rfl rfl rfl (fun w' => Own w' v22 (imageOf (ds.crash ch).kept)) (ho22) (fun w1 h1 => x_b2s Try.underlying22 Try.underlying5 Try.underlying9 h1.sl rfl) ?_
      refine wpP_call rfl rfl rfl C19 (image_run (hT21.chg0 hc22)) ?_
      rintro v23 w23 ⟨ho23, hT23, hc23⟩
      refine ⟨⟨ho22.mod0 hc23, trivial⟩, ?_⟩
      refine wpP_read rfl rfl rfl (fun w' => Own w' v23 (imageOf (ds'.crash ch).kept)) (ho23) (fun w1 h1 => x_b2s Try.underlying22 Try.underlying5 Try.underlying9 h1.sl rfl) ?_
      refine wpP_pure rfl rfl rfl (fun _ => (x_strne rfl rfl)) ?_
      refine wpP_pure rfl rfl rfl (fun _ => (x_pick_f rfl)) ?_
      refine wpP_nil (thenE_norm ?_)
      refine wpE_cond_f (strne_same (congrArg imageOf hkk2)) ?_
      refine wpE_skip (thenE_norm ?_)
      refine wpE_seq ?_
      refine wpE_region ?_
      refine wpL_value rfl x_move (wpL_value rfl x_move ?_)
      have hS23 := hS22.chg0 hc23
      refine wpL_value rfl (x_loadN 32 Try.underlying33 rfl I33 rfl rfl (hb5 hS23.now) (h5)) ?_
      cases again with
      | true =>
        skip
        refine wpL_call rfl C15 (get_some hS23 _ hk24 next next hCa h5) ?_
        rintro _ w24 ⟨rfl, hS24, hc24⟩
        refine wpL_value rfl x_move (wpL_value rfl (x_extract rfl rfl) (wpL_value rfl (x_extract rfl rfl) ?_))
        refine wpL_allocA (List.replicate 32 (0 : UInt8)) I33 rfl rfl rfl ?_
        rintro w25 b25 hn25 ha25 hc25 hl25
        refine wpL_exs rfl (x_storeN 32 I33 rfl (ha25) rfl rfl (rfl) (h5)) ?_
        rintro w26 ⟨ha26, hc26, hs26⟩
        refine wpL_value rfl x_assign ?_
        refine wpL_nil (thenE_norm ?_)
        refine wpE_seq ?_
        refine wpE_region ?_
        refine wpL_value rfl x_move (wpL_value rfl x_move ?_)
        have hc2326 : Chg [] w23 w26 := hc24.tr (hc25.t1 hc26 hn25)
        have hT26 := hT23.chg0 hc2326
        refine wpL_value rfl (x_loadN 32 Try.underlying33 rfl I33 rfl rfl (hb5 hT26.now) (h5)) ?_
        refine wpL_call rfl C15 (get_some hT26 _ hk24 next next hCa' h5) ?_
        rintro _ w27 ⟨rfl, hT27, hc27⟩
        refine wpL_value rfl x_move (wpL_value rfl (x_extract rfl rfl) (wpL_value rfl (x_extract rfl rfl) ?_))
        refine wpL_allocA (List.replicate 32 (0 : UInt8)) I33 rfl rfl rfl ?_
        rintro w28 b28 hn28 ha28 hc28 hl28
        refine wpL_exs rfl (x_storeN 32 I33 rfl (ha28) rfl rfl (rfl) (h5)) ?_
        rintro w29 ⟨ha29, hc29, hs29⟩
        refine wpL_value rfl x_assign ?_
        refine wpL_nil (thenE_norm ?_)
        refine wpE_seq ?_
        refine wpE_region ?_
        have hc2629 : Chg [] w26 w29 := hc27.tr (hc28.t1 hc29 hn28)
        have ha26' := ha26.chg0 hc2629
        have hT29 := hT27.chg0 (hc28.t1 hc29 hn28)
        refine wpL_value rfl (x_loadN 32 Try.underlying33 rfl I33 rfl rfl (ha26') (h5)) ?_
        refine wpL_value rfl (x_loadN 32 Try.underlying33 rfl I33 rfl rfl (ha29) (h5)) ?_
        refine wpL_value rfl (x_to (x_eqArr Try.underlying33 I5 rfl Try.underlying5 (by kernel_rfl) rfl rfl (h5) (h5)) (congrArg Value.bool (decide_eq_true (rfl)))) ?_
        refine wpL_value rfl x_move (wpL_yes rfl (wpL_value rfl x_move (wpL_yes rfl (wpL_value rfl x_move (wpL_yes rfl ?_)))))
        refine wpL_value rfl (x_to (x_eql rfl rfl) (congrArg Value.bool (decide_eq_true (rfl)))) ?_
        refine wpL_value rfl (x_pick_t rfl) (wpL_value rfl x_move (wpL_yes rfl (wpL_value rfl x_move (wpL_yes rfl (wpL_value rfl x_move (wpL_yes rfl (wpL_value rfl x_move (wpL_yes rfl ?_))))))))
        refine wpL_value rfl (x_to (x_eql rfl rfl) (congrArg Value.bool (decide_eq_true (rfl)))) ?_
        refine wpL_yes rfl (wpL_value rfl (x_pick_t rfl) (wpL_yes rfl (wpL_value rfl x_move (wpL_yes rfl ?_))))
        refine wpL_value rfl (x_loadN 32 Try.underlying33 rfl I33 rfl rfl (ha26') (h5)) ?_
        refine wpL_yes rfl ?_
        refine wpL_value rfl (x_loadN 32 Try.underlying33 rfl I33 rfl rfl (hb5 hT29.now) (h5)) ?_
        refine wpL_yes rfl ?_
        refine wpL_value rfl (x_to (x_eqArr Try.underlying33 I5 rfl Try.underlying5 (by kernel_rfl) rfl rfl (h5) (h5)) (congrArg Value.bool (decide_eq_true (rfl)))) ?_
        refine wpL_yes rfl (wpL_value rfl (x_pick_t rfl) (wpL_yes rfl (wpL_value rfl x_move (wpL_no rfl rfl (wpL_no rfl rfl (wpL_no rfl rfl (wpL_no rfl rfl (wpL_no rfl rfl (wpL_no rfl rfl (wpL_yes rfl (wpL_value rfl (x_pick_t rfl) (wpL_value rfl (x_pick_t rfl) (wpL_value rfl x_assign ?_)))))))))))))
        refine wpL_nil (thenE_norm ?_)
        refine wpE_ret (fin_ret ?_)
        exact ⟨rfl, hc05.tr hT29.now⟩
      | false =>
        skip
        refine wpL_call rfl C15 (get_none hS23 _ hk24 next hCa h5) ?_
        rintro _ w24 ⟨rfl, hS24, hc24⟩
        refine wpL_value rfl x_move (wpL_value rfl (x_extract rfl rfl) (wpL_value rfl (x_extract rfl rfl) ?_))
        refine wpL_allocA (List.replicate 32 (0 : UInt8)) I33 rfl rfl rfl ?_
        rintro w25 b25 hn25 ha25 hc25 hl25
        refine wpL_exs rfl (x_storeN 32 I33 rfl (ha25) rfl rfl (rfl) (rfl)) ?_
        rintro w26 ⟨ha26, hc26, hs26⟩
        refine wpL_value rfl x_assign ?_
        refine wpL_nil (thenE_norm ?_)
        refine wpE_seq ?_
        refine wpE_region ?_
        refine wpL_value rfl x_move (wpL_value rfl x_move ?_)
        have hc2326 : Chg [] w23 w26 := hc24.tr (hc25.t1 hc26 hn25)
        have hT26 := hT23.chg0 hc2326
        refine wpL_value rfl (x_loadN 32 Try.underlying33 rfl I33 rfl rfl (hb5 hT26.now) (h5)) ?_
        refine wpL_call rfl C15 (get_none hT26 _ hk24 next hCa' h5) ?_
        rintro _ w27 ⟨rfl, hT27, hc27⟩
        refine wpL_value rfl x_move (wpL_value rfl (x_extract rfl rfl) (wpL_value rfl (x_extract rfl rfl) ?_))
        refine wpL_allocA (List.replicate 32 (0 : UInt8)) I33 rfl rfl rfl ?_
        rintro w28 b28 hn28 ha28 hc28 hl28
        refine wpL_exs rfl (x_storeN 32 I33 rfl (ha28) rfl rfl (rfl) (rfl)) ?_
        rintro w29 ⟨ha29, hc29, hs29⟩
        refine wpL_value rfl x_assign ?_
        refine wpL_nil (thenE_norm ?_)
        refine wpE_seq ?_
        refine wpE_region ?_
        have hc2629 : Chg [] w26 w29 := hc27.tr (hc28.t1 hc29 hn28)
        have ha26' := ha26.chg0 hc2629
        have hT29 := hT27.chg0 (hc28.t1 hc29 hn28)
        refine wpL_value rfl (x_loadN 32 Try.underlying33 rfl I33 rfl rfl (ha26') (rfl)) ?_
        refine wpL_value rfl (x_loadN 32 Try.underlying33 rfl I33 rfl rfl (ha29) (rfl)) ?_
        refine wpL_value rfl (x_to (x_eqArr Try.underlying33 I5 rfl Try.underlying5 (by kernel_rfl) rfl rfl (rfl) (rfl)) (congrArg Value.bool (decide_eq_true (rfl)))) ?_
        refine wpL_value rfl x_move (wpL_yes rfl (wpL_value rfl x_move (wpL_yes rfl (wpL_value rfl x_move (wpL_yes rfl ?_)))))
        refine wpL_value rfl (x_to (x_eql rfl rfl) (congrArg Value.bool (decide_eq_true (rfl)))) ?_
        refine wpL_value rfl (x_pick_t rfl) (wpL_value rfl x_move (wpL_yes rfl (wpL_value rfl x_move (wpL_yes rfl (wpL_value rfl x_move (wpL_no rfl rfl (wpL_no rfl rfl (wpL_yes rfl (wpL_value rfl (x_pick_f rfl) (wpL_yes rfl (wpL_value rfl x_move (wpL_no rfl rfl (wpL_no rfl rfl (wpL_no rfl rfl (wpL_yes rfl (wpL_value rfl (x_pick_f rfl) (wpL_yes rfl (wpL_value rfl x_move (wpL_yes rfl (wpL_value rfl x_move (wpL_yes rfl (wpL_value rfl (x_not rfl) (wpL_yes rfl (wpL_value rfl x_move (wpL_yes rfl (wpL_value rfl x_move (wpL_yes rfl (wpL_value rfl (x_eql rfl rfl) (wpL_yes rfl (wpL_value rfl (x_pick_t rfl) (wpL_yes rfl (wpL_value rfl (x_pick_f rfl) (wpL_value rfl (x_pick_t rfl) (wpL_value rfl x_assign ?_))))))))))))))))))))))))))))))))))
        refine wpL_nil (thenE_norm ?_)
        refine wpE_ret (fin_ret ?_)
        exact ⟨rfl, hc05.tr hT29.now⟩
end Go.Proofs.Ytenhmbhflgnhlaa
