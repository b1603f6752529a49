/- every row of calls, crashes, the power going within a commit: what each tells -/
import Derived.Test.YtenhmbhflgnhlaaGreatQLaw7
import Derived.Test.YtenhmbhflgnhlaaGreatSac1
namespace Go.Proofs.YtenhmbhflgnhlaaGreat
open Go Go.Sac
set_option maxRecDepth 100000
set_option maxHeartbeats 4000000
theorem crash_same {ds : DSt} (h0 : ds.offAt = 0) (hp : ds.pend = []) : ds.crash [] = ds := by
  obtain ⟨s, o, kk, p⟩ := ds
  cases hp
  cases h0
  simp [DSt.crash, sortI, crashL]
def V0 : UInt32 → List UInt8 := fun _ => []
theorem known7_ok (w : World) : Ret Tryz.prog 19 #[] w fun v w' => v = .bool true ∧ Chg [] w w' := by
  refine enter [0] Tryz.func19 rfl rfl (Nat.le_of_ble_eq_true rfl) ?_
  refine wpE_seq ?_
  refine wpE_region ?_
  refine wpL_value rfl x_assign ?_
  refine wpL_nil (thenE_norm ?_)
  refine wpE_seq ?_
  refine wpE_region ?_
  refine wpL_call rfl C11 (new_run7 w w 80 (by decide) (Chg.refl _)) ?_
  rintro _ w1 ⟨b, kv, r, rfl, hd1, hc1, hF1⟩
  refine wpL_value rfl x_assign ?_
  refine wpL_nil (thenE_norm ?_)
  refine wpE_seq ?_
  refine wpE_region ?_
  refine wpL_value rfl (x_buildV (List.replicate 32 (0 : UInt8)) ([(1, 1)]) (l := kA) Tryz.underlying23 I23 rfl I5 (by kernel_rfl) rfl (by kernel_rfl) rfl (by kernel_rfl)) ?_
  refine wpL_allocA (List.replicate 32 (0 : UInt8)) I23 rfl rfl rfl ?_
  rintro w2 b2 hn2 ha2 hc2 hl2
  refine wpL_exs rfl (x_storeN 32 I23 rfl (ha2) rfl rfl (rfl) (rfl)) ?_
  rintro w3 ⟨ha3, hc3, hs3⟩
  refine wpL_nil (thenE_norm ?_)
  refine wpE_seq ?_
  refine wpE_region ?_
  refine wpL_value rfl x_move ?_
  have hd3 : RunD w w3 b kv r (dsN 80) := hd1.chg0 (hc2.t1 hc3 hn2)
  refine wpL_value rfl (x_loadN 32 Tryz.underlying23 rfl I23 rfl rfl (ha3) (rfl)) ?_
  refine wpL_call rfl C61 (format_run (n := 6) V0 hd3 (by decide) rfl) ?_
  rintro _ w4 ⟨R, a, ds4, rfl, hS4, hc4, hR4⟩
  refine wpL_value rfl x_move (wpL_value rfl (x_extract rfl rfl) (wpL_value rfl (x_extract rfl rfl) (wpL_value rfl x_assign (wpL_value rfl x_assign ?_))))
  refine wpL_nil (thenE_norm ?_)
  refine wpE_seq ?_
  refine wpE_seq ?_
  refine wpE_region ?_
  refine wpL_value rfl x_move ?_
  refine wpL_value rfl (x_to (x_neq rfl rfl) (congrArg Value.bool (decide_eq_false (fun h => h rfl)))) ?_
  refine wpL_value rfl x_move (wpL_yes rfl (wpL_value rfl x_move (wpL_yes rfl ?_)))
  refine wpL_call rfl C31 (len_run hS4) ?_
  rintro _ w5 ⟨rfl, hS5, hc5⟩
  refine wpL_yes rfl ?_
  refine wpL_value rfl (x_to (x_neq rfl rfl) (congrArg Value.bool (decide_eq_false (fun h => h rfl)))) ?_
  refine wpL_value rfl (x_pick_f rfl) (wpL_value rfl x_move (wpL_yes rfl (wpL_value rfl x_move (wpL_yes rfl ?_))))
  refine wpL_call rfl C32 (room_run hS5) ?_
  rintro v6 w6 ⟨hv6, hS6, hc6⟩
  have hr6 : roomN (pgZ a) 6 = 6 := rfl
  rw [hr6] at hv6
  subst hv6
  refine wpL_yes rfl (wpL_value rfl (x_neq rfl rfl) (wpL_value rfl (x_pick_f rfl) ?_))
  refine wpL_nil (thenE_norm ?_)
  refine wpE_cond_df rfl (fun h => h rfl) ?_
  refine wpE_skip (thenE_norm ?_)
  refine wpE_seq ?_
  refine wpE_region ?_
  refine wpL_value rfl x_move ?_
  refine wpL_call rfl C21 (alloc_at hS6 0 (by decide) (fun j hj => by omega) rfl) ?_
  rintro _ w7 ⟨rfl, hS7, hc7⟩
  refine wpL_value rfl x_move (wpL_value rfl (x_extract rfl rfl) (wpL_value rfl (x_extract rfl rfl) (wpL_value rfl x_assign (wpL_value rfl x_assign ?_))))
  refine wpL_nil (thenE_norm ?_)
  refine wpE_seq ?_
  refine wpE_seq ?_
  refine wpE_region ?_
  refine wpL_value rfl x_move ?_
  refine wpL_value rfl (x_to (x_neq rfl rfl) (congrArg Value.bool (decide_eq_false (fun h => h rfl)))) ?_
  refine wpL_value rfl x_move (wpL_yes rfl (wpL_value rfl x_move (wpL_yes rfl ?_)))
  refine wpL_value rfl (x_to (x_neq32u (b := 0) rfl rfl) (congrArg Value.bool (decide_eq_false (fun h => h rfl)))) ?_
  refine wpL_value rfl (x_pick_f rfl) (wpL_value rfl x_move (wpL_yes rfl (wpL_value rfl x_move (wpL_yes rfl (wpL_value rfl x_move (wpL_yes rfl ?_))))))
  refine wpL_exw rfl (x_bsS [.int .u8 120] [(120 : UInt8)] Tryz.underlying41 I5 rfl rfl rfl rfl rfl rfl (by decide) (by decide)) ?_
  rintro _ w8 ⟨⟨b8, o8, c8, rfl⟩, ho8, hc8, hi8⟩
  refine wpL_yes rfl ?_
  refine wpL_exv rfl (x_convB Tryz.underlying41 Tryz.underlying5 rfl ho8.sl) ?_
  rintro w9 ⟨hs9, hc9, hl9⟩
  refine wpL_yes rfl ?_
  have hlt7 := hS7.lt
  have hb8 : ∀ x ∈ PF R ++ DF b kv r, x ∉ [b8] := fun x hx hh => by
    have := hi8.ge b8 (by simp [blkOf])
    have := hlt7 x hx
    simp at hh; omega
  have hw7 := hS7.now.1
  have hS9 := (hS7.chg0 hc8).chg hc9 hb8 (fun x hx => by simp at hx; have := hi8.ge b8 (by simp [blkOf]); omega)
  refine wpL_call rfl C22 (write_run hS9 (by decide) 0 rfl (.slice (some ⟨b8, o8, none⟩) 1 c8) [(120 : UInt8)] (by decide) (.inl hs9) (fun _ x hx hh => hb8 x hh (by simpa [blkOf] using hx))) ?_
  rintro _ w10 ⟨rfl, ⟨ds10, hS10⟩, hc10⟩
  refine wpL_yes rfl ?_
  refine wpL_value rfl (x_to (x_neq rfl rfl) (congrArg Value.bool (decide_eq_false (fun h => h rfl)))) ?_
  refine wpL_value rfl (x_pick_f rfl) (wpL_value rfl x_move (wpL_yes rfl (wpL_value rfl x_move (wpL_yes rfl ?_))))
  refine wpL_call rfl C23 (commit_run hS10 (by decide) 7 [109] (by decide) (fun i hi => by have := (fresh_iff.1 hi).1; exact this)) ?_
  rintro _ w11 ⟨rfl, ⟨u1, r1, ku1, kr1, ds11, hR1, hS11, hpd, ds1, hL, hSu, hl1⟩, hc11⟩
  refine wpL_yes rfl ?_
  refine wpL_value rfl (x_to (x_neq rfl rfl) (congrArg Value.bool (decide_eq_false (fun h => h rfl)))) ?_
  refine wpL_value rfl (x_pick_f rfl) (wpL_value rfl x_move (wpL_yes rfl (wpL_value rfl x_move (wpL_yes rfl (wpL_value rfl x_move (wpL_yes rfl ?_))))))
  refine wpL_call rfl C22 (write_bad hS11 0 (by decide) (.slice none 0 0) [] 71 (.inl ⟨rfl, rfl⟩) (.inl (Sl.nil w11 0)) (fun _ x hx => by simp [blkOf] at hx)) ?_
  rintro _ w12 ⟨rfl, hS12, hc12⟩
  refine wpL_yes rfl (wpL_value rfl (x_neq rfl rfl) (wpL_value rfl (x_pick_f rfl) ?_))
  refine wpL_nil (thenE_norm ?_)
  refine wpE_cond_df rfl (fun h => h rfl) ?_
  refine wpE_skip (thenE_norm ?_)
  refine wpE_seq ?_
  refine wpE_region ?_
  refine wpL_value rfl x_move ?_
  refine wpL_call rfl C30 (crash_still hS12 hpd (.slice none 0 0) ⟨_, _, rfl⟩) ?_
  rintro v13 w13 ⟨hS13, hc13⟩
  refine wpL_nil (thenE_norm ?_)
  refine wpE_seq ?_
  refine wpE_region ?_
  refine wpL_value rfl x_move ?_
  have hcra := hS13.2.2.2.1.crash []
  rw [crash_same hS13.2.2.2.1.ok.off hpd] at hcra
  have hdf := hd1.1.lt
  have hb2 : b2 ∉ PF R ++ DF b kv r := fun h => by
    have := ha3.lt
    rcases List.mem_append.1 h with h | h
    · have := hR4 b2 h; omega
    · have := hdf b2 h; omega
  have hb2d : b2 ∉ DF b kv r := fun h => hb2 (List.mem_append_right _ h)
  have k4 := hc4.1
  have k5 := hc5.1
  have k6 := hc6.1
  have k7 := hc7.1
  have k8 := hc8.1
  have k9 := hc9.1
  have k10 := hc10.1
  have kb := ha3.lt
  have hb2' : b2 ∉ PF ({ R with u := u1, r := r1, ku := ku1, kr := kr1 } : PR) ++ DF b kv r := fun h => by
    rcases List.mem_append.1 h with h | h
    · rcases hR1 b2 h with h | h
      · exact hb2 (List.mem_append_left _ h)
      · omega
    · exact hb2d h
  have ha13 : Arr w13 b2 kA := (((((((((ha3.chg hc4 hb2d).chg0 hc5).chg0 hc6).chg hc7 hb2).chg0 hc8).chg hc9 (by have := hi8.ge b8 (by simp [blkOf]); simp; omega)).chg hc10 hb2).chg hc11 hb2).chg hc12 hb2').chg hc13 hb2'
  refine wpL_value rfl (x_loadN 32 Tryz.underlying23 rfl I23 rfl rfl (ha13) (rfl)) ?_
  refine wpL_call rfl C44 (open_run hS13.1 hcra (by decide) rfl) ?_
  rintro _ w14 ⟨R2, f, ds14, rfl, hS14, hL14, hcm14, hp14, hc14, hR2⟩
  refine wpL_value rfl x_move (wpL_value rfl (x_extract rfl rfl) (wpL_value rfl (x_extract rfl rfl) (wpL_value rfl x_assign (wpL_value rfl x_assign ?_))))
  refine wpL_nil (thenE_norm ?_)
  refine wpE_seq ?_
  refine wpE_region ?_
  refine wpL_value rfl x_move ?_
  have hsup : SupAt kA ds11 (((pgZ a).at_ + 1) % 2) (supK 3 1) := hS13.2.2.2.1.sup
  have hL2 : Laid kA ds11 ds14 ((((pgZ a).at_ + 1) % 2 + 1) % 2) (opS kA ds11 (supK 3 1)) := hL14
  have hcm2 : (opS kA ds11 (supK 3 1)).commit.toNat = 3 + 1 := hcm14
  have hop : opS kA ds11 (supK 3 1) = supK 4 2 := by
    unfold opS
    have h4 : newNext kA ds11 = 4 := UInt64.toNat_inj.1 hcm2
    rw [h4]; rfl
  rw [hop] at hL2
  have hnw : newest kB ds14 = none := newest_wrong hsup hL2 (by rw [hS13.2.2.2.1.ok.len]; omega) ⟨by decide, fun i hi => hsup.ok.used i hi, fun i hi => hsup.ok.written i hi⟩ supK_tag3 supK_tag4
  refine wpL_value rfl (x_buildV (List.replicate 32 (0 : UInt8)) ([(1, 2)]) (l := kB) Tryz.underlying23 I23 rfl I5 (by kernel_rfl) rfl (by kernel_rfl) rfl (by kernel_rfl)) ?_
  refine wpL_call rfl C44 (open_wrong hS14.1 hS14.2.2.2.1.ok.fine hS14.2.2.2.1.ok.off (by have := hS14.st; omega) hS14.small hnw rfl) ?_
  rintro _ w15 ⟨rfl, hd15, hc15⟩
  refine wpL_value rfl x_move (wpL_value rfl (x_extract rfl rfl) (wpL_value rfl (x_extract rfl rfl) (wpL_value rfl x_assign (wpL_value rfl x_assign ?_))))
  refine wpL_nil (thenE_norm ?_)
  refine wpE_seq ?_
  have hS15 := hS14.same hd15 hc15
  have ha15 : Arr w15 b2 kA := (ha13.chg hc14 hb2d).chg hc15 hb2d
  refine wpE_draw mixed (.read 1 (.eff 0 [1] (.eff 2 [] (.pure 3 (.pure 4 (.pure 5 (.pure 6 (.pure 7 .nil)))))))) (by kernel_rfl) ?_
  refine wpP_rdA 32 rfl rfl rfl Tryz.underlying23 rfl I23 rfl rfl (ha15) (rfl) ?_
  refine wpP_call rfl rfl rfl C11 (new_run7 w _ 40 (by decide) (hS15.now.tr (drw _))) ?_
  rintro _ w16 ⟨b', kv', r', rfl, hd16, hc16, hF16⟩
  have hc16 : Chg [] w15 w16 := (drw w15).tr hc16
  have hF16 : ∀ x ∈ DF b' kv' r', w15.heap.size ≤ x := hF16
  refine ⟨⟨ha15.chg0 hc16, trivial⟩, ?_⟩
  refine wpP_call rfl rfl rfl C61 (format_small hd16 (by decide) rfl) ?_
  rintro _ w17 ⟨rfl, hc17⟩
  refine ⟨trivial, ?_⟩
  refine wpP_pure rfl rfl rfl (fun _ => x_move) ?_
  refine wpP_pure rfl rfl rfl (fun _ => (x_extract rfl rfl)) ?_
  refine wpP_pure rfl rfl rfl (fun _ => (x_extract rfl rfl)) ?_
  refine wpP_pure rfl rfl rfl (fun _ => x_assign) ?_
  refine wpP_pure rfl rfl rfl (fun _ => x_assign) ?_
  refine wpP_nil (thenE_norm ?_)
  refine wpE_seq ?_
  refine wpE_region ?_
  refine wpL_value rfl x_move (wpL_value rfl x_move ?_)
  have hlt15 := hS15.lt
  have hS17 := (hS15.chg0 hc16).chg hc17 (fun x hx hh => by have := hlt15 x hx; have := hF16 x hh; omega) (fun x hx => hd16.2.2 x hx)
  refine wpL_call rfl C29 (read_run hS17 0 rfl) ?_
  rintro _ w18 ⟨⟨rv, rfl, hs18⟩, hS18, hc18⟩
  refine wpL_value rfl x_move (wpL_value rfl (x_extract rfl rfl) (wpL_value rfl (x_extract rfl rfl) (wpL_value rfl x_assign (wpL_value rfl x_assign ?_))))
  refine wpL_nil (thenE_norm ?_)
  refine wpE_seq ?_
  refine wpE_region ?_
  refine wpL_value rfl x_move ?_
  have hs18 : Sl w18 rv [(120 : UInt8)] := hs18
  refine wpL_value rfl (x_to (x_eql rfl rfl) (congrArg Value.bool (decide_eq_true (rfl)))) ?_
  refine wpL_value rfl x_move (wpL_yes rfl (wpL_value rfl x_move (wpL_yes rfl ?_)))
  refine wpL_value rfl (x_to (x_eql rfl rfl) (congrArg Value.bool (decide_eq_true (rfl)))) ?_
  refine wpL_value rfl (x_pick_t rfl) (wpL_value rfl x_move (wpL_yes rfl (wpL_value rfl x_move (wpL_yes rfl ?_))))
  refine wpL_value rfl (x_to (x_eql rfl rfl) (congrArg Value.bool (decide_eq_true (rfl)))) ?_
  refine wpL_value rfl (x_pick_t rfl) (wpL_value rfl x_move (wpL_yes rfl (wpL_value rfl x_move (wpL_yes rfl ?_))))
  refine wpL_value rfl (x_to (x_eql rfl rfl) (congrArg Value.bool (decide_eq_true (rfl)))) ?_
  refine wpL_value rfl (x_pick_t rfl) (wpL_value rfl x_move (wpL_yes rfl (wpL_value rfl x_move (wpL_yes rfl ?_))))
  refine wpL_value rfl (x_b2s Tryz.underlying41 Tryz.underlying5 Tryz.underlying9 hs18 rfl) ?_
  refine wpL_yes rfl ?_
  refine wpL_value rfl (x_to (x_eqS rfl rfl) (congrArg Value.bool (decide_eq_true (rfl)))) ?_
  refine wpL_value rfl (x_pick_t rfl) (wpL_value rfl x_move (wpL_yes rfl (wpL_value rfl x_move (wpL_yes rfl ?_))))
  refine wpL_call rfl C37 (root_run hS18) ?_
  rintro _ w19 ⟨rfl, hS19, hc19⟩
  refine wpL_yes rfl ?_
  refine wpL_value rfl (x_to (x_eql32u (b := 7) rfl rfl) (congrArg Value.bool (decide_eq_true (rfl)))) ?_
  refine wpL_value rfl (x_pick_t rfl) (wpL_value rfl x_move (wpL_yes rfl (wpL_value rfl x_move (wpL_yes rfl ?_))))
  refine wpL_call rfl C38 (meta_run hS19) ?_
  rintro _ w20 ⟨rfl, hS20, hc20⟩
  refine wpL_yes rfl ?_
  refine wpL_value rfl (x_to (x_eqS rfl rfl) (congrArg Value.bool (decide_eq_true (rfl)))) ?_
  refine wpL_value rfl (x_pick_t rfl) (wpL_value rfl x_move (wpL_yes rfl (wpL_value rfl x_move (wpL_yes rfl ?_))))
  refine wpL_call rfl C32 (room_run hS20) ?_
  rintro _ w21 ⟨rfl, hS21, hc21⟩
  refine wpL_yes rfl (wpL_value rfl (x_eql rfl rfl) (wpL_value rfl (x_pick_t rfl) (wpL_value rfl x_assign ?_)))
  refine wpL_nil (thenE_norm ?_)
  refine wpE_ret (fin_ret ?_)
  exact ⟨rfl, hS21.now⟩
theorem begun_run {w0 w : World} {n : Nat} (hn : 4 ≤ n ∧ n ≤ 400) (V : UInt32 → List UInt8) (h0 : Chg [] w0 w) :
    Ret Tryz.prog 20 #[.int .i64 n] w fun v w' => ∃ b kv r R a ds mb pv ov, v = .tuple #[.pointer (some ⟨b, 0, none⟩), .pointer (some ⟨R.pb, 0, none⟩), .pointer (some ⟨mb, 0, none⟩), .bool true] ∧ PS w0 w' b kv r R n 1 k39 ds (pgZ a) V ∧ MAt w' mb pv ov (Mdl.zero n) ∧ (∀ x ∈ MF mb pv ov, w.heap.size ≤ x ∧ x ∉ PF R ++ DF b kv r) ∧ Chg [] w w' := by
  refine enter [2, 3, 4, 5] Tryz.func20 rfl rfl (Nat.le_of_ble_eq_true rfl) ?_
  refine wpE_seq ?_
  refine wpE_region ?_
  refine wpL_value rfl x_assign (wpL_value rfl x_assign (wpL_value rfl x_assign (wpL_value rfl x_assign ?_)))
  refine wpL_nil (thenE_norm ?_)
  refine wpE_seq ?_
  refine wpE_region ?_
  refine wpL_value rfl x_move (wpL_value rfl (x_mul64 rfl rfl (by omega)) (wpL_value rfl (x_add64 rfl rfl (by omega)) ?_))
  refine wpL_call rfl C11 (new_run7 w0 w (32 + 8 * n) (by omega) h0) ?_
  rintro _ w1 ⟨b, kv, r, rfl, hd1, hc1, hF1⟩
  refine wpL_value rfl x_assign ?_
  refine wpL_nil (thenE_norm ?_)
  refine wpE_seq ?_
  refine wpE_region ?_
  refine wpL_value rfl x_move ?_
  refine wpL_value rfl (x_buildV (List.replicate 32 (0 : UInt8)) ([(3, 9)]) (l := k39) Tryz.underlying23 I23 rfl I5 (by kernel_rfl) rfl (by kernel_rfl) rfl (by kernel_rfl)) ?_
  refine wpL_call rfl C61 (format_run (n := n) V hd1 hn rfl) ?_
  rintro _ w2 ⟨R, a, ds2, rfl, hS2, hc2, hR2⟩
  refine wpL_value rfl x_move (wpL_value rfl (x_extract rfl rfl) (wpL_value rfl (x_extract rfl rfl) (wpL_value rfl x_assign (wpL_value rfl x_assign ?_))))
  refine wpL_nil (thenE_norm ?_)
  refine wpE_seq ?_
  have hlt := hS2.lt
  have hc02 : Chg [] w w2 := hc1.t0 hc2 hF1
  refine wpE_draw mixed (.pure 0 (.pure 2 (.alt (.eff 1 [] (.eff 3 [] (.pure 4 (.eff 5 [] (.pure 6 .nil))))) (.eff 3 [] (.eff 1 [] (.pure 4 (.eff 5 [] (.pure 6 .nil)))))))) (by kernel_rfl) ?_
  refine wpP_pure rfl rfl rfl (fun _ => x_move) ?_
  refine wpP_pure rfl rfl rfl (fun _ => x_move) ?_
  have hcum : Chg [] w2 { w2 with drawn := w2.drawn + 1 } := Chg.heap rfl
  refine wpP_alt ?_ ?_
  · skip
    refine wpP_exw rfl rfl rfl (x_mkS n n pg0 Tryz.underlying117 I154 rfl rfl rfl (by decide) rfl rfl (by decide) rfl rfl (by omega) (by omega)) ?_
    rintro _ wq1 ⟨⟨p1, c1, rfl⟩, ho1, hc1, hi1x⟩
    refine ⟨trivial, ?_⟩
    have hi1 : ∀ x ∈ blkOf (.slice p1 n c1), w2.heap.size ≤ x := fun x hx => Nat.le_trans hcum.1 (hi1x.ge x hx)
    have hcum := hcum.tr hc1
    refine wpP_exw rfl rfl rfl (x_mkS n n pg0 Tryz.underlying117 I154 rfl rfl rfl (by decide) rfl rfl (by decide) rfl rfl (by omega) (by omega)) ?_
    rintro _ wq3 ⟨⟨p3, c3, rfl⟩, ho3, hc3, hi3x⟩
    refine ⟨trivial, ?_⟩
    have hi3 : ∀ x ∈ blkOf (.slice p3 n c3), w2.heap.size ≤ x := fun x hx => Nat.le_trans hcum.1 (hi3x.ge x hx)
    have hcum := hcum.tr hc3
    have hap : ∀ x ∈ blkOf (.slice p1 n c1), x ∉ blkOf (.slice p3 n c3) := fun x hx hh => Nat.not_lt.2 (hi3x.ge x hh) (ho1.sl.lt x hx)
    have ho1 := ho1.mod0 hc3
    refine wpP_pure rfl rfl rfl (fun _ => x_buildL Tryz.underlying119 I119 rfl (zs := [.slice none 0 0, .slice none 0 0, .int .u32 0, .int .u32 0, str [], str []]) rfl rfl (fill1 rfl rfl rfl (Nat.le_of_ble_eq_true rfl) (fill1 rfl rfl rfl (Nat.le_of_ble_eq_true rfl) (fill0 (cs' := mdC (Mdl.zero n) (.slice p1 n c1) (.slice p3 n c3)) rfl)))) ?_
    refine wpP_exw rfl rfl rfl (x_boxB (l := mdC (Mdl.zero n) (.slice p1 n c1) (.slice p3 n c3)) rfl rfl) ?_
    rintro _ wq5 ⟨mb, rfl, hn5, hB5, hc5, hl5⟩
    refine ⟨trivial, ?_⟩
    refine wpP_pure rfl rfl rfl (fun _ => x_assign) ?_
    refine wpP_nil (thenE_norm ?_)
    refine wpE_seq ?_
    refine wpE_region ?_
    refine wpL_value rfl x_move (wpL_value rfl x_move (wpL_value rfl x_move (wpL_value rfl x_move (wpL_value rfl (x_eql rfl rfl) (wpL_value rfl x_assign (wpL_value rfl x_assign (wpL_value rfl x_assign (wpL_value rfl x_assign ?_))))))))
    refine wpL_nil (thenE_norm ?_)
    refine wpE_ret (fin_ret ?_)
    have k1 := hcum.1
    have k2 := hc02.1
    have l1 := ho1.sl.lt
    have l3 := ho3.sl.lt
    have h5 := hcum.tr hc5
    refine ⟨_, kv, r, R, a, ds2, mb, _, _, rfl, hS2.chg0 h5, ⟨hB5, ho1.mod0 hc5, ho3.mod0 hc5, fun h => by have := l1 _ h; omega, fun h => by have := l3 _ h; omega, hap⟩, fun x hx => ?_, hc02.tr h5⟩
    have hx2 : w2.heap.size ≤ x := by
      simp only [MF, List.mem_cons, List.mem_append] at hx
      rcases hx with rfl | hx | hx
      · omega
      · exact hi1 x hx
      · exact hi3 x hx
    exact ⟨by omega, fun hh => by have := hlt x hh; omega⟩
  · skip
    refine wpP_exw rfl rfl rfl (x_mkS n n pg0 Tryz.underlying117 I154 rfl rfl rfl (by decide) rfl rfl (by decide) rfl rfl (by omega) (by omega)) ?_
    rintro _ wq3 ⟨⟨p3, c3, rfl⟩, ho3, hc3, hi3x⟩
    refine ⟨trivial, ?_⟩
    have hi3 : ∀ x ∈ blkOf (.slice p3 n c3), w2.heap.size ≤ x := fun x hx => Nat.le_trans hcum.1 (hi3x.ge x hx)
    have hcum := hcum.tr hc3
    refine wpP_exw rfl rfl rfl (x_mkS n n pg0 Tryz.underlying117 I154 rfl rfl rfl (by decide) rfl rfl (by decide) rfl rfl (by omega) (by omega)) ?_
    rintro _ wq1 ⟨⟨p1, c1, rfl⟩, ho1, hc1, hi1x⟩
    refine ⟨trivial, ?_⟩
    have hi1 : ∀ x ∈ blkOf (.slice p1 n c1), w2.heap.size ≤ x := fun x hx => Nat.le_trans hcum.1 (hi1x.ge x hx)
    have hcum := hcum.tr hc1
    have hap : ∀ x ∈ blkOf (.slice p1 n c1), x ∉ blkOf (.slice p3 n c3) := fun x hx hh => Nat.not_lt.2 (hi1x.ge x hx) (ho3.sl.lt x hh)
    have ho3 := ho3.mod0 hc1
    refine wpP_pure rfl rfl rfl (fun _ => x_buildL Tryz.underlying119 I119 rfl (zs := [.slice none 0 0, .slice none 0 0, .int .u32 0, .int .u32 0, str [], str []]) rfl rfl (fill1 rfl rfl rfl (Nat.le_of_ble_eq_true rfl) (fill1 rfl rfl rfl (Nat.le_of_ble_eq_true rfl) (fill0 (cs' := mdC (Mdl.zero n) (.slice p1 n c1) (.slice p3 n c3)) rfl)))) ?_
    refine wpP_exw rfl rfl rfl (x_boxB (l := mdC (Mdl.zero n) (.slice p1 n c1) (.slice p3 n c3)) rfl rfl) ?_
    rintro _ wq5 ⟨mb, rfl, hn5, hB5, hc5, hl5⟩
    refine ⟨trivial, ?_⟩
    refine wpP_pure rfl rfl rfl (fun _ => x_assign) ?_
    refine wpP_nil (thenE_norm ?_)
    refine wpE_seq ?_
    refine wpE_region ?_
    refine wpL_value rfl x_move (wpL_value rfl x_move (wpL_value rfl x_move (wpL_value rfl x_move (wpL_value rfl (x_eql rfl rfl) (wpL_value rfl x_assign (wpL_value rfl x_assign (wpL_value rfl x_assign (wpL_value rfl x_assign ?_))))))))
    refine wpL_nil (thenE_norm ?_)
    refine wpE_ret (fin_ret ?_)
    have k1 := hcum.1
    have k2 := hc02.1
    have l1 := ho1.sl.lt
    have l3 := ho3.sl.lt
    have h5 := hcum.tr hc5
    refine ⟨_, kv, r, R, a, ds2, mb, _, _, rfl, hS2.chg0 h5, ⟨hB5, ho1.mod0 hc5, ho3.mod0 hc5, fun h => by have := l1 _ h; omega, fun h => by have := l3 _ h; omega, hap⟩, fun x hx => ?_, hc02.tr h5⟩
    have hx2 : w2.heap.size ≤ x := by
      simp only [MF, List.mem_cons, List.mem_append] at hx
      rcases hx with rfl | hx | hx
      · omega
      · exact hi1 x hx
      · exact hi3 x hx
    exact ⟨by omega, fun hh => by have := hlt x hh; omega⟩
end Go.Proofs.YtenhmbhflgnhlaaGreat

