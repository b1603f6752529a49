/- every row of calls, crashes, the power going within a commit: what each tells -/
import Derived.Test.YtenhmbhflgnhlaaGreatQPager13
namespace Go.Proofs.YtenhmbhflgnhlaaGreat
open Go Go.Sac
set_option maxRecDepth 100000
set_option maxHeartbeats 4000000
theorem reads_ok (w : World) (R : PR) (b r : Nat) (kv : Value) (ds : DSt) (k : List UInt8) (hk : k.length = 32) (P : Pg) (h : PagerAt w R b k P) (hd : DiskAt w b kv r ds) (ho : ds.off = false) (hl : ds.kept.length ≤ 4000) (hap : ∀ x ∈ PF R, x ∉ DF b kv r) (hi : ∀ i, P.now.written i = true → 40 + i.toNat * 8 ≤ ds.kept.length) :
    Ret Tryz.prog 95 #[.pointer (some ⟨R.pb, 0, none⟩)] w fun v w' => v = .int .i64 0 ∧ (∃ f, (∀ i, P.now.written i = true → f i = some (genD ds i)) ∧ PagerAt w' R b k { P with gens := f }) ∧ Chg [R.g] w w' := by
  have hwr := h.2.2.1
  obtain ⟨m, hm, hml⟩ := hwr
  have hnd := hm.nodup
  obtain ⟨q1, q2, q3, q4, q5⟩ := PR.apart h.2.2.2.2.2.2
  have hglt := h.lt R.g (by simp [PF])
  refine enter [2] Tryz.func95 rfl rfl (Nat.le_of_ble_eq_true rfl) ?_
  refine wpE_seq ?_
  refine wpE_region ?_
  refine wpL_value rfl x_assign ?_
  refine wpL_nil (thenE_norm ?_)
  refine wpE_seq ?_
  refine wpE_seq ?_
  refine wpE_region ?_
  refine wpL_value rfl x_move (wpL_value rfl (x_nil rfl) (wpL_value rfl (x_fieldAddr Tryz.underlying128 rfl I123 rfl rfl) (wpL_value rfl (x_fieldAddr Tryz.underlying123 rfl I121 rfl rfl) ?_)))
  refine wpL_value rfl (x_load Tryz.underlying121 rfl rfl (h.a 3 (by decide) rfl)) ?_
  refine wpL_exv rfl (x_range Tryz.underlying121 rfl hm) ?_
  rintro w1 ⟨hit, hc1, hs1⟩
  refine wpL_nil (thenE_norm ?_)
  refine wpE_block ?_
  refine wpE_loop [] [2, 3, 4, 5, 12, 13, 14, 15, 16, 17, 18, 19, 20, 21, 22, 23, 24, 25, 26, 27, 28, 29, 30, 31, 32, 33, 34, 35, 36] (fun n vs w' => ∃ (left : List (UInt32 × Value)) (f : UInt32 → Option UInt64), vs = [] ∧ left.length = n ∧ IterAt w' w.heap.size R.r m left ∧ (∀ i, P.now.written i = true → i ∉ left.map (·.1) → f i = some (genD ds i)) ∧ PagerAt w' R b k { P with gens := f } ∧ Chg [R.g] w w') (m.length) (by kernel_rfl) ?_ ?_
  · refine ⟨m, P.gens, rfl, rfl, hit, fun i hi hni => ?_, h.chg0 hc1, hc1.mono (by simp)⟩
    exact absurd (List.mem_map.2 ⟨_, (mget_mem hnd).1 (by rw [hml, if_pos hi]), rfl⟩) hni
  · rintro n vs J w2 ⟨left, f, rfl, hln, hit2, hdone, h2, hc2⟩
    refine wpE_seq ?_
    refine wpE_region ?_
    refine wpL_next rfl (hit2) rfl ?_ ?_
    · rintro h0
      refine wpL_value rfl (x_extract rfl rfl) ?_
      refine wpL_nil (thenE_norm ?_)
      refine wpE_seq ?_
      refine wpE_cond_f (rfl) ?_
      refine wpE_exit (thenE_exit (thenE_exit (blockE_exit (thenE_norm ?_))))
      refine wpE_seq ?_
      refine wpE_region ?_
      refine wpL_value rfl x_assign ?_
      refine wpL_nil (thenE_norm ?_)
      refine wpE_ret (fin_ret ?_)
      subst h0
      exact ⟨rfl, ⟨f, fun i hw => hdone i hw (by simp), h2⟩, hc2⟩
    · rintro a kk v b' w3 hsp hit3 hcur hc3 hs3
      refine wpL_value rfl (x_extract rfl rfl) ?_
      refine wpL_nil (thenE_norm ?_)
      refine wpE_seq ?_
      refine wpE_cond_t (rfl) ?_
      refine wpE_skip (thenE_norm ?_)
      refine wpE_block ?_
      refine wpE_seq ?_
      refine wpE_region ?_
      have hkm : (kk, v) ∈ m := hit2.sub.subset (by rw [hsp]; simp)
      have hwk : P.now.written kk = true := by
        have h1 := (mget_mem hnd).2 hkm
        rw [hml] at h1
        cases hfk : P.now.written kk with
        | true => rfl
        | false => rw [hfk] at h1; cases h1
      have hik := hi kk hwk
      have hqg : w.heap.size ∉ PF R := fun hh => by have := h.lt _ hh; omega
      have h3 : PagerAt w3 R b k { P with gens := f } := h2.chg hc3 (fun x hx hh => by simp at hh; subst hh; exact hqg hx)
      have hc03 : Chg [R.g] w w3 := hc2.trans hc3 (fun _ h _ => h) (fun x hx hlt => by simp at hx; omega)
      have hd3 : DiskAt w3 b kv r ds := hd.chg hc03 (fun x hx hh => by simp at hh; subst hh; exact hap R.g (by simp [PF]) hx)
      refine wpL_value rfl (x_entry rfl hcur) ?_
      refine wpL_value rfl (x_extract rfl rfl) (wpL_value rfl x_assign ?_)
      refine wpL_nil (thenE_norm ?_)
      refine wpE_seq ?_
      refine wpE_region ?_
      refine wpL_value rfl x_move (wpL_value rfl x_move ?_)
      refine wpL_call rfl C67 (region_ok w3 R b k hk _ h3 kk) ?_
      rintro _ w4 ⟨rfl, hc4⟩
      refine wpL_call rfl C80 (RRead_ok w4 b r kv ds (32 + (kk.toNat : Int) * 8) 1 (hd3.chg0 hc4) ho (by omega) hl (by decide)) ?_
      rintro _ w5 ⟨v5, rfl, ho5, hc5, hi5⟩
      refine wpL_value rfl x_move (wpL_value rfl (x_extract rfl rfl) (wpL_value rfl (x_extract rfl rfl) (wpL_value rfl x_assign (wpL_value rfl x_assign ?_))))
      refine wpL_nil (thenE_norm ?_)
      refine wpE_seq ?_
      refine wpE_seq ?_
      refine wpE_region ?_
      refine wpL_value rfl x_move (wpL_value rfl (x_neq rfl rfl) ?_)
      refine wpL_nil (thenE_norm ?_)
      have htl : (ds.reads (32 + (kk.toNat : Int) * 8) 1).length = 64 := DSt.reads_length _ _ _
      refine wpE_cond_df rfl (fun h => h rfl) ?_
      refine wpE_skip (thenE_norm ?_)
      have hc35 : Chg [] w3 w5 := hc4.tr hc5
      have h5 := h3.chg0 hc35
      have hit5 := (hit3.mod hc35 (by simp) (by simp))
      have hob1 := h5.2.2.2.2.2.1
      obtain ⟨mg, hmg, hmgl⟩ := hob1
      refine wpE_draw mixed (.pure 0 (.pure 1 (.pure 2 (.read 3 (.pure 4 (.pure 5 (.eff 6 [3] (.pure 7 (.pure 8 (.pure 9 (.pure 10 (.eff 11 [] .nil)))))))))))) (by kernel_rfl) ?_
      refine wpP_pure rfl rfl rfl (fun _ => x_move) ?_
      refine wpP_pure rfl rfl rfl (fun _ => (x_nil rfl)) ?_
      refine wpP_pure rfl rfl rfl (fun _ => (x_fieldAddr Tryz.underlying128 rfl I126 rfl rfl)) ?_
      refine wpP_rd rfl rfl rfl Tryz.underlying126 rfl rfl (h5.c hk 8 rfl) ?_
      refine wpP_pure rfl rfl rfl (fun _ => x_move) ?_
      refine wpP_pure rfl rfl rfl (fun _ => x_move) ?_
      refine wpP_call rfl rfl rfl C81 (Get_ok v5 _ 8 _ (ho5.sl.mod0 (drw _)) (by decide) (by omega)) ?_
      rintro v6 w6 ⟨hv6, hh6⟩
      unfold getV at hv6
      rw [if_neg (by omega)] at hv6
      obtain ⟨r6, hv6e, hs6, hbl6⟩ := hv6
      subst hv6e
      have hc6 : Chg [] w5 w6 := (drw w5).tr (Chg.heap hh6)
      have h6 := h5.chg0 hc6
      have hm6 := hmg.mod hc6 (by simp)
      have hit6 := hit5.mod hc6 (by simp) (by simp)
      refine ⟨⟨h6.c hk 8 rfl, trivial⟩, ?_⟩
      refine wpP_pure rfl rfl rfl (fun _ => x_move) ?_
      refine wpP_pure rfl rfl rfl (fun _ => (x_extract rfl rfl)) ?_
      refine wpP_pure rfl rfl rfl (fun _ => (x_extract rfl rfl)) ?_
      refine wpP_pure rfl rfl rfl (fun _ => (x_extract rfl rfl)) ?_
      refine wpP_exs rfl rfl rfl (x_mapUpdate (k := kk) (v := .int .u64 (genD ds kk).toNat) Tryz.underlying126 (keyOk_u32 Tryz.underlying34) rfl rfl rfl hm6) ?_
      rintro w7 ⟨hm7, hc7, hs7⟩
      refine ⟨trivial, ?_⟩
      refine wpP_nil (blockE_norm (thenE_norm ?_))
      have h7 := h6.updG ⟨_, hm7, gen_law hmgl kk (genD ds kk)⟩ hc7
      have hlen : (a ++ b').length + 1 = left.length := by rw [hsp]; simp; omega
      refine Exists.intro ((a ++ b').length) (And.intro (by omega) ?_)
      refine ⟨a ++ b', setG f kk (genD ds kk), rfl, rfl, hit6.mod hc7 (by simp; omega) (by simpa using q3.2.2), fun i hi' hni => ?_, h7, ((hc03.tr0 hc35).tr0 hc6).tr hc7⟩
      unfold setG
      by_cases hik : i = kk
      · rw [if_pos hik, hik]
      · rw [if_neg hik]
        refine hdone i hi' (fun h3 => ?_)
        rw [hsp] at h3
        simp only [List.map_append, List.map_cons, List.mem_append, List.mem_cons] at h3 hni
        rcases h3 with h3 | h3 | h3
        · exact hni (.inl h3)
        · exact hik h3
        · exact hni (.inr h3)
end Go.Proofs.YtenhmbhflgnhlaaGreat

