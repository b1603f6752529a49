/- every row of calls, crashes, the power going within a commit: what each tells -/
import Derived.Test.YtenhmbhflgnhlaaGreatQSort32
namespace Go.Proofs.YtenhmbhflgnhlaaGreat
open Go Go.Sac Go.Maps
set_option maxRecDepth 100000
set_option maxHeartbeats 4000000
theorem KeysP_ok (w : World) (r : Nat) :
    Ret Tryz.prog 88 #[.map (some r)] w fun v w' => ∃ q, v = .func (.func 112) #[] #[.pointer (some ⟨q, 0, none⟩)] ∧ Blk w' q [.map (some r)] ∧ w.heap.size ≤ q ∧ Chg [] w w' := by
  refine enter [2] Tryz.func88 rfl rfl (Nat.le_of_ble_eq_true rfl) ?_
  refine wpE_seq ?_
  refine wpE_region ?_
  refine wpL_exw rfl (x_boxB (l := [.map (some r)]) rfl rfl) ?_
  rintro _ w1 ⟨q, rfl, hq, hB, hc, hl⟩
  refine wpL_value rfl x_assign ?_
  refine wpL_nil (thenE_norm ?_)
  refine wpE_seq ?_
  refine wpE_region ?_
  refine wpL_value rfl (x_mkF rfl) ?_
  refine wpL_value rfl x_assign ?_
  refine wpL_nil (thenE_norm ?_)
  refine wpE_ret (fin_ret ?_)
  exact ⟨q, rfl, hB, hq, hc⟩
theorem CollectP_ok (w : World) (q r : Nat) (f : PgF) (n : Nat) (hn : n ≤ 1000) (hB : Blk w q [.map (some r)]) (hm : SetAt w r f) (hf : ∀ x, f x = true → x.toNat < n) :
    Ret Tryz.prog 110 #[.func (.func 112) #[] #[.pointer (some ⟨q, 0, none⟩)]] w fun v w' => ∃ l : List UInt32, Own w' v l ∧ sortU l = pgsL f n ∧ l.length ≤ n ∧ Chg [] w w' ∧ In v [] w.heap.size := by
  obtain ⟨m, hm, hg⟩ := hm
  have hnd : (m.map (·.1)).Nodup := by obtain ⟨es, cl, _, _, hn, _⟩ := hm; exact hn
  have hmem : ∀ x, x ∈ m.map (·.1) ↔ f x = true := fun x => by
    have h1 := hg x
    constructor
    · intro hx
      by_cases hfx : f x = true
      · exact hfx
      · rw [if_neg hfx] at h1
        have hob1 := List.mem_map.1 hx
        obtain ⟨p, hp, rfl⟩ := hob1
        have := (mget_mem hnd).2 (show (p.1, p.2) ∈ m from hp)
        rw [this] at h1; cases h1
    · intro hfx
      rw [if_pos hfx] at h1
      exact List.mem_map.2 ⟨_, (mget_mem hnd).1 h1, rfl⟩
  have hsort : ∀ l : List UInt32, l.Perm (m.map (·.1)) → sortU l = pgsL f n := fun l hl =>
    sort_pgs (by omega) (hl.nodup_iff.2 hnd) (fun x => by rw [hl.mem_iff]; exact hmem x) hf
  have hlen : ∀ l : List UInt32, l.Perm (m.map (·.1)) → l.length ≤ n := fun l hl => by
    rw [← sortU_length, hsort l hl]; exact pgsL_length f n
  have hml : m.length ≤ n := by have := hlen _ (.refl _); simpa using this
  obtain ⟨D0, hown, hperm, hsz⟩ := owns_of_map32 Tryz.underlying34 hm (by unfold maxLen; omega)
  have hseq : SeqGives Fence.wide 3 Tryz.prog 112 #[.pointer (some ⟨q, 0, none⟩)] (encQ .u32) (fun ss => ss.Perm (intKeys D0)) (Maps.size D0) w :=
    k32_keys_gives Fence.wide _ trivial rfl (by omega) q r m.length D0 w hB.lt (hB.c rfl) hown
  have cC := k32_collect_in Fence.wide 5 trivial trivial rfl (by omega) 112 #[.pointer (some ⟨q, 0, none⟩)] trivial (enters_of Tryz.func112 (by kernel_rfl) rfl) _ _ (by rw [hsz]; unfold maxLen; omega) (by rw [hsz]; omega) _ hseq
  refine Calls.mono (callsIn_wide.1 cC) ?_
  rintro e w' ⟨v, ss, rfl, hS, hrow, hnil, hb⟩
  have hp2 : ss.Perm ((m.map (·.1)).map fun p => (p.toNat : Int)) := by rw [List.map_map]; exact hS.trans hperm
  have hob2 := perm_of_nums hp2
  obtain ⟨l, hl, rfl⟩ := hob2
  rw [List.length_map, List.map_map] at hrow
  have hob3 := own_of_rowQ (l := l) hrow
  obtain ⟨h1, h2⟩ := hob3
  exact ⟨v, rfl, l, h1, hsort l hl, hlen l hl, ⟨hb.size, fun b hb' _ => hb.block b hb', hb.os, hb.output⟩, h2⟩
theorem SortedP_ok (w : World) (q r : Nat) (f : PgF) (n : Nat) (hn : n ≤ 12) (hB : Blk w q [.map (some r)]) (hm : SetAt w r f) (hf : ∀ x, f x = true → x.toNat < n) :
    Ret Tryz.prog 87 #[.func (.func 112) #[] #[.pointer (some ⟨q, 0, none⟩)]] w fun v w' => Own w' v (pgsL f n) ∧ Chg [] w w' ∧ In v [] w.heap.size := by
  refine enter [2] Tryz.func87 rfl rfl (Nat.le_of_ble_eq_true rfl) ?_
  refine wpE_seq ?_
  refine wpE_region ?_
  refine wpL_value rfl x_assign ?_
  refine wpL_nil (thenE_norm ?_)
  refine wpE_seq ?_
  refine wpE_region ?_
  refine wpL_value rfl x_move ?_
  refine wpL_call rfl C110 (CollectP_ok w q r f n (by omega) hB hm hf) ?_
  rintro v1 w1 ⟨l, ho1, hs1, hl1, hc1, hi1⟩
  refine wpL_value rfl x_assign ?_
  refine wpL_nil (thenE_norm ?_)
  refine wpE_seq ?_
  refine wpE_region ?_
  refine wpL_value rfl x_move ?_
  refine wpL_call rfl C111 (Sort32_ok v1 l w1 ho1 (by omega)) ?_
  rintro _ w2 ⟨ho2, hc2⟩
  refine wpL_nil (thenE_norm ?_)
  refine wpE_seq ?_
  refine wpE_region ?_
  refine wpL_value rfl x_move (wpL_value rfl x_assign ?_)
  refine wpL_nil (thenE_norm ?_)
  refine wpE_ret (fin_ret ?_)
  rw [hs1] at ho2
  exact ⟨ho2, hc1.t0 hc2 (fun x hx => hi1.ge x hx), hi1⟩
theorem Used_ok (w : World) (R : PR) (b : Nat) (k : List UInt8) (P : Pg) (h : PagerAt w R b k P) (n : Nat) (hn : n ≤ 12) (hf : ∀ x, P.now.used x = true → x.toNat < n) :
    Ret Tryz.prog 36 #[.pointer (some ⟨R.pb, 0, none⟩)] w fun v w' => Own w' v (pgsL P.now.used n) ∧ Chg [] w w' ∧ In v [] w.heap.size := by
  refine enter [2] Tryz.func36 rfl rfl (Nat.le_of_ble_eq_true rfl) ?_
  refine wpE_seq ?_
  refine wpE_region ?_
  refine wpL_value rfl x_assign ?_
  refine wpL_nil (thenE_norm ?_)
  refine wpE_seq ?_
  refine wpE_region ?_
  refine wpL_value rfl x_move (wpL_value rfl (x_nil rfl) (wpL_value rfl (x_fieldAddr Tryz.underlying128 rfl I123 rfl rfl) (wpL_value rfl (x_fieldAddr Tryz.underlying123 rfl I121 rfl rfl) ?_)))
  refine wpL_value rfl (x_load Tryz.underlying121 rfl rfl (h.a 2 (by decide) rfl)) ?_
  refine wpL_call rfl C88 (KeysP_ok w R.u) ?_
  rintro _ w1 ⟨q, rfl, hB, hq, hc1⟩
  refine wpL_call rfl C87 (SortedP_ok w1 q R.u _ n hn hB (h.2.1.chg0 hc1) hf) ?_
  rintro v2 w2 ⟨ho2, hc2, hi2⟩
  refine wpL_value rfl x_assign ?_
  refine wpL_nil (thenE_norm ?_)
  refine wpE_ret (fin_ret ?_)
  exact ⟨ho2, hc1.tr hc2, hi2.mono (fun x hx => .inl hx) hc1.1⟩
end Go.Proofs.YtenhmbhflgnhlaaGreat

