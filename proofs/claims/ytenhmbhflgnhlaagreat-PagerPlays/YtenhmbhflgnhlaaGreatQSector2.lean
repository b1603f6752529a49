/- every row of calls, crashes, the power going within a commit: what each tells -/
import Derived.Test.YtenhmbhflgnhlaaGreatQSector
import Derived.Test.YtenhmbhflgnhlaaGreatQLaid
import Derived.Test.YtenhmbhflgnhlaaGreatSac1
namespace Go.Proofs.YtenhmbhflgnhlaaGreat
open Go Go.Sac Go.Shelf
set_option maxRecDepth 100000
set_option maxHeartbeats 4000000
theorem Keys_ok (w : World) (r : Nat) :
    Ret Tryz.prog 84 #[.map (some r)] w fun v w' => ∃ q, v = .func (.func 109) #[] #[.pointer (some ⟨q, 0, none⟩)] ∧ Blk w' q [.map (some r)] ∧ w.heap.size ≤ q ∧ Chg [] w w' := by
  refine enter [2] Tryz.func84 rfl rfl (Nat.le_of_ble_eq_true rfl) ?_
  refine wpE_seq ?_
  refine wpE_region ?_
  refine wpL_exw rfl (x_boxB (l := [.map (some r)]) rfl rfl) ?_
  rintro _ w1 ⟨q, rfl, hq, hB, hc, hl⟩
  refine wpL_value rfl x_assign ?_
  refine wpL_nil (thenE_norm ?_)
  refine wpE_seq ?_
  refine wpE_region ?_
  refine wpL_value rfl (x_mkF rfl) ?_
  refine wpL_value rfl x_assign ?_
  refine wpL_nil (thenE_norm ?_)
  refine wpE_ret (fin_ret ?_)
  exact ⟨q, rfl, hB, hq, hc⟩
theorem sortsA (m : Nat) : AnyZI.SortsIn Tryz.prog Tryz.sortedA_ren Fence.wide m :=
  ⟨fun blk off cap ss W hH hblk hsz => callsIn_wide.2 (AnyM.slices_Sort_int Tryz.sortA blk off cap ss W hH hblk hsz),
   fun p cap W => callsIn_wide.2 (AnyM.slices_Sort_int_none Tryz.sortA p cap W)⟩
theorem Sorted_ok (w : World) (q r : Nat) (m : List (Int × Value)) (hB : Blk w q [.map (some r)]) (hm : MapAt w r m) (hr : ∀ p ∈ m, -9223372036854775808 ≤ p.1 ∧ p.1 < 9223372036854775808) (hl : m.length ≤ 100000) :
    Ret Tryz.prog 83 #[.func (.func 109) #[] #[.pointer (some ⟨q, 0, none⟩)]] w fun v w' => Own w' v (sortI (m.map (·.1))) ∧ Chg [] w w' ∧ In v [] w.heap.size :=
  sorted_keys Tryz.keysA Tryz.sortedA sortsA (enters_of Tryz.func108 (by kernel_rfl) rfl) (enters_of Tryz.func109 (by kernel_rfl) rfl) Tryz.underlying3 w q r m hB hm hr (by omega)
theorem sortI_mem (l : List Int) (i : Int) : i ∈ sortI l ↔ i ∈ l := (List.mergeSort_perm l _).mem_iff
theorem sortI_length (l : List Int) : (sortI l).length = l.length := (List.mergeSort_perm l _).length_eq
theorem Crash_ok (w : World) (b r : Nat) (kv cv : Value) (ds : DSt) (ch : List UInt8) (hd : DiskAt w b kv r ds) (hf : ds.Fine) (hpl : ds.pend.length ≤ 100000) (hcf : ∃ p c, cv = .slice p ch.length c) (hch : ch = [] ∨ (Sl w cv ch ∧ ∀ x ∈ blkOf cv, x ∉ DF b kv r)) (hcl : ch.length ≤ 100000) :
    Ret Tryz.prog 30 #[.pointer (some ⟨b, 0, none⟩), cv] w fun v w' => DiskAt w' b kv r (ds.crash ch) ∧ Chg (DF b kv r) w w' := by
  obtain ⟨hB, hk, hm, h1, h2, h3⟩ := id hd
  obtain ⟨pc, cc, rfl⟩ := hcf
  have hob1 := hk.form rfl
  obtain ⟨pk, ck, hkv⟩ := hob1
  have hdlt := hd.lt
  refine enter [] Tryz.func30 rfl rfl (Nat.le_of_ble_eq_true rfl) ?_
  refine wpE_seq ?_
  refine wpE_region ?_
  refine wpL_value rfl x_move (wpL_value rfl (x_nil rfl) (wpL_value rfl (x_fieldAddr Tryz.underlying89 rfl I85 rfl rfl) (wpL_value rfl (x_fieldAddr Tryz.underlying85 rfl I3 rfl rfl) ?_)))
  refine wpL_exs rfl (x_storeB1 I3 rfl rfl (hB) rfl rfl (show 1 < _ by simp) rfl (rfl)) ?_
  rintro w1 ⟨hB1, hc1, hs1⟩
  refine wpL_nil (thenE_norm ?_)
  refine wpE_seq ?_
  refine wpE_seq ?_
  refine wpE_region ?_
  refine wpL_value rfl x_move (wpL_value rfl (x_nil rfl) (wpL_value rfl (x_fieldAddr Tryz.underlying89 rfl I87 rfl rfl) ?_))
  have hd1 : DiskAt w1 b kv r { ds with offAt := 0 } := hd.turn hB1 hc1 rfl rfl
  refine wpL_value rfl (x_load Tryz.underlying87 rfl rfl (hB1.c (off := 3) rfl)) ?_
  refine wpL_call rfl C84 (Keys_ok w1 r) ?_
  rintro _ w2 ⟨q, rfl, hq2, hqn, hc2⟩
  refine wpL_call rfl C83 (Sorted_ok w2 q r (vPend ds.pend) hq2 (hd1.2.2.1.mod hc2 (by simp)) (fun p hp => by obtain ⟨p', hp', rfl⟩ := List.mem_map.1 hp; have h1 := hf.keys p' hp'; have h2 := hf.size; simp only; omega) (by simpa [vPend] using hpl)) ?_
  rintro v3 w3 ⟨hs3o, hc3, hi3⟩
  have hs3 := hs3o.sl
  rw [vPend_keys] at hs3
  have hsl := sortI_length (ds.pend.map (·.1))
  have hob2 := hs3.form rfl
  obtain ⟨p3, c3, rfl⟩ := hob2
  have hc13 : Chg [] w1 w3 := hc2.tr hc3
  have hc03 : Chg [b] w w3 := hc1.tr0 hc13
  have hd3 := hd1.chg0 hc13
  have hch3 : ch = [] ∨ (Sl w3 (.slice pc ch.length cc) ch ∧ ∀ x ∈ blkOf (.slice pc ch.length cc), x ∉ DF b kv r) := hch.imp id (fun h => ⟨h.1.mod hc03 (nb1 (fun hb => h.2 b hb (by simp [DF]))), h.2⟩)
  have hi3 : ∀ x ∈ blkOf (.slice p3 (sortI (ds.pend.map (·.1))).length c3), x ∉ DF b kv r := fun x hx h => by
    have k1 := hi3.ge x hx
    have k2 := hdlt x h
    have k3 := hc1.1
    have k4 := hc2.1
    omega
  generalize hks : sortI (ds.pend.map (·.1)) = ks at *
  have hksl : ks.length ≤ 100000 := by rw [hsl, List.length_map]; exact hpl
  have hks2 : ∀ i ∈ ks, 0 ≤ i ∧ i < ds.kept.length := fun i hi => by
    rw [← hks, sortI_mem] at hi
    have hob3 := List.mem_map.1 hi
    obtain ⟨p, hp, rfl⟩ := hob3
    exact hf.keys p hp
  refine wpL_value rfl (x_len_slice rfl Tryz.underlying95) (wpL_value rfl x_move ?_)
  refine wpL_nil (thenE_norm ?_)
  refine wpE_block ?_
  refine wpE_loop [1, 18] [1, 5, 6, 18, 19, 20, 21, 22, 23, 24, 25, 26, 27, 28, 29, 30, 31, 32, 33, 34, 35, 36, 37, 38, 39, 40, 41, 42, 43, 44, 45, 46, 47, 48, 49, 50, 51] (fun n vs w' => ∃ (i : Nat) (pc' : Option Addr) (cc' : Nat) (ch' : List UInt8) (k : List Sec), vs = [.slice pc' ch'.length cc', .int .i64 i] ∧ i + n = ks.length ∧ (ch' = [] ∨ (Sl w' (.slice pc' ch'.length cc') ch' ∧ ∀ x ∈ blkOf (.slice pc' ch'.length cc'), x ∉ DF b kv r)) ∧ ch'.length ≤ ch.length ∧ k.length = ds.kept.length ∧ DiskAt w' b kv r ⟨ds.steps, 0, k, ds.pend⟩ ∧ crashL ds.pend ks ch ds.kept = crashL ds.pend (ks.drop i) ch' k ∧ Chg (blkOf kv) w3 w') (ks.length) (by kernel_rfl) ?_ ?_
  · exact ⟨0, pc, cc, ch, ds.kept, rfl, by omega, hch3, Nat.le_refl _, rfl, hd3, rfl, Chg.refl' _ _⟩
  · rintro n vs J w4 ⟨i, pc', cc', ch', k, rfl, hi, hch4, hcl4, hkl, hd4, hcr, hc4⟩
    refine wpE_seq ?_
    refine wpE_region ?_
    refine wpL_value rfl (x_lss rfl rfl) ?_
    refine wpL_nil (thenE_norm ?_)
    refine wpE_seq ?_
    refine wpE_cond_d rfl (fun h => ?_) (fun h => ?_)
    · skip
      refine wpE_skip (thenE_norm ?_)
      refine wpE_seq ?_
      refine wpE_block ?_
      refine wpE_seq ?_
      refine wpE_region ?_
      have hob4 : ∃ q, n = q + 1 := ⟨n - 1, by omega⟩
      obtain ⟨n, rfl⟩ := hob4
      have hs4 := hs3.mod hc4 (fun x hx h => hi3 x hx (by simp [DF, h]))
      refine wpL_ex rfl (x_idx (i) Tryz.underlying95 I3 rfl (hs4) rfl rfl (by first | rfl | omega) (by omega)) ?_
      rintro _ ⟨bi, oi, rfl, hei, hbi⟩
      refine wpL_value rfl (x_load Tryz.underlying3 rfl rfl ((hs4.at hei (getD_some (d := 0) (by omega))).c0 rfl)) ?_
      refine wpL_value rfl x_assign ?_
      refine wpL_nil (thenE_norm ?_)
      refine wpE_seq ?_
      refine wpE_region ?_
      refine wpL_value rfl (x_as (v := .int .u8 ((0 : UInt8).toNat : Nat)) rfl) ?_
      refine wpL_nil (thenE_norm ?_)
      refine wpE_seq ?_
      refine wpE_seq ?_
      refine wpE_region ?_
      refine wpL_value rfl x_move (wpL_value rfl (x_len_slice rfl Tryz.underlying41) (wpL_value rfl (x_gtr rfl rfl) ?_))
      refine wpL_nil (thenE_norm ?_)
      have hki : ks.drop i = ks.getD i 0 :: ks.drop (i + 1) := by
        rw [List.drop_eq_getElem_cons (by omega)]
        congr 1
        rw [List.getD_eq_getElem?_getD, List.getElem?_eq_getElem (by omega)]; rfl
      have hkm : ks.getD i 0 ∈ ks := by
        rw [List.getD_eq_getElem?_getD, List.getElem?_eq_getElem (by omega)]; exact List.getElem_mem _
      have hob5 := hks2 _ hkm
      obtain ⟨hx0, hx1⟩ := hob5
      generalize ks.getD i 0 = key at *
      obtain ⟨hB4, hk4, hm4, _⟩ := id hd4
      have hk4 : Own w4 kv k := hk4
      have hm4 : MapAt w4 r (vPend ds.pend) := hm4
      refine wpE_cond_d rfl (fun h0 => ?_) (fun h0 => ?_)
      · skip
        have hch4' := hch4.resolve_left (fun h => by rw [h] at h0; exact absurd h0 (by decide))
        obtain ⟨hch4, hds4⟩ := hch4'
        refine wpE_draw mixed (.pure 0 (.pure 1 (.read 2 (.pure 3 (.pure 4 (.pure 5 (.pure 6 .nil))))))) (by kernel_rfl) ?_
        refine wpP_pure rfl rfl rfl (fun _ => x_move) ?_
        refine wpP_ex rfl rfl rfl (x_idx (0) Tryz.underlying41 I5 rfl (hch4) rfl rfl (by first | rfl | omega) (by omega)) ?_
        rintro _ ⟨bj, oj, rfl, hej, hbj⟩
        refine wpP_rd rfl rfl rfl Tryz.underlying5 rfl rfl ((hch4.at hej (getD_some (d := 0) (by omega))).c0 rfl) ?_
        refine wpP_pure rfl rfl rfl (fun _ => x_move) ?_
        refine wpP_ex rfl rfl rfl (x_from 1 Tryz.underlying41 I5 rfl hch4 rfl rfl rfl (by omega)) ?_
        rintro _ ⟨⟨p5, c5, rfl⟩, hs5, hbl5⟩
        refine wpP_pure rfl rfl rfl (fun _ => x_assign) ?_
        refine wpP_pure rfl rfl rfl (fun _ => x_assign) ?_
        refine wpP_nil (thenE_norm ?_)
        have hl5 : ch'.length - 1 = (ch'.drop 1).length := List.length_drop.symm
        rw [hl5] at hs5 hbl5
        have hsq : ch'.drop 1 = [] ∨ (Sl w4 (.slice p5 (ch'.drop 1).length c5) (ch'.drop 1) ∧ ∀ x ∈ blkOf (.slice p5 (ch'.drop 1).length c5), x ∉ DF b kv r) := .inr ⟨hs5, fun x hx => hds4 x (by rw [← hbl5]; exact hx)⟩
        have hclq : (ch'.drop 1).length ≤ ch.length := by rw [List.length_drop]; omega
        have hcb : ch'.headD 0 = ch'.getD 0 0 := by cases ch' <;> rfl
        have hvq : Value.slice p5 (ch'.length - 1) c5 = Value.slice p5 (ch'.drop 1).length c5 := by rw [hl5]
        generalize hcv : ch'.getD 0 0 = cb at *
        generalize hchq : ch'.drop 1 = cq at *
        refine wpE_draw mixed (.pure 0 (.pure 1 (.pure 2 (.read 3 (.pure 4 (.pure 5 (.pure 6 (.pure 7 (.read 8 (.pure 9 (.pure 10 (.read 11 (.pure 12 (.pure 13 (.pure 14 (.read 15 (.pure 16 (.read 17 (.pure 18 (.eff 19 [3] (.pure 20 (.eff 21 [] .nil)))))))))))))))))))))) (by kernel_rfl) ?_
        refine wpP_pure rfl rfl rfl (fun _ => x_move) ?_
        refine wpP_pure rfl rfl rfl (fun _ => (x_nil rfl)) ?_
        refine wpP_pure rfl rfl rfl (fun _ => (x_fieldAddr Tryz.underlying89 rfl I86 rfl rfl)) ?_
        refine wpP_rd rfl rfl rfl Tryz.underlying86 rfl rfl (hB4.c (off := 2) rfl) ?_
        refine wpP_pure rfl rfl rfl (fun _ => x_move) ?_
        refine wpP_pure rfl rfl rfl (fun _ => x_move) ?_
        refine wpP_pure rfl rfl rfl (fun _ => (x_nil rfl)) ?_
        refine wpP_pure rfl rfl rfl (fun _ => (x_fieldAddr Tryz.underlying89 rfl I86 rfl rfl)) ?_
        refine wpP_rd rfl rfl rfl Tryz.underlying86 rfl rfl (hB4.c (off := 2) rfl) ?_
        refine wpP_pure rfl rfl rfl (fun _ => x_move) ?_
        refine wpP_ex rfl rfl rfl (x_idx (key.toNat) Tryz.underlying86 I116 rfl (hk4.sl) rfl rfl (by first | rfl | omega) (by omega)) ?_
        rintro _ ⟨bk, ok, rfl, hek, hbk⟩
        refine wpP_rdAt 64 rfl rfl rfl Tryz.underlying116 rfl I116 rfl (hk4.sl.at hek (getD_some (d := sec0) (by omega))) ((k.getD key.toNat sec0).2) rfl ?_
        refine wpP_pure rfl rfl rfl (fun _ => x_move) ?_
        refine wpP_pure rfl rfl rfl (fun _ => (x_nil rfl)) ?_
        refine wpP_pure rfl rfl rfl (fun _ => (x_fieldAddr Tryz.underlying89 rfl I87 rfl rfl)) ?_
        refine wpP_rd rfl rfl rfl Tryz.underlying87 rfl rfl (hB4.c (off := 3) rfl) ?_
        refine wpP_pure rfl rfl rfl (fun _ => x_move) ?_
        refine wpP_read rfl rfl rfl (fun w' => MapAt w' r (vPend ds.pend)) (hm4) (fun w1 h1 => x_to (x_lookup (k := key) Tryz.underlying87 (keyOk_int Tryz.underlying3) I116 rfl rfl rfl h1) (lookP1 key ds.pend)) ?_
        refine wpP_pure rfl rfl rfl (fun _ => x_move) ?_
        refine wpP_call rfl rfl rfl C85 (torn_ok (k.getD key.toNat sec0) ((mget key ds.pend).getD sec0) cb _) ?_
        rintro _ w6 ⟨rfl, hc6⟩
        have hc6 : Chg [] w4 w6 := hc6
        refine ⟨⟨(hB4.chg0 hc6).c (off := 2) rfl, trivial⟩, ?_⟩
        refine wpP_ex rfl rfl rfl (x_idx (key.toNat) Tryz.underlying86 I116 rfl ((hk4.mod0 hc6).sl) rfl rfl (by first | rfl | omega) (by omega)) ?_
        rintro _ ⟨bn, on, rfl, hen, hbn⟩
        refine wpP_exs rfl rfl rfl (x_storeO (a := tornS (k.getD key.toNat sec0) ((mget key ds.pend).getD sec0) cb) I116 rfl (hk4.mod0 hc6) rfl (hen) rfl rfl (by omega)) ?_
        rintro w7 ⟨hk7, hc7, hs7⟩
        refine ⟨trivial, ?_⟩
        refine wpP_nil (blockE_norm (thenE_norm ?_))
        refine wpE_region ?_
        refine wpL_value rfl (x_add64 rfl rfl (by omega)) (wpL_value rfl x_move ?_)
        refine wpL_nil (thenE_norm ?_)
        have hc67 : Chg (blkOf kv) w4 w7 := (hc6.mono (fun x hx _ => by simp at hx)).tr hc7
        refine Exists.intro (n) (And.intro (by omega) ?_)
        refine ⟨i + 1, _, _, _, _, vs_cons hvq (vs_cons (int_eq rfl) vs_nil), by omega, hsq.imp id (fun h => ⟨h.1.mod hc67 (fun x hx hh => h.2 x hx (by simp [DF, hh])), h.2⟩), hclq, (List.length_set).trans hkl, ⟨hB4.chg hc67 h2, hk7, hm4.mod hc67 h3, h1, h2, h3⟩, ?_, hc4.tr hc67⟩
        rw [hcr, hki, crashL, hchq, hcb]
      · skip
        refine wpE_skip (thenE_norm ?_)
        have hnil : ch' = [] := List.eq_nil_of_length_eq_zero (by omega)
        have hsq := hch4
        have hvq : Value.slice pc' ch'.length cc' = Value.slice pc' ch'.length cc' := rfl
        have hclq := hcl4
        have hchq : ch'.drop 1 = ch' := by rw [hnil]; rfl
        have hcb : ch'.headD 0 = (0 : UInt8) := by rw [hnil]; rfl
        refine wpE_draw mixed (.pure 0 (.pure 1 (.pure 2 (.read 3 (.pure 4 (.pure 5 (.pure 6 (.pure 7 (.read 8 (.pure 9 (.pure 10 (.read 11 (.pure 12 (.pure 13 (.pure 14 (.read 15 (.pure 16 (.read 17 (.pure 18 (.eff 19 [3] (.pure 20 (.eff 21 [] .nil)))))))))))))))))))))) (by kernel_rfl) ?_
        refine wpP_pure rfl rfl rfl (fun _ => x_move) ?_
        refine wpP_pure rfl rfl rfl (fun _ => (x_nil rfl)) ?_
        refine wpP_pure rfl rfl rfl (fun _ => (x_fieldAddr Tryz.underlying89 rfl I86 rfl rfl)) ?_
        refine wpP_rd rfl rfl rfl Tryz.underlying86 rfl rfl (hB4.c (off := 2) rfl) ?_
        refine wpP_pure rfl rfl rfl (fun _ => x_move) ?_
        refine wpP_pure rfl rfl rfl (fun _ => x_move) ?_
        refine wpP_pure rfl rfl rfl (fun _ => (x_nil rfl)) ?_
        refine wpP_pure rfl rfl rfl (fun _ => (x_fieldAddr Tryz.underlying89 rfl I86 rfl rfl)) ?_
        refine wpP_rd rfl rfl rfl Tryz.underlying86 rfl rfl (hB4.c (off := 2) rfl) ?_
        refine wpP_pure rfl rfl rfl (fun _ => x_move) ?_
        refine wpP_ex rfl rfl rfl (x_idx (key.toNat) Tryz.underlying86 I116 rfl (hk4.sl) rfl rfl (by first | rfl | omega) (by omega)) ?_
        rintro _ ⟨bk, ok, rfl, hek, hbk⟩
        refine wpP_rdAt 64 rfl rfl rfl Tryz.underlying116 rfl I116 rfl (hk4.sl.at hek (getD_some (d := sec0) (by omega))) ((k.getD key.toNat sec0).2) rfl ?_
        refine wpP_pure rfl rfl rfl (fun _ => x_move) ?_
        refine wpP_pure rfl rfl rfl (fun _ => (x_nil rfl)) ?_
        refine wpP_pure rfl rfl rfl (fun _ => (x_fieldAddr Tryz.underlying89 rfl I87 rfl rfl)) ?_
        refine wpP_rd rfl rfl rfl Tryz.underlying87 rfl rfl (hB4.c (off := 3) rfl) ?_
        refine wpP_pure rfl rfl rfl (fun _ => x_move) ?_
        refine wpP_read rfl rfl rfl (fun w' => MapAt w' r (vPend ds.pend)) (hm4) (fun w1 h1 => x_to (x_lookup (k := key) Tryz.underlying87 (keyOk_int Tryz.underlying3) I116 rfl rfl rfl h1) (lookP1 key ds.pend)) ?_
        refine wpP_pure rfl rfl rfl (fun _ => x_move) ?_
        refine wpP_call rfl rfl rfl C85 (torn_ok (k.getD key.toNat sec0) ((mget key ds.pend).getD sec0) (0 : UInt8) _) ?_
        rintro _ w6 ⟨rfl, hc6⟩
        have hc6 : Chg [] w4 w6 := hc6
        refine ⟨⟨(hB4.chg0 hc6).c (off := 2) rfl, trivial⟩, ?_⟩
        refine wpP_ex rfl rfl rfl (x_idx (key.toNat) Tryz.underlying86 I116 rfl ((hk4.mod0 hc6).sl) rfl rfl (by first | rfl | omega) (by omega)) ?_
        rintro _ ⟨bn, on, rfl, hen, hbn⟩
        refine wpP_exs rfl rfl rfl (x_storeO (a := tornS (k.getD key.toNat sec0) ((mget key ds.pend).getD sec0) (0 : UInt8)) I116 rfl (hk4.mod0 hc6) rfl (hen) rfl rfl (by omega)) ?_
        rintro w7 ⟨hk7, hc7, hs7⟩
        refine ⟨trivial, ?_⟩
        refine wpP_nil (blockE_norm (thenE_norm ?_))
        refine wpE_region ?_
        refine wpL_value rfl (x_add64 rfl rfl (by omega)) (wpL_value rfl x_move ?_)
        refine wpL_nil (thenE_norm ?_)
        have hc67 : Chg (blkOf kv) w4 w7 := (hc6.mono (fun x hx _ => by simp at hx)).tr hc7
        refine Exists.intro (n) (And.intro (by omega) ?_)
        refine ⟨i + 1, _, _, _, _, vs_cons hvq (vs_cons (int_eq rfl) vs_nil), by omega, hsq.imp id (fun h => ⟨h.1.mod hc67 (fun x hx hh => h.2 x hx (by simp [DF, hh])), h.2⟩), hclq, (List.length_set).trans hkl, ⟨hB4.chg hc67 h2, hk7, hm4.mod hc67 h3, h1, h2, h3⟩, ?_, hc4.tr hc67⟩
        rw [hcr, hki, crashL, hchq, hcb]
    · skip
      refine wpE_exit (thenE_exit (thenE_exit (blockE_exit (thenE_norm ?_))))
      refine wpE_region ?_
      refine wpL_value rfl x_move (wpL_value rfl (x_nil rfl) (wpL_value rfl (x_fieldAddr Tryz.underlying89 rfl I87 rfl rfl) ?_))
      have hob6 : n = 0 := by omega
      obtain rfl := hob6
      rw [List.drop_of_length_le (by omega), crashL] at hcr
      obtain ⟨hB4, hk4, hm4, _⟩ := id hd4
      refine wpL_value rfl (x_load Tryz.underlying87 rfl rfl (hB4.c (off := 3) rfl)) ?_
      refine wpL_exv rfl (x_clear_map (κ := Int) Tryz.underlying87 rfl hm4) ?_
      rintro w5 ⟨hm5, hc5, hs5⟩
      refine wpL_nil (fin_end ?_)
      have hcd : ds.crash ch = ⟨ds.steps, 0, k, []⟩ := by unfold DSt.crash; rw [hks, hcr]
      rw [hcd]
      refine ⟨⟨hB4.nb hc5 h1, hk4.mod hc5 (nb1 h3), hm5, h1, h2, h3⟩, ?_⟩
      have k1 : Chg (DF b kv r) w w3 := DF_sub hc03
      exact (k1.tr (hc4.mono (fun x hx _ => by simp [DF, hx]))).tr (hc5.mono (fun x hx _ => by simp at hx; subst hx; simp [DF]))
end Go.Proofs.YtenhmbhflgnhlaaGreat

