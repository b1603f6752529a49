/- The law SlotsErased of the slots returns true for every input, and leaves its inputs as they were; no condition. -/
import Derived.Test.YtenhmbhflgnhlaaRows
import Derived.Test.YtenhmbhflgnhlaaQLawErased
import Derived.Test.YtenhmbhflgnhlaaSac1
namespace Go.Proofs.Ytenhmbhflgnhlaa
open Go Go.Sac Go.ChangeShapes Go.WideShapes Go.ChangeAt Go.RowKit
theorem SlotsErased_own : ownKnob Try.prog.godebug = none := by kernel_rfl
theorem SlotsErased_laid : laidOutB Try.prog = true := by kernel_rfl
set_option maxRecDepth 100000 in
theorem SlotsErased_lifted (os : Os) (started : os.Started) (H : Type) (enc : TypeId × Value → H) :
    ReturnsInHanded {} Try.checked os 6 .any (Rows.slotsErasedSpec.pre6 enc Try.prog Try.f6 Rows.slotsErasedRow.domain false) (Rows.slotsErasedSpec.post enc Try.prog Try.f6 false true false false) := by
  refine returnsInHanded_of_change (C := Try.checked) SlotsErased_own started (by kernel_rfl) Try.func6
    (ChangeSpec.witness6 (enc := enc) (C := Try.checked) false ⟨#[], #[.int .u8 0, .agg (Array.replicate 32 (.int .u8 0)), .agg (Array.replicate 32 (.int .u8 0)), .agg (Array.replicate 32 (.int .u8 0)), .agg (Array.replicate 32 (.int .u8 0)), .agg (Array.replicate 32 (.int .u8 0)), .bool false, .slice none 0 0], []⟩ 8 (by kernel_rfl) (by kernel_rfl) (by kernel_rfl) (by kernel_rfl)) ?_
  intro W base args ds gs before hval0 hW hcnd _
  have hval : ∀ (j : Nat) t v, Try.f6.params[j]? = some t → args[j]? = some v → Value.okWide Try.prog W .any base t v := hval0
  have hW' : DataW.Whole enc Try.prog Try.f6.params.toList Rows.slotsErasedSpec.vars false W args.toList ds gs before := hW
  obtain ⟨p, q, hA0, hV, rfl, hfz, hnd⟩ := id hW'
  have hA : DataW.TrodAll enc Try.prog W 0 (fun _ => true) true Try.f6.params.toList args.toList ds p := hA0
  rw [Try.params6] at hA hval
  obtain ⟨v0, l0, d0, e0, p0, q0, ha0, hd0, _, h0, hA0⟩ := trodAll_cons hA
  obtain ⟨v1, l1, d1, e1, p1, q1, ha1, hd1, _, h1, hA1⟩ := trodAll_cons hA0
  obtain ⟨v2, l2, d2, e2, p2, q2, ha2, hd2, _, h2, hA2⟩ := trodAll_cons hA1
  obtain ⟨v3, l3, d3, e3, p3, q3, ha3, hd3, _, h3, hA3⟩ := trodAll_cons hA2
  obtain ⟨v4, l4, d4, e4, p4, q4, ha4, hd4, _, h4, hA4⟩ := trodAll_cons hA3
  obtain ⟨v5, l5, d5, e5, p5, q5, ha5, hd5, _, h5, hA5⟩ := trodAll_cons hA4
  obtain ⟨v6, l6, d6, e6, p6, q6, ha6, hd6, _, h6, hA6⟩ := trodAll_cons hA5
  obtain ⟨v7, l7, d7, e7, p7, q7, ha7, hd7, _, h7, hA7⟩ := trodAll_cons hA6
  obtain ⟨hl, he, _⟩ := trodAll_nil hA7
  subst hl he
  subst ha7 hd7
  subst ha6 hd6
  subst ha5 hd5
  subst ha4 hd4
  subst ha3 hd3
  subst ha2 hd2
  subst ha1 hd1
  subst hd0
  have hargs := arr_of ha0
  subst hargs
  obtain ⟨rfl, rfl⟩ := trodVars_none hV
  obtain ⟨x0, hx0⟩ := open_u8 Try.underlying5 (hval 0 _ v0 rfl rfl) h0
  subst hx0
  obtain ⟨x1, hx1, hok1⟩ := open_arr (n := 32) (rd_u8 Try.underlying5) Try.underlying33 (by kernel_rfl) (by kernel_rfl) (hval 1 _ v1 rfl rfl) h1
  subst hx1
  obtain ⟨x2, hx2, hok2⟩ := open_arr (n := 32) (rd_u8 Try.underlying5) Try.underlying33 (by kernel_rfl) (by kernel_rfl) (hval 2 _ v2 rfl rfl) h2
  subst hx2
  obtain ⟨x3, hx3, hok3⟩ := open_arr (n := 32) (rd_u8 Try.underlying5) Try.underlying33 (by kernel_rfl) (by kernel_rfl) (hval 3 _ v3 rfl rfl) h3
  subst hx3
  obtain ⟨x4, hx4, hok4⟩ := open_arr (n := 32) (rd_u8 Try.underlying5) Try.underlying33 (by kernel_rfl) (by kernel_rfl) (hval 4 _ v4 rfl rfl) h4
  subst hx4
  obtain ⟨x5, hx5, hok5⟩ := open_arr (n := 32) (rd_u8 Try.underlying5) Try.underlying33 (by kernel_rfl) (by kernel_rfl) (hval 5 _ v5 rfl rfl) h5
  subst hx5
  obtain ⟨x6, hx6⟩ := open_b Try.underlying4 (hval 6 _ v6 rfl rfl)
  subst hx6
  obtain ⟨x7, hx7, hok7⟩ := open_sl (rd_u8 Try.underlying5) Try.underlying22 (by kernel_rfl) (hval 7 _ v7 rfl rfl) h7
  exact law_calls SlotsErased_laid (by kernel_rfl) rfl Try.underlying4 rfl rfl hW' (SlotsErased_ok W x0 _ _ _ _ _ x6 _ _ hx7 hok1 hok2 hok3 hok4 hok5)
theorem SlotsErased_holds : Rows.SlotsErasedSaid :=
  OpenClaim.holds_of_wide 6 Try.f6 rfl rfl rfl rfl rfl rfl rfl ⟨rfl, rfl, rfl, rfl, rfl⟩ rfl rfl rfl rfl rfl (by kernel_rfl) Try.func6 (by kernel_rfl)
    (of_decide_eq_true (by kernel_rfl)) (by unfold Func.isWrapper; first | (rw [if_pos (by decide +kernel)]; kernel_rfl) | (rw [if_neg (by decide +kernel)]; exact ⟨rfl, rfl⟩))
    (fun os started H enc _ => SlotsErased_lifted os started H enc)
end Go.Proofs.Ytenhmbhflgnhlaa
