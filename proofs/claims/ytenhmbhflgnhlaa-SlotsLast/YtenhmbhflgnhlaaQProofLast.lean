/- The law SlotsLast of the slots returns true for every input, and leaves its inputs as they were; no condition. -/
import Derived.Test.YtenhmbhflgnhlaaRows
import Derived.Test.YtenhmbhflgnhlaaQLawLast
import Derived.Test.YtenhmbhflgnhlaaSac1
namespace Go.Proofs.Ytenhmbhflgnhlaa
open Go Go.Sac Go.ChangeShapes Go.WideShapes Go.ChangeAt Go.RowKit
theorem SlotsLast_own : ownKnob Try.prog.godebug = none := by kernel_rfl
theorem SlotsLast_laid : laidOutB Try.prog = true := by kernel_rfl
set_option maxRecDepth 100000 in
theorem SlotsLast_lifted (os : Os) (started : os.Started) (H : Type) (enc : TypeId × Value → H) :
    ReturnsInHanded {} Try.checked os 5 .any (Rows.slotsLastSpec.pre6 enc Try.prog Try.f5 Rows.slotsLastRow.domain false) (Rows.slotsLastSpec.post enc Try.prog Try.f5 false true false false) := by
  refine returnsInHanded_of_change (C := Try.checked) SlotsLast_own started (by kernel_rfl) Try.func5
    (ChangeSpec.witness6 (enc := enc) (C := Try.checked) false ⟨#[], #[.int .u8 0, .slice none 0 0, .slice none 0 0], []⟩ 8 (by kernel_rfl) (by kernel_rfl) (by kernel_rfl) (by kernel_rfl)) ?_
  intro W base args ds gs before hval0 hW hcnd _
  have hval : ∀ (j : Nat) t v, Try.f5.params[j]? = some t → args[j]? = some v → Value.okWide Try.prog W .any base t v := hval0
  have hW' : DataW.Whole enc Try.prog Try.f5.params.toList Rows.slotsLastSpec.vars false W args.toList ds gs before := hW
  obtain ⟨p, q, hA0, hV, rfl, hfz, hnd⟩ := id hW'
  have hA : DataW.TrodAll enc Try.prog W 0 (fun _ => true) true Try.f5.params.toList args.toList ds p := hA0
  rw [Try.params5] at hA hval
  obtain ⟨v0, l0, d0, e0, p0, q0, ha0, hd0, _, h0, hA0⟩ := trodAll_cons hA
  obtain ⟨v1, l1, d1, e1, p1, q1, ha1, hd1, _, h1, hA1⟩ := trodAll_cons hA0
  obtain ⟨v2, l2, d2, e2, p2, q2, ha2, hd2, _, h2, hA2⟩ := trodAll_cons hA1
  obtain ⟨hl, he, _⟩ := trodAll_nil hA2
  subst hl he
  subst ha2 hd2
  subst ha1 hd1
  subst hd0
  have hargs := arr_of ha0
  subst hargs
  obtain ⟨rfl, rfl⟩ := trodVars_none hV
  obtain ⟨x0, hx0⟩ := open_u8 Try.underlying5 (hval 0 _ v0 rfl rfl) h0
  subst hx0
  obtain ⟨x1, hx1, hok1⟩ := open_sl (rd_u8 Try.underlying5) Try.underlying22 (by kernel_rfl) (hval 1 _ v1 rfl rfl) h1
  obtain ⟨x2, hx2, hok2⟩ := open_sl (rd_u8 Try.underlying5) Try.underlying22 (by kernel_rfl) (hval 2 _ v2 rfl rfl) h2
  exact law_calls SlotsLast_laid (by kernel_rfl) rfl Try.underlying4 rfl rfl hW' (SlotsLast_ok W x0 _ _ _ _ hx1 hx2)
theorem SlotsLast_holds : Rows.SlotsLastSaid :=
  OpenClaim.holds_of_wide 5 Try.f5 rfl rfl rfl rfl rfl rfl rfl ⟨rfl, rfl, rfl, rfl, rfl⟩ rfl rfl rfl rfl rfl (by kernel_rfl) Try.func5 (by kernel_rfl)
    (of_decide_eq_true (by kernel_rfl)) (by unfold Func.isWrapper; first | (rw [if_pos (by decide +kernel)]; kernel_rfl) | (rw [if_neg (by decide +kernel)]; exact ⟨rfl, rfl⟩))
    (fun os started H enc _ => SlotsLast_lifted os started H enc)
end Go.Proofs.Ytenhmbhflgnhlaa
