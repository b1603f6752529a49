/- The law SlotsApart of the slots returns true for every input, and leaves its input as it was; no condition. -/
import Derived.Test.YtenhmbhflgnhlaaRows
import Derived.Test.YtenhmbhflgnhlaaQLawApart
import Derived.Test.YtenhmbhflgnhlaaSac1
namespace Go.Proofs.Ytenhmbhflgnhlaa
open Go Go.Sac Go.ChangeShapes Go.WideShapes Go.ChangeAt Go.RowKit
theorem own : ownKnob Try.prog.godebug = none := by kernel_rfl
theorem laidOut : laidOutB Try.prog = true := by kernel_rfl
set_option maxRecDepth 100000 in
theorem SlotsApart_lifted (os : Os) (started : os.Started) (H : Type) (enc : TypeId × Value → H) :
    ReturnsInHanded {} Try.checked os 3 .any (Rows.slotsApartSpec.pre6 enc Try.prog Try.f3 Rows.slotsApartRow.domain false) (Rows.slotsApartSpec.post enc Try.prog Try.f3 false true false false) := by
  refine returnsInHanded_of_change (C := Try.checked) own started (by kernel_rfl) Try.func3
    (ChangeSpec.witness6 (enc := enc) (C := Try.checked) false ⟨#[], #[.slice none 0 0], []⟩ 8 (by kernel_rfl) (by kernel_rfl) (by kernel_rfl) (by kernel_rfl)) ?_
  intro W base args ds gs before hval0 hW hcnd _
  have hval : ∀ (j : Nat) t v, Try.f3.params[j]? = some t → args[j]? = some v → Value.okWide Try.prog W .any base t v := hval0
  have hW' : DataW.Whole enc Try.prog Try.f3.params.toList Rows.slotsApartSpec.vars false W args.toList ds gs before := hW
  obtain ⟨p, q, hA0, hV, rfl, hfz, hnd⟩ := id hW'
  have hA : DataW.TrodAll enc Try.prog W 0 (fun _ => true) true Try.f3.params.toList args.toList ds p := hA0
  rw [Try.params3] at hA hval
  obtain ⟨v0, d0, rfl, rfl, h0⟩ := trodAll_one hA
  obtain ⟨rfl, rfl⟩ := trodVars_none hV
  obtain ⟨l, hl, _⟩ := open_sl (rd_u8 Try.underlying5) Try.underlying22 (by kernel_rfl) (hval 0 _ v0 rfl rfl) h0
  exact law_calls laidOut (by kernel_rfl) rfl Try.underlying4 rfl rfl hW' (SlotsApart_ok W v0 l hl)
theorem SlotsApart_holds : Rows.SlotsApartSaid :=
  OpenClaim.holds_of_wide 3 Try.f3 rfl rfl rfl rfl rfl rfl rfl ⟨rfl, rfl, rfl, rfl, rfl⟩ rfl rfl rfl rfl rfl (by kernel_rfl) Try.func3 (by kernel_rfl)
    (of_decide_eq_true (by kernel_rfl)) (by unfold Func.isWrapper; first | (rw [if_pos (by decide +kernel)]; kernel_rfl) | (rw [if_neg (by decide +kernel)]; exact ⟨rfl, rfl⟩))
    (fun os started H enc _ => SlotsApart_lifted os started H enc)
end Go.Proofs.Ytenhmbhflgnhlaa
