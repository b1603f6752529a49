/- The law SlotsMade of the slots returns true for every input, and leaves its inputs as they were; no condition. -/
import Derived.Test.YtenhmbhflgnhlaaRows
import Derived.Test.YtenhmbhflgnhlaaQLawMade
import Derived.Test.YtenhmbhflgnhlaaSac1
namespace Go.Proofs.Ytenhmbhflgnhlaa
open Go Go.Sac Go.ChangeShapes Go.WideShapes Go.ChangeAt Go.RowKit
theorem SlotsMade_own : ownKnob Try.prog.godebug = none := by kernel_rfl
theorem SlotsMade_laid : laidOutB Try.prog = true := by kernel_rfl
set_option maxRecDepth 100000 in
theorem SlotsMade_lifted (os : Os) (started : os.Started) (H : Type) (enc : TypeId × Value → H) :
    ReturnsInHanded {} Try.checked os 4 .any (Rows.slotsMadeSpec.pre6 enc Try.prog Try.f4 Rows.slotsMadeRow.domain false) (Rows.slotsMadeSpec.post enc Try.prog Try.f4 false true false false) := by
  refine returnsInHanded_of_change (C := Try.checked) SlotsMade_own started (by kernel_rfl) Try.func4
    (ChangeSpec.witness6 (enc := enc) (C := Try.checked) false ⟨#[], #[.slice none 0 0, .slice none 0 0], []⟩ 8 (by kernel_rfl) (by kernel_rfl) (by kernel_rfl) (by kernel_rfl)) ?_
  intro W base args ds gs before hval0 hW hcnd _
  have hval : ∀ (j : Nat) t v, Try.f4.params[j]? = some t → args[j]? = some v → Value.okWide Try.prog W .any base t v := hval0
  have hW' : DataW.Whole enc Try.prog Try.f4.params.toList Rows.slotsMadeSpec.vars false W args.toList ds gs before := hW
  obtain ⟨p, q, hA0, hV, rfl, hfz, hnd⟩ := id hW'
  have hA : DataW.TrodAll enc Try.prog W 0 (fun _ => true) true Try.f4.params.toList args.toList ds p := hA0
  rw [Try.params4] at hA hval
  obtain ⟨v0, l0, d0, e0, p0, q0, ha0, hd0, _, h0, hA0⟩ := trodAll_cons hA
  obtain ⟨v1, l1, d1, e1, p1, q1, ha1, hd1, _, h1, hA1⟩ := trodAll_cons hA0
  obtain ⟨hl, he, _⟩ := trodAll_nil hA1
  subst hl he
  subst ha1 hd1
  subst hd0
  have hargs := arr_of ha0
  subst hargs
  obtain ⟨rfl, rfl⟩ := trodVars_none hV
  obtain ⟨x0, hx0, hok0⟩ := open_sl (rd_step Try.underlying42 (by kernel_rfl) rfl rfl rfl rfl rfl rfl rfl rfl rfl rfl rfl rfl (by kernel_rfl) (by kernel_rfl) (by kernel_rfl) Try.underlying3 Try.underlying5 Try.underlying22) Try.underlying40 (by kernel_rfl) (hval 0 _ v0 rfl rfl) h0
  obtain ⟨x1, hx1, hok1⟩ := open_sl (rd_u8 Try.underlying5) Try.underlying22 (by kernel_rfl) (hval 1 _ v1 rfl rfl) h1
  exact law_calls SlotsMade_laid (by kernel_rfl) rfl Try.underlying4 rfl rfl hW' (SlotsMade_ok W _ _ _ _ hx0 hx1)
theorem SlotsMade_holds : Rows.SlotsMadeSaid :=
  OpenClaim.holds_of_wide 4 Try.f4 rfl rfl rfl rfl rfl rfl rfl ⟨rfl, rfl, rfl, rfl, rfl⟩ rfl rfl rfl rfl rfl (by kernel_rfl) Try.func4 (by kernel_rfl)
    (of_decide_eq_true (by kernel_rfl)) (by unfold Func.isWrapper; first | (rw [if_pos (by decide +kernel)]; kernel_rfl) | (rw [if_neg (by decide +kernel)]; exact ⟨rfl, rfl⟩))
    (fun os started H enc _ => SlotsMade_lifted os started H enc)
end Go.Proofs.Ytenhmbhflgnhlaa
