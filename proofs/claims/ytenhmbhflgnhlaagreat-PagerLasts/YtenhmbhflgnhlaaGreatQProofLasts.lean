/- pages committed tell the same, whatever comes later, until the next commit -/
import Derived.Test.YtenhmbhflgnhlaaGreatRows
import Derived.Test.YtenhmbhflgnhlaaGreatQLawLasts
import Derived.Test.YtenhmbhflgnhlaaGreatSac1
namespace Go.Proofs.YtenhmbhflgnhlaaGreat
open Go Go.Sac Go.ChangeShapes Go.WideShapes Go.ChangeAt Go.RowKit
theorem PagerLasts_own : ownKnob Tryz.prog.godebug = none := by kernel_rfl
theorem PagerLasts_laid : laidOutB Tryz.prog = true := by kernel_rfl
set_option maxRecDepth 100000 in
theorem PagerLasts_lifted (os : Os) (started : os.Started) (H : Type) (enc : TypeId × Value → H) :
    ReturnsInHanded {} Tryz.checked os 8 .any (Rows.pagerLastsSpec.pre6 enc Tryz.prog Tryz.f8 Rows.pagerLastsRow.domain false) (Rows.pagerLastsSpec.post enc Tryz.prog Tryz.f8 false true false false) := by
  refine returnsInHanded_of_change (C := Tryz.checked) PagerLasts_own started (by kernel_rfl) Tryz.func8
    (ChangeSpec.witness6 (enc := enc) (C := Tryz.checked) false ⟨#[], #[.slice none 0 0, .slice none 0 0], []⟩ 8 (by kernel_rfl) (by kernel_rfl) (by kernel_rfl) (by kernel_rfl)) ?_
  intro W base args ds gs before hval0 hW hcnd _
  have hval : ∀ (j : Nat) t v, Tryz.f8.params[j]? = some t → args[j]? = some v → Value.okWide Tryz.prog W .any base t v := hval0
  have hW' : DataW.Whole enc Tryz.prog Tryz.f8.params.toList Rows.pagerLastsSpec.vars false W args.toList ds gs before := hW
  obtain ⟨p, q, hA0, hV, rfl, hfz, hnd⟩ := id hW'
  have hA : DataW.TrodAll enc Tryz.prog W 0 (fun _ => true) true Tryz.f8.params.toList args.toList ds p := hA0
  rw [Tryz.params8] at hA hval
  obtain ⟨v0, l0, d0, e0, p0, q0, ha0, hd0, _, h0, hA0⟩ := trodAll_cons hA
  obtain ⟨v1, l1, d1, e1, p1, q1, ha1, hd1, _, h1, hA1⟩ := trodAll_cons hA0
  obtain ⟨hl, he, _⟩ := trodAll_nil hA1
  subst hl he
  subst ha1 hd1
  subst hd0
  have hargs := arr_of ha0
  subst hargs
  obtain ⟨rfl, rfl⟩ := trodVars_none hV
  obtain ⟨x0, hx0, hok0⟩ := open_sl (rd_step7 Tryz.underlying75 (by kernel_rfl) rfl rfl rfl rfl rfl rfl rfl rfl rfl rfl rfl rfl (by kernel_rfl) (by kernel_rfl) (by kernel_rfl) (by kernel_rfl) (by kernel_rfl) Tryz.underlying3 Tryz.underlying5 Tryz.underlying34 Tryz.underlying9 Tryz.underlying41) Tryz.underlying71 (by kernel_rfl) (hval 0 _ v0 rfl rfl) h0
  obtain ⟨x1, hx1, hok1⟩ := open_sl (rd_u8 Tryz.underlying5) Tryz.underlying41 (by kernel_rfl) (hval 1 _ v1 rfl rfl) h1
  exact law_calls PagerLasts_laid (by kernel_rfl) rfl Tryz.underlying4 rfl rfl hW' (PagerLasts_ok W _ _ _ _ hx0 hok0 hx1)
theorem PagerLasts_holds : Rows.PagerLastsSaid :=
  OpenClaim.holds_of_wide 8 Tryz.f8 rfl rfl rfl rfl rfl rfl rfl ⟨rfl, rfl, rfl, rfl, rfl⟩ rfl rfl rfl rfl rfl (by kernel_rfl) Tryz.func8 (by kernel_rfl)
    (of_decide_eq_true (by kernel_rfl)) (by unfold Func.isWrapper; first | (rw [if_pos (by decide +kernel)]; kernel_rfl) | (rw [if_neg (by decide +kernel)]; exact ⟨rfl, rfl⟩))
    (fun os started H enc _ => PagerLasts_lifted os started H enc)
end Go.Proofs.YtenhmbhflgnhlaaGreat

