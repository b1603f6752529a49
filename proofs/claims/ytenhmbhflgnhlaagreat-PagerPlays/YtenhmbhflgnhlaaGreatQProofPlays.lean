/- every row of calls, crashes, the power going within a commit: what each tells -/
import Derived.Test.YtenhmbhflgnhlaaGreatRows
import Derived.Test.YtenhmbhflgnhlaaGreatQLawPlays
import Derived.Test.YtenhmbhflgnhlaaGreatSac2
namespace Go.Proofs.YtenhmbhflgnhlaaGreat
open Go Go.Sac Go.ChangeShapes Go.WideShapes Go.ChangeAt Go.RowKit
theorem PagerPlays_own : ownKnob Tryz.prog.godebug = none := by kernel_rfl
theorem PagerPlays_laid : laidOutB Tryz.prog = true := by kernel_rfl
set_option maxRecDepth 100000 in
theorem PagerPlays_lifted (os : Os) (started : os.Started) (H : Type) (enc : TypeId × Value → H) :
    ReturnsInHanded {} Tryz.checked os 9 .any (Rows.pagerPlaysSpec.pre6 enc Tryz.prog Tryz.f9 Rows.pagerPlaysRow.domain false) (Rows.pagerPlaysSpec.post enc Tryz.prog Tryz.f9 false true false false) := by
  refine returnsInHanded_of_change (C := Tryz.checked) PagerPlays_own started (by kernel_rfl) Tryz.func9
    (ChangeSpec.witness6 (enc := enc) (C := Tryz.checked) false ⟨#[], #[.int .u8 0, .slice none 0 0], []⟩ 8 (by kernel_rfl) (by kernel_rfl) (by kernel_rfl) (by kernel_rfl)) ?_
  intro W base args ds gs before hval0 hW hcnd _
  have hval : ∀ (j : Nat) t v, Tryz.f9.params[j]? = some t → args[j]? = some v → Value.okWide Tryz.prog W .any base t v := hval0
  have hW' : DataW.Whole enc Tryz.prog Tryz.f9.params.toList Rows.pagerPlaysSpec.vars false W args.toList ds gs before := hW
  obtain ⟨p, q, hA0, hV, rfl, hfz, hnd⟩ := id hW'
  have hA : DataW.TrodAll enc Tryz.prog W 0 (fun _ => true) true Tryz.f9.params.toList args.toList ds p := hA0
  rw [Tryz.params9] at hA hval
  obtain ⟨v0, l0, d0, e0, p0, q0, ha0, hd0, _, h0, hA0⟩ := trodAll_cons hA
  obtain ⟨v1, l1, d1, e1, p1, q1, ha1, hd1, _, h1, hA1⟩ := trodAll_cons hA0
  obtain ⟨hl, he, _⟩ := trodAll_nil hA1
  subst hl he
  subst ha1 hd1
  subst hd0
  have hargs := arr_of ha0
  subst hargs
  obtain ⟨rfl, rfl⟩ := trodVars_none hV
  obtain ⟨x0, hx0⟩ := open_u8 Tryz.underlying5 (hval 0 _ v0 rfl rfl) h0
  subst hx0
  obtain ⟨x1, hx1, hok1⟩ := open_sl (rd_step7 Tryz.underlying75 (by kernel_rfl) rfl rfl rfl rfl rfl rfl rfl rfl rfl rfl rfl rfl (by kernel_rfl) (by kernel_rfl) (by kernel_rfl) (by kernel_rfl) (by kernel_rfl) Tryz.underlying3 Tryz.underlying5 Tryz.underlying34 Tryz.underlying9 Tryz.underlying41) Tryz.underlying71 (by kernel_rfl) (hval 1 _ v1 rfl rfl) h1
  exact law_calls PagerPlays_laid (by kernel_rfl) rfl Tryz.underlying4 rfl rfl hW' (PagerPlays_ok W _ _ _ hx1 hok1)
theorem PagerPlays_holds : Rows.PagerPlaysSaid :=
  OpenClaim.holds_of_wide 9 Tryz.f9 rfl rfl rfl rfl rfl rfl rfl ⟨rfl, rfl, rfl, rfl, rfl⟩ rfl rfl rfl rfl rfl (by kernel_rfl) Tryz.func9 (by kernel_rfl)
    (of_decide_eq_true (by kernel_rfl)) (by unfold Func.isWrapper; first | (rw [if_pos (by decide +kernel)]; kernel_rfl) | (rw [if_neg (by decide +kernel)]; exact ⟨rfl, rfl⟩))
    (fun os started H enc _ => PagerPlays_lifted os started H enc)
end Go.Proofs.YtenhmbhflgnhlaaGreat

