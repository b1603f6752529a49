/- A page of which a byte was changed on the disk, or another page's first sector stands in its place, is told as what stands there opens to, or that it isn't sealed so; other pages are as they were: by the document's seals. It holds for every input; there are no conditions. -/
import Derived.Test.YtenhmbhflgnhlaaGreatRows
import Derived.Test.YtenhmbhflgnhlaaGreatQLawTurned
import Derived.Test.YtenhmbhflgnhlaaGreatSac2
namespace Go.Proofs.YtenhmbhflgnhlaaGreat
open Go Go.Sac Go.ChangeShapes Go.WideShapes Go.ChangeAt Go.RowKit
theorem PagerTurned_own : ownKnob Tryz.prog.godebug = none := by kernel_rfl
theorem PagerTurned_laid : laidOutB Tryz.prog = true := by kernel_rfl
set_option maxRecDepth 100000 in
theorem PagerTurned_lifted (os : Os) (started : os.Started) (H : Type) (enc : TypeId × Value → H) :
    ReturnsInHanded {} Tryz.checked os 4 .any (Rows.pagerTurnedSpec.pre6 enc Tryz.prog Tryz.f4 Rows.pagerTurnedRow.domain false) (Rows.pagerTurnedSpec.post enc Tryz.prog Tryz.f4 false true false false) := by
  refine returnsInHanded_of_change (C := Tryz.checked) PagerTurned_own started (by kernel_rfl) Tryz.func4
    (ChangeSpec.witness6 (enc := enc) (C := Tryz.checked) false ⟨#[], #[.slice none 0 0, .int .u16 0, .int .u8 0, .bool false], []⟩ 8 (by kernel_rfl) (by kernel_rfl) (by kernel_rfl) (by kernel_rfl)) ?_
  intro W base args ds gs before hval0 hW hcnd _
  have hval : ∀ (j : Nat) t v, Tryz.f4.params[j]? = some t → args[j]? = some v → Value.okWide Tryz.prog W .any base t v := hval0
  have hW' : DataW.Whole enc Tryz.prog Tryz.f4.params.toList Rows.pagerTurnedSpec.vars false W args.toList ds gs before := hW
  obtain ⟨p, q, hA0, hV, rfl, hfz, hnd⟩ := id hW'
  have hA : DataW.TrodAll enc Tryz.prog W 0 (fun _ => true) true Tryz.f4.params.toList args.toList ds p := hA0
  rw [Tryz.params4] at hA hval
  obtain ⟨v0, l0, d0, e0, p0, q0, ha0, hd0, _, h0, hA0⟩ := trodAll_cons hA
  obtain ⟨v1, l1, d1, e1, p1, q1, ha1, hd1, _, h1, hA1⟩ := trodAll_cons hA0
  obtain ⟨v2, l2, d2, e2, p2, q2, ha2, hd2, _, h2, hA2⟩ := trodAll_cons hA1
  obtain ⟨v3, l3, d3, e3, p3, q3, ha3, hd3, _, h3, hA3⟩ := trodAll_cons hA2
  obtain ⟨hl, he, _⟩ := trodAll_nil hA3
  subst hl he
  subst ha3 hd3
  subst ha2 hd2
  subst ha1 hd1
  subst hd0
  have hargs := arr_of ha0
  subst hargs
  obtain ⟨rfl, rfl⟩ := trodVars_none hV
  obtain ⟨x0, hx0, hok0⟩ := open_sl (rd_u8 Tryz.underlying5) Tryz.underlying41 (by kernel_rfl) (hval 0 _ v0 rfl rfl) h0
  obtain ⟨x1, hx1⟩ := open_u16 Tryz.underlying44 (hval 1 _ v1 rfl rfl) h1
  subst hx1
  obtain ⟨x2, hx2⟩ := open_u8 Tryz.underlying5 (hval 2 _ v2 rfl rfl) h2
  subst hx2
  obtain ⟨x3, hx3⟩ := open_b Tryz.underlying4 (hval 3 _ v3 rfl rfl)
  subst hx3
  exact law_calls PagerTurned_laid (by kernel_rfl) rfl Tryz.underlying4 rfl rfl hW' (PagerTurned_ok W v0 x0 hx0 x1 x2 x3)
theorem PagerTurned_holds : Rows.PagerTurnedSaid :=
  OpenClaim.holds_of_wide 4 Tryz.f4 rfl rfl rfl rfl rfl rfl rfl ⟨rfl, rfl, rfl, rfl, rfl⟩ rfl rfl rfl rfl rfl (by kernel_rfl) Tryz.func4 (by kernel_rfl)
    (of_decide_eq_true (by kernel_rfl)) (by unfold Func.isWrapper; first | (rw [if_pos (by decide +kernel)]; kernel_rfl) | (rw [if_neg (by decide +kernel)]; exact ⟨rfl, rfl⟩))
    (fun os started H enc _ => PagerTurned_lifted os started H enc)
end Go.Proofs.YtenhmbhflgnhlaaGreat
