/- A wrapped key stands on the disk as it is said to, is told by its key, and by another one as the document's unwrapping tells. It holds for every input; there are no conditions. -/
import Derived.Test.YtenhmbhflgnhlaaGreatRows
import Derived.Test.YtenhmbhflgnhlaaGreatQLawSStand
import Derived.Test.YtenhmbhflgnhlaaGreatSac1
namespace Go.Proofs.YtenhmbhflgnhlaaGreat
open Go Go.Sac Go.ChangeShapes Go.WideShapes Go.ChangeAt Go.RowKit
theorem SlotsStand_own : ownKnob Tryz.prog.godebug = none := by kernel_rfl
theorem SlotsStand_laid : laidOutB Tryz.prog = true := by kernel_rfl
set_option maxRecDepth 100000 in
theorem SlotsStand_lifted (os : Os) (started : os.Started) (H : Type) (enc : TypeId × Value → H) :
    ReturnsInHanded {} Tryz.checked os 3 .any (Rows.slotsStandSpec.pre6 enc Tryz.prog Tryz.f3 Rows.slotsStandRow.domain false) (Rows.slotsStandSpec.post enc Tryz.prog Tryz.f3 false true false false) := by
  refine returnsInHanded_of_change (C := Tryz.checked) SlotsStand_own started (by kernel_rfl) Tryz.func3
    (ChangeSpec.witness6 (enc := enc) (C := Tryz.checked) false ⟨#[], #[.int .u8 0, .int .u8 0, .agg (Array.replicate 32 (.int .u8 0)), .agg (Array.replicate 32 (.int .u8 0)), .agg (Array.replicate 32 (.int .u8 0))], []⟩ 8 (by kernel_rfl) (by kernel_rfl) (by kernel_rfl) (by kernel_rfl)) ?_
  intro W base args ds gs before hval0 hW hcnd _
  have hval : ∀ (j : Nat) t v, Tryz.f3.params[j]? = some t → args[j]? = some v → Value.okWide Tryz.prog W .any base t v := hval0
  have hW' : DataW.Whole enc Tryz.prog Tryz.f3.params.toList Rows.slotsStandSpec.vars false W args.toList ds gs before := hW
  obtain ⟨p, q, hA0, hV, rfl, hfz, hnd⟩ := id hW'
  have hA : DataW.TrodAll enc Tryz.prog W 0 (fun _ => true) true Tryz.f3.params.toList args.toList ds p := hA0
  rw [Tryz.params3] at hA hval
  obtain ⟨v0, l0, d0, e0, p0, q0, ha0, hd0, _, h0, hA0⟩ := trodAll_cons hA
  obtain ⟨v1, l1, d1, e1, p1, q1, ha1, hd1, _, h1, hA1⟩ := trodAll_cons hA0
  obtain ⟨v2, l2, d2, e2, p2, q2, ha2, hd2, _, h2, hA2⟩ := trodAll_cons hA1
  obtain ⟨v3, l3, d3, e3, p3, q3, ha3, hd3, _, h3, hA3⟩ := trodAll_cons hA2
  obtain ⟨v4, l4, d4, e4, p4, q4, ha4, hd4, _, h4, hA4⟩ := trodAll_cons hA3
  obtain ⟨hl, he, _⟩ := trodAll_nil hA4
  subst hl he
  subst ha4 hd4
  subst ha3 hd3
  subst ha2 hd2
  subst ha1 hd1
  subst hd0
  have hargs := arr_of ha0
  subst hargs
  obtain ⟨rfl, rfl⟩ := trodVars_none hV
  obtain ⟨x0, hx0⟩ := open_u8 Tryz.underlying5 (hval 0 _ v0 rfl rfl) h0
  subst hx0
  obtain ⟨x1, hx1⟩ := open_u8 Tryz.underlying5 (hval 1 _ v1 rfl rfl) h1
  subst hx1
  obtain ⟨x2, hx2, hok2⟩ := open_arr (n := 32) (rd_u8 Tryz.underlying5) Tryz.underlying23 (by kernel_rfl) (by kernel_rfl) (hval 2 _ v2 rfl rfl) h2
  subst hx2
  obtain ⟨x3, hx3, hok3⟩ := open_arr (n := 32) (rd_u8 Tryz.underlying5) Tryz.underlying23 (by kernel_rfl) (by kernel_rfl) (hval 3 _ v3 rfl rfl) h3
  subst hx3
  obtain ⟨x4, hx4, hok4⟩ := open_arr (n := 32) (rd_u8 Tryz.underlying5) Tryz.underlying23 (by kernel_rfl) (by kernel_rfl) (hval 4 _ v4 rfl rfl) h4
  subst hx4
  exact law_calls SlotsStand_laid (by kernel_rfl) rfl Tryz.underlying4 rfl rfl hW' (SlotsStand_ok W x0 x1 x2 x3 x4 hok2 hok3 hok4)
theorem SlotsStand_holds : Rows.SlotsStandSaid :=
  OpenClaim.holds_of_wide 3 Tryz.f3 rfl rfl rfl rfl rfl rfl rfl ⟨rfl, rfl, rfl, rfl, rfl⟩ rfl rfl rfl rfl rfl (by kernel_rfl) Tryz.func3 (by kernel_rfl)
    (of_decide_eq_true (by kernel_rfl)) (by unfold Func.isWrapper; first | (rw [if_pos (by decide +kernel)]; kernel_rfl) | (rw [if_neg (by decide +kernel)]; exact ⟨rfl, rfl⟩))
    (fun os started H enc _ => SlotsStand_lifted os started H enc)
end Go.Proofs.YtenhmbhflgnhlaaGreat
