/- Elder roots, each kept, tell what they told, however much is put and taken away later. It holds for every input; there are no conditions. -/
import Derived.Test.YtpbfapbajmdlkaaGreatRows
import Derived.Test.YtpbfapbajmdlkaaGreatQ4
import Derived.Test.YtpbfapbajmdlkaaGreatSac2
namespace Go.Proofs.YtpbfapbajmdlkaaGreat
open Go Go.Sac Go.ChangeShapes Go.WideShapes Go.ChangeAt Go.RowKit
theorem qS : ownKnob Tryz.prog.godebug = none := by kernel_rfl
theorem kD : laidOutB Tryz.prog = true := by kernel_rfl
set_option maxRecDepth 100000 in
theorem nD (os : Os) (started : os.Started) (H : Type) (enc : TypeId × Value → H) :
  ReturnsInHanded {} Tryz.checked os 4 .any (Rows.treeStaysSpec.pre6 enc Tryz.prog Tryz.f4 Rows.treeStaysRow.domain false) (Rows.treeStaysSpec.post enc Tryz.prog Tryz.f4 false true false false) := by
 refine returnsInHanded_of_change (C := Tryz.checked) qS started (by kernel_rfl) Tryz.func4
  (ChangeSpec.witness6 (enc := enc) (C := Tryz.checked) false ⟨#[], #[.slice none 0 0, .slice none 0 0], []⟩ 8 (by kernel_rfl) (by kernel_rfl) (by kernel_rfl) (by kernel_rfl)) ?_
 intro W base args ds gs before hval0 hW hcnd _
 have hval : ∀ (j : Nat) t v, Tryz.f4.params[j]? = some t → args[j]? = some v → Value.okWide Tryz.prog W .any base t v := hval0
 have hW' : DataW.Whole enc Tryz.prog Tryz.f4.params.toList Rows.treeStaysSpec.vars false W args.toList ds gs before := hW
 obtain ⟨p, q, hA0, hV, rfl, hfz, hnd⟩ := id hW'
 have hA : DataW.TrodAll enc Tryz.prog W 0 (fun _ => true) true Tryz.f4.params.toList args.toList ds p := hA0
 rw [Tryz.params4] at hA hval
 obtain ⟨v0, l0, d0, e0, p0, q0, ha0, hd0, _, h0, hA0⟩ := trodAll_cons hA
 obtain ⟨v1, l1, d1, e1, p1, q1, ha1, hd1, _, h1, hA1⟩ := trodAll_cons hA0
 obtain ⟨hl, he, _⟩ := trodAll_nil hA1
 subst hl he
 subst ha1 hd1
 subst hd0
 have hargs := arr_of ha0
 subst hargs
 obtain ⟨rfl, rfl⟩ := trodVars_none hV
 obtain ⟨x0, hx0, hok0⟩ := xB (rd_u16 uU30) A2 (by kernel_rfl) (hval 0 _ v0 rfl rfl) h0
 obtain ⟨x1, hx1, hok1⟩ := xB (rd_bool uU4) uU40 (by kernel_rfl) (hval 1 _ v1 rfl rfl) h1
 exact yQ kD (by kernel_rfl) rfl uU4 rfl rfl hW' (tw W v0 x0 hx0 v1 x1 hx1)
theorem eg {a b : Bool} (h : a = true) (k : b = true) : (a && b) = true := by rw [h, k]; rfl
theorem tx : mapsRowed Tryz.prog = true := by kernel_rfl
theorem r8 : (Rows.treeStaysRow.inPlace == Tryz.prog.inPlace 4) = true := by kernel_rfl
theorem qZ : (Rows.treeStaysRow.unfollowed == Tryz.prog.unfollowed 4) = true := by kernel_rfl
theorem qY : (Rows.treeStaysRow.recurses == Tryz.prog.recurses 4) = true := by kernel_rfl
theorem qX : (Rows.treeStaysRow.named == Tryz.prog.varsNamed 4) = true := by kernel_rfl
theorem qW : (Rows.treeStaysRow.plainKeys == Tryz.prog.plainKeys) = true := by kernel_rfl
theorem qT : (Rows.treeStaysRow.lifted == Tryz.prog.liftsFinal) = true := by kernel_rfl
theorem qV : Tryz.prog.stopsHeard = true := by kernel_rfl
theorem qU : Tryz.prog.mayEnter = true := by kernel_rfl
theorem ow : Tryz.prog.funcNamed Rows.treeStaysRow.func = some 4 := by kernel_rfl
theorem qq : Tryz.f4.isInstance Tryz.prog Rows.treeStaysRow.origin Rows.treeStaysRow.targs := of_decide_eq_true (by kernel_rfl)
theorem qp : Tryz.f4.isWrapper Tryz.prog Rows.treeStaysRow.wrapper Rows.treeStaysRow.mainSum := by unfold Func.isWrapper; first | (rw [if_pos (by decide +kernel)]; kernel_rfl) | (rw [if_neg (by decide +kernel)]; exact ⟨rfl, rfl⟩)
theorem nE : joinedFacts Tryz.prog 4 Tryz.f4 Rows.treeStaysSpec Rows.treeStaysRow = true := by
 unfold joinedFacts
 exact eg (eg (eg (eg (eg (eg (eg (eg (eg (eg (eg (eg (eg (eg (eg (eg (eg (eg (eg (eg (eg (eg (eg (eg (eg (eg (eg (eg (eg (eg (eg (by kernel_rfl) kD) tx) (by kernel_rfl)) (by kernel_rfl)) (by kernel_rfl)) (by kernel_rfl)) (by kernel_rfl)) (by kernel_rfl)) r8) qZ) qY) qX) (by kernel_rfl)) (by kernel_rfl)) (by kernel_rfl)) (by kernel_rfl)) (by kernel_rfl)) (by kernel_rfl)) (by kernel_rfl)) (by kernel_rfl)) (by kernel_rfl)) qW) (by kernel_rfl)) qV) qU) qT) (by kernel_rfl)) (by kernel_rfl)) (by kernel_rfl)) (by kernel_rfl)) (by kernel_rfl)
theorem TreeStays_holds : Rows.TreeStaysSaid :=
 OpenClaim.holds_of_wide 4 Tryz.f4 rfl rfl rfl rfl rfl rfl rfl ⟨rfl, rfl, rfl, rfl, rfl⟩ rfl rfl rfl rfl rfl ow Tryz.func4 nE qq qp
  (fun os started H enc _ => nD os started H enc)
end Go.Proofs.YtpbfapbajmdlkaaGreat

