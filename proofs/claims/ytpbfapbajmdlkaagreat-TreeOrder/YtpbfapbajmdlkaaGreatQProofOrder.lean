/- The same pairs in whatever order make trees that tell the same; each key is found, none else. It holds for every input; there are no conditions. -/
import Derived.Test.YtpbfapbajmdlkaaGreatRows
import Derived.Test.YtpbfapbajmdlkaaGreatQ4
import Derived.Test.YtpbfapbajmdlkaaGreatSac2
namespace Go.Proofs.YtpbfapbajmdlkaaGreat
open Go Go.Sac Go.ChangeShapes Go.WideShapes Go.ChangeAt Go.RowKit
theorem qS : ownKnob Tryz.prog.godebug = none := by kernel_rfl
theorem kE : laidOutB Tryz.prog = true := by kernel_rfl
set_option maxRecDepth 100000 in
theorem nE (os : Os) (started : os.Started) (H : Type) (enc : TypeId × Value → H) :
  ReturnsInHanded {} Tryz.checked os 3 .any (Rows.treeOrderSpec.pre6 enc Tryz.prog Tryz.f3 Rows.treeOrderRow.domain false) (Rows.treeOrderSpec.post enc Tryz.prog Tryz.f3 false true false false) := by
 refine returnsInHanded_of_change (C := Tryz.checked) qS started (by kernel_rfl) Tryz.func3
  (ChangeSpec.witness6 (enc := enc) (C := Tryz.checked) false ⟨#[], #[.slice none 0 0, .int .u8 0], []⟩ 8 (by kernel_rfl) (by kernel_rfl) (by kernel_rfl) (by kernel_rfl)) ?_
 intro W base args ds gs before hval0 hW hcnd _
 have hval : ∀ (j : Nat) t v, Tryz.f3.params[j]? = some t → args[j]? = some v → Value.okWide Tryz.prog W .any base t v := hval0
 have hW' : DataW.Whole enc Tryz.prog Tryz.f3.params.toList Rows.treeOrderSpec.vars false W args.toList ds gs before := hW
 obtain ⟨p, q, hA0, hV, rfl, hfz, hnd⟩ := id hW'
 have hA : DataW.TrodAll enc Tryz.prog W 0 (fun _ => true) true Tryz.f3.params.toList args.toList ds p := hA0
 rw [Tryz.params3] at hA hval
 obtain ⟨v0, l0, d0, e0, p0, q0, ha0, hd0, _, h0, hA0⟩ := trodAll_cons hA
 obtain ⟨v1, l1, d1, e1, p1, q1, ha1, hd1, _, h1, hA1⟩ := trodAll_cons hA0
 obtain ⟨hl, he, _⟩ := trodAll_nil hA1
 subst hl he
 subst ha1 hd1
 subst hd0
 have hargs := arr_of ha0
 subst hargs
 obtain ⟨rfl, rfl⟩ := trodVars_none hV
 obtain ⟨x0, hx0, hok0⟩ := open_sl (rd_u16 tT) om (by kernel_rfl) (hval 0 _ v0 rfl rfl) h0
 obtain ⟨x1, hx1⟩ := open_u8 uU5 (hval 1 _ v1 rfl rfl) h1
 subst hx1
 exact yL kE (by kernel_rfl) rfl uU4 rfl rfl hW' (tx W v0 x0 hx0 x1)
theorem ec {a b : Bool} (h : a = true) (k : b = true) : (a && b) = true := by rw [h, k]; rfl
theorem tz : mapsRowed Tryz.prog = true := by kernel_rfl
theorem r8 : (Rows.treeOrderRow.inPlace == Tryz.prog.inPlace 3) = true := by kernel_rfl
theorem qZ : (Rows.treeOrderRow.unfollowed == Tryz.prog.unfollowed 3) = true := by kernel_rfl
theorem qY : (Rows.treeOrderRow.recurses == Tryz.prog.recurses 3) = true := by kernel_rfl
theorem qX : (Rows.treeOrderRow.named == Tryz.prog.varsNamed 3) = true := by kernel_rfl
theorem qW : (Rows.treeOrderRow.plainKeys == Tryz.prog.plainKeys) = true := by kernel_rfl
theorem qT : (Rows.treeOrderRow.lifted == Tryz.prog.liftsFinal) = true := by kernel_rfl
theorem qV : Tryz.prog.stopsHeard = true := by kernel_rfl
theorem qU : Tryz.prog.mayEnter = true := by kernel_rfl
theorem oy : Tryz.prog.funcNamed Rows.treeOrderRow.func = some 3 := by kernel_rfl
theorem qq : Tryz.f3.isInstance Tryz.prog Rows.treeOrderRow.origin Rows.treeOrderRow.targs := of_decide_eq_true (by kernel_rfl)
theorem qp : Tryz.f3.isWrapper Tryz.prog Rows.treeOrderRow.wrapper Rows.treeOrderRow.mainSum := by unfold Func.isWrapper; first | (rw [if_pos (by decide +kernel)]; kernel_rfl) | (rw [if_neg (by decide +kernel)]; exact ⟨rfl, rfl⟩)
theorem nF : joinedFacts Tryz.prog 3 Tryz.f3 Rows.treeOrderSpec Rows.treeOrderRow = true := by
 unfold joinedFacts
 exact ec (ec (ec (ec (ec (ec (ec (ec (ec (ec (ec (ec (ec (ec (ec (ec (ec (ec (ec (ec (ec (ec (ec (ec (ec (ec (ec (ec (ec (ec (ec (by kernel_rfl) kE) tz) (by kernel_rfl)) (by kernel_rfl)) (by kernel_rfl)) (by kernel_rfl)) (by kernel_rfl)) (by kernel_rfl)) r8) qZ) qY) qX) (by kernel_rfl)) (by kernel_rfl)) (by kernel_rfl)) (by kernel_rfl)) (by kernel_rfl)) (by kernel_rfl)) (by kernel_rfl)) (by kernel_rfl)) (by kernel_rfl)) qW) (by kernel_rfl)) qV) qU) qT) (by kernel_rfl)) (by kernel_rfl)) (by kernel_rfl)) (by kernel_rfl)) (by kernel_rfl)
theorem TreeOrder_holds : Rows.TreeOrderSaid :=
 OpenClaim.holds_of_wide 3 Tryz.f3 rfl rfl rfl rfl rfl rfl rfl ⟨rfl, rfl, rfl, rfl, rfl⟩ rfl rfl rfl rfl rfl oy Tryz.func3 nF qq qp
  (fun os started H enc _ => nE os started H enc)
end Go.Proofs.YtpbfapbajmdlkaaGreat

