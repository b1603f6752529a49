/- What is scanned in parts is what is scanned in one; as many as were asked for. It holds for every input; there are no conditions. -/
import Derived.Test.YtpbfapbajmdlkaaGreatRows
import Derived.Test.YtpbfapbajmdlkaaGreatQ4
import Derived.Test.YtpbfapbajmdlkaaGreatSac2
namespace Go.Proofs.YtpbfapbajmdlkaaGreat
open Go Go.Sac Go.ChangeShapes Go.WideShapes Go.ChangeAt Go.RowKit
theorem qU : ownKnob Tryz.prog.godebug = none := by kernel_rfl
theorem kE : laidOutB Tryz.prog = true := by kernel_rfl
set_option maxRecDepth 100000 in
theorem nF (os : Os) (started : os.Started) (H : Type) (enc : TypeId × Value → H) :
  ReturnsInHanded {} Tryz.checked os 5 .any (Rows.treeScansSpec.pre6 enc Tryz.prog Tryz.f5 Rows.treeScansRow.domain false) (Rows.treeScansSpec.post enc Tryz.prog Tryz.f5 false true false false) := by
 refine returnsInHanded_of_change (C := Tryz.checked) qU started (by kernel_rfl) Tryz.func5
  (ChangeSpec.witness6 (enc := enc) (C := Tryz.checked) false ⟨#[], #[.slice none 0 0, .int .u16 0, .int .u8 0], []⟩ 8 (by kernel_rfl) (by kernel_rfl) (by kernel_rfl) (by kernel_rfl)) ?_
 intro W base args ds gs before hval0 hW hcnd _
 have hval : ∀ (j : Nat) t v, Tryz.f5.params[j]? = some t → args[j]? = some v → Value.okWide Tryz.prog W .any base t v := hval0
 have hW' : DataW.Whole enc Tryz.prog Tryz.f5.params.toList Rows.treeScansSpec.vars false W args.toList ds gs before := hW
 obtain ⟨p, q, hA0, hV, rfl, hfz, hnd⟩ := id hW'
 have hA : DataW.TrodAll enc Tryz.prog W 0 (fun _ => true) true Tryz.f5.params.toList args.toList ds p := hA0
 rw [Tryz.params5] at hA hval
 obtain ⟨v0, l0, d0, e0, p0, q0, ha0, hd0, _, h0, hA0⟩ := trodAll_cons hA
 obtain ⟨v1, l1, d1, e1, p1, q1, ha1, hd1, _, h1, hA1⟩ := trodAll_cons hA0
 obtain ⟨v2, l2, d2, e2, p2, q2, ha2, hd2, _, h2, hA2⟩ := trodAll_cons hA1
 obtain ⟨hl, he, _⟩ := trodAll_nil hA2
 subst hl he
 subst ha2 hd2
 subst ha1 hd1
 subst hd0
 have hargs := arr_of ha0
 subst hargs
 obtain ⟨rfl, rfl⟩ := trodVars_none hV
 obtain ⟨x0, hx0, hok0⟩ := open_sl (rd_u16 A2) uU22 (by kernel_rfl) (hval 0 _ v0 rfl rfl) h0
 obtain ⟨x1, hx1⟩ := AH A2 (hval 1 _ v1 rfl rfl) h1
 subst hx1
 obtain ⟨x2, hx2⟩ := open_u8 uU5 (hval 2 _ v2 rfl rfl) h2
 subst hx2
 exact yR kE (by kernel_rfl) rfl uU4 rfl rfl hW' (tu W v0 x0 hx0 x1 x2)
theorem eh {a b : Bool} (h : a = true) (k : b = true) : (a && b) = true := by rw [h, k]; rfl
theorem tw : mapsRowed Tryz.prog = true := by kernel_rfl
theorem re : (Rows.treeScansRow.inPlace == Tryz.prog.inPlace 5) = true := by kernel_rfl
theorem r9 : (Rows.treeScansRow.unfollowed == Tryz.prog.unfollowed 5) = true := by kernel_rfl
theorem r8 : (Rows.treeScansRow.recurses == Tryz.prog.recurses 5) = true := by kernel_rfl
theorem qZ : (Rows.treeScansRow.named == Tryz.prog.varsNamed 5) = true := by kernel_rfl
theorem qY : (Rows.treeScansRow.plainKeys == Tryz.prog.plainKeys) = true := by kernel_rfl
theorem qV : (Rows.treeScansRow.lifted == Tryz.prog.liftsFinal) = true := by kernel_rfl
theorem qX : Tryz.prog.stopsHeard = true := by kernel_rfl
theorem qW : Tryz.prog.mayEnter = true := by kernel_rfl
theorem ox : Tryz.prog.funcNamed Rows.treeScansRow.func = some 5 := by kernel_rfl
theorem qu : Tryz.f5.isInstance Tryz.prog Rows.treeScansRow.origin Rows.treeScansRow.targs := of_decide_eq_true (by kernel_rfl)
theorem qt : Tryz.f5.isWrapper Tryz.prog Rows.treeScansRow.wrapper Rows.treeScansRow.mainSum := by unfold Func.isWrapper; first | (rw [if_pos (by decide +kernel)]; kernel_rfl) | (rw [if_neg (by decide +kernel)]; exact ⟨rfl, rfl⟩)
theorem nG : joinedFacts Tryz.prog 5 Tryz.f5 Rows.treeScansSpec Rows.treeScansRow = true := by
 unfold joinedFacts
 exact eh (eh (eh (eh (eh (eh (eh (eh (eh (eh (eh (eh (eh (eh (eh (eh (eh (eh (eh (eh (eh (eh (eh (eh (eh (eh (eh (eh (eh (eh (eh (by kernel_rfl) kE) tw) (by kernel_rfl)) (by kernel_rfl)) (by kernel_rfl)) (by kernel_rfl)) (by kernel_rfl)) (by kernel_rfl)) re) r9) r8) qZ) (by kernel_rfl)) (by kernel_rfl)) (by kernel_rfl)) (by kernel_rfl)) (by kernel_rfl)) (by kernel_rfl)) (by kernel_rfl)) (by kernel_rfl)) (by kernel_rfl)) qY) (by kernel_rfl)) qX) qW) qV) (by kernel_rfl)) (by kernel_rfl)) (by kernel_rfl)) (by kernel_rfl)) (by kernel_rfl)
theorem TreeScans_holds : Rows.TreeScansSaid :=
 OpenClaim.holds_of_wide 5 Tryz.f5 rfl rfl rfl rfl rfl rfl rfl ⟨rfl, rfl, rfl, rfl, rfl⟩ rfl rfl rfl rfl rfl ox Tryz.func5 nG qu qt
  (fun os started H enc _ => nF os started H enc)
end Go.Proofs.YtpbfapbajmdlkaaGreat

