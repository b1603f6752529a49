/- Where there is no room a Put is refused, and all is as it was, no page more in use. It holds for every input; there are no conditions. -/
import Derived.Test.YtpbfapbajmdlkaaGreatRows
import Derived.Test.YtpbfapbajmdlkaaGreatQ4
import Derived.Test.YtpbfapbajmdlkaaGreatSac2
namespace Go.Proofs.YtpbfapbajmdlkaaGreat
open Go Go.Sac Go.ChangeShapes Go.WideShapes Go.ChangeAt Go.RowKit
theorem tc : ownKnob Tryz.prog.godebug = none := by kernel_rfl
theorem ld : laidOutB Tryz.prog = true := by kernel_rfl
set_option maxRecDepth 100000 in
theorem oh (os : Os) (started : os.Started) (H : Type) (enc : TypeId × Value → H) :
  ReturnsInHanded {} Tryz.checked os 6 .any (Rows.treeRoomSpec.pre6 enc Tryz.prog Tryz.f6 Rows.treeRoomRow.domain false) (Rows.treeRoomSpec.post enc Tryz.prog Tryz.f6 false true false false) := by
 refine returnsInHanded_of_change (C := Tryz.checked) tc started (by kernel_rfl) Tryz.func6
  (ChangeSpec.witness6 (enc := enc) (C := Tryz.checked) false ⟨#[], #[.int .u8 0, .int .u8 0, .int .u8 0], []⟩ 8 (by kernel_rfl) (by kernel_rfl) (by kernel_rfl) (by kernel_rfl)) ?_
 intro W base args ds gs before hval0 hW hcnd _
 have hval : ∀ (j : Nat) t v, Tryz.f6.params[j]? = some t → args[j]? = some v → Value.okWide Tryz.prog W .any base t v := hval0
 have hW' : DataW.Whole enc Tryz.prog Tryz.f6.params.toList Rows.treeRoomSpec.vars false W args.toList ds gs before := hW
 obtain ⟨p, q, hA0, hV, rfl, hfz, hnd⟩ := id hW'
 have hA : DataW.TrodAll enc Tryz.prog W 0 (fun _ => true) true Tryz.f6.params.toList args.toList ds p := hA0
 rw [Tryz.params6] at hA hval
 obtain ⟨v0, l0, d0, e0, p0, q0, ha0, hd0, _, h0, hA0⟩ := trodAll_cons hA
 obtain ⟨v1, l1, d1, e1, p1, q1, ha1, hd1, _, h1, hA1⟩ := trodAll_cons hA0
 obtain ⟨v2, l2, d2, e2, p2, q2, ha2, hd2, _, h2, hA2⟩ := trodAll_cons hA1
 obtain ⟨hl, he, _⟩ := trodAll_nil hA2
 subst hl he
 subst ha2 hd2
 subst ha1 hd1
 subst hd0
 have hargs := arr_of ha0
 subst hargs
 obtain ⟨rfl, rfl⟩ := trodVars_none hV
 obtain ⟨x0, hx0⟩ := sM uU5 (hval 0 _ v0 rfl rfl) h0
 subst hx0
 obtain ⟨x1, hx1⟩ := sM uU5 (hval 1 _ v1 rfl rfl) h1
 subst hx1
 obtain ⟨x2, hx2⟩ := sM uU5 (hval 2 _ v2 rfl rfl) h2
 subst hx2
 exact yE ld (by kernel_rfl) rfl uU4 rfl rfl hW' (uU W x0 x1 x2)
theorem eb {a b : Bool} (h : a = true) (k : b = true) : (a && b) = true := by rw [h, k]; rfl
theorem uV : mapsRowed Tryz.prog = true := by kernel_rfl
theorem tk : (Rows.treeRoomRow.inPlace == Tryz.prog.inPlace 6) = true := by kernel_rfl
theorem tj : (Rows.treeRoomRow.unfollowed == Tryz.prog.unfollowed 6) = true := by kernel_rfl
theorem ti : (Rows.treeRoomRow.recurses == Tryz.prog.recurses 6) = true := by kernel_rfl
theorem th : (Rows.treeRoomRow.named == Tryz.prog.varsNamed 6) = true := by kernel_rfl
theorem tg : (Rows.treeRoomRow.plainKeys == Tryz.prog.plainKeys) = true := by kernel_rfl
theorem td : (Rows.treeRoomRow.lifted == Tryz.prog.liftsFinal) = true := by kernel_rfl
theorem tf : Tryz.prog.stopsHeard = true := by kernel_rfl
theorem te : Tryz.prog.mayEnter = true := by kernel_rfl
theorem ql : Tryz.prog.funcNamed Rows.treeRoomRow.func = some 6 := by kernel_rfl
theorem qO : Tryz.f6.isInstance Tryz.prog Rows.treeRoomRow.origin Rows.treeRoomRow.targs := of_decide_eq_true (by kernel_rfl)
theorem qN : Tryz.f6.isWrapper Tryz.prog Rows.treeRoomRow.wrapper Rows.treeRoomRow.mainSum := by unfold Func.isWrapper; first | (rw [if_pos (by decide +kernel)]; kernel_rfl) | (rw [if_neg (by decide +kernel)]; exact ⟨rfl, rfl⟩)
theorem om : joinedFacts Tryz.prog 6 Tryz.f6 Rows.treeRoomSpec Rows.treeRoomRow = true := by
 unfold joinedFacts
 exact eb (eb (eb (eb (eb (eb (eb (eb (eb (eb (eb (eb (eb (eb (eb (eb (eb (eb (eb (eb (eb (eb (eb (eb (eb (eb (eb (eb (eb (eb (eb (by kernel_rfl) ld) uV) (by kernel_rfl)) (by kernel_rfl)) (by kernel_rfl)) (by kernel_rfl)) (by kernel_rfl)) (by kernel_rfl)) tk) tj) ti) th) (by kernel_rfl)) (by kernel_rfl)) (by kernel_rfl)) (by kernel_rfl)) (by kernel_rfl)) (by kernel_rfl)) (by kernel_rfl)) (by kernel_rfl)) (by kernel_rfl)) tg) (by kernel_rfl)) tf) te) td) (by kernel_rfl)) (by kernel_rfl)) (by kernel_rfl)) (by kernel_rfl)) (by kernel_rfl)
theorem TreeRoom_holds : Rows.TreeRoomSaid :=
 OpenClaim.holds_of_wide 6 Tryz.f6 rfl rfl rfl rfl rfl rfl rfl ⟨rfl, rfl, rfl, rfl, rfl⟩ rfl rfl rfl rfl rfl ql Tryz.func6 om qO qN
  (fun os started H enc _ => oh os started H enc)
end Go.Proofs.YtpbfapbajmdlkaaGreat

