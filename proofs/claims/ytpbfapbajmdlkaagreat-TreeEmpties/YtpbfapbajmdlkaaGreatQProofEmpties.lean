/- All pairs put, all taken away, in whatever order: an empty tree of one page; each on the way is one. It holds for every input; there are no conditions. -/
import Derived.Test.YtpbfapbajmdlkaaGreatRows
import Derived.Test.YtpbfapbajmdlkaaGreatQ4
import Derived.Test.YtpbfapbajmdlkaaGreatSac1
namespace Go.Proofs.YtpbfapbajmdlkaaGreat
open Go Go.Sac Go.ChangeShapes Go.WideShapes Go.ChangeAt Go.RowKit
theorem ph:ownKnob Tryz.prog.godebug=none:=by kernel_rfl
theorem jB:laidOutB Tryz.prog=true:=by kernel_rfl
set_option maxRecDepth 100000 in
theorem m9(os:Os)(started:os.Started)(H:Type)(enc:TypeId×Value→H) :
  ReturnsInHanded {} Tryz.checked os 7 .any (Rows.treeEmptiesSpec.pre6 enc Tryz.prog Tryz.f7 Rows.treeEmptiesRow.domain false) (Rows.treeEmptiesSpec.post enc Tryz.prog Tryz.f7 false true false false):=by
 refine returnsInHanded_of_change (C:=Tryz.checked) ph started (by kernel_rfl) Tryz.func7
  (ChangeSpec.witness6 (enc:=enc) (C:=Tryz.checked) false ⟨#[],#[.int .u8 0,.int .u8 0,.int .u8 0],[]⟩ 8 (by kernel_rfl) (by kernel_rfl) (by kernel_rfl) (by kernel_rfl)) ?_
 intro W base args ds gs before hval0 hW hcnd _
 have hval:∀(j:Nat) t v,Tryz.f7.params[j]?=some t→args[j]?=some v→Value.okWide Tryz.prog W .any base t v:=hval0
 have hW':DataW.Whole enc Tryz.prog Tryz.f7.params.toList Rows.treeEmptiesSpec.vars false W args.toList ds gs before:=hW
 obtain⟨p,q,hA0,hV,rfl,hfz,hnd⟩:=id hW'
 have hA:DataW.TrodAll enc Tryz.prog W 0 (fun _=>true) true Tryz.f7.params.toList args.toList ds p:=hA0
 rw[Tryz.params7] at hA hval
 obtain⟨v0,l0,d0,e0,p0,q0,ha0,hd0,_,h0,hA0⟩:=trodAll_cons hA
 obtain⟨v1,l1,d1,e1,p1,q1,ha1,hd1,_,h1,hA1⟩:=trodAll_cons hA0
 obtain⟨v2,l2,d2,e2,p2,q2,ha2,hd2,_,h2,hA2⟩:=trodAll_cons hA1
 obtain⟨hl,he,_⟩:=trodAll_nil hA2
 subst hl he
 subst ha2 hd2
 subst ha1 hd1
 subst hd0
 have hargs:=arr_of ha0
 subst hargs
 obtain⟨rfl,rfl⟩:=trodVars_none hV
 obtain⟨x0,hx0⟩:=tZ uU5 (hval 0 _ v0 rfl rfl) h0
 subst hx0
 obtain⟨x1,hx1⟩:=tZ uU5 (hval 1 _ v1 rfl rfl) h1
 subst hx1
 obtain⟨x2,hx2⟩:=tZ uU5 (hval 2 _ v2 rfl rfl) h2
 subst hx2
 exact zY jB (by kernel_rfl) rfl uU4 rfl rfl hW' (ry W x0 x1 x2)
theorem ek{a b:Bool}(h:a=true)(k:b=true):(a&&b)=true:=by rw[h,k]; rfl
theorem rz:mapsRowed Tryz.prog=true:=by kernel_rfl
theorem pB:(Rows.treeEmptiesRow.inPlace==Tryz.prog.inPlace 7)=true:=by kernel_rfl
theorem pA:(Rows.treeEmptiesRow.unfollowed==Tryz.prog.unfollowed 7)=true:=by kernel_rfl
theorem pz:(Rows.treeEmptiesRow.recurses==Tryz.prog.recurses 7)=true:=by kernel_rfl
theorem px:(Rows.treeEmptiesRow.named==Tryz.prog.varsNamed 7)=true:=by kernel_rfl
theorem pw:(Rows.treeEmptiesRow.plainKeys==Tryz.prog.plainKeys)=true:=by kernel_rfl
theorem pj:(Rows.treeEmptiesRow.lifted==Tryz.prog.liftsFinal)=true:=by kernel_rfl
theorem pq:Tryz.prog.stopsHeard=true:=by kernel_rfl
theorem pn:Tryz.prog.mayEnter=true:=by kernel_rfl
theorem nG:Tryz.prog.funcNamed Rows.treeEmptiesRow.func=some 7:=by kernel_rfl
theorem oh:Tryz.f7.isInstance Tryz.prog Rows.treeEmptiesRow.origin Rows.treeEmptiesRow.targs:=of_decide_eq_true (by kernel_rfl)
theorem og:Tryz.f7.isWrapper Tryz.prog Rows.treeEmptiesRow.wrapper Rows.treeEmptiesRow.mainSum:=by unfold Func.isWrapper; first | (rw[if_pos (by decide +kernel)]; kernel_rfl) | (rw[if_neg (by decide +kernel)]; exact⟨rfl,rfl⟩)
theorem ma:joinedFacts Tryz.prog 7 Tryz.f7 Rows.treeEmptiesSpec Rows.treeEmptiesRow=true:=by
 unfold joinedFacts
 exact ek (ek (ek (ek (ek (ek (ek (ek (ek (ek (ek (ek (ek (ek (ek (ek (ek (ek (ek (ek (ek (ek (ek (ek (ek (ek (ek (ek (ek (ek (ek (by kernel_rfl) jB) rz) (by kernel_rfl)) (by kernel_rfl)) (by kernel_rfl)) (by kernel_rfl)) (by kernel_rfl)) (by kernel_rfl)) pB) pA) pz) px) (by kernel_rfl)) (by kernel_rfl)) (by kernel_rfl)) (by kernel_rfl)) (by kernel_rfl)) (by kernel_rfl)) (by kernel_rfl)) (by kernel_rfl)) (by kernel_rfl)) pw) (by kernel_rfl)) pq) pn) pj) (by kernel_rfl)) (by kernel_rfl)) (by kernel_rfl)) (by kernel_rfl)) (by kernel_rfl)
theorem TreeEmpties_holds:Rows.TreeEmptiesSaid :=
 OpenClaim.holds_of_wide 7 Tryz.f7 rfl rfl rfl rfl rfl rfl rfl ⟨rfl,rfl,rfl,rfl,rfl⟩ rfl rfl rfl rfl rfl nG Tryz.func7 ma oh og
  (fun os started H enc _=>m9 os started H enc)
end Go.Proofs.YtpbfapbajmdlkaaGreat

