/- Batch upon batch over the same keys: never a page more than there must be, on a small disk, too. It holds for every input; there are no conditions. -/
import Derived.Test.YtpbfapbajmdlkaaGreatRows
import Derived.Test.YtpbfapbajmdlkaaGreatQ5
import Derived.Test.YtpbfapbajmdlkaaGreatSac1
namespace Go.Proofs.YtpbfapbajmdlkaaGreat
open Go Go.Sac Go.ChangeShapes Go.WideShapes Go.ChangeAt Go.RowKit
theorem xa:ownKnob Tryz.prog.godebug=none:=by kernel_rfl
theorem od:laidOutB Tryz.prog=true:=by kernel_rfl
set_option maxRecDepth 100000 in
theorem sU(os:Os)(started:os.Started)(H:Type)(enc:TypeId×Value→H) :
  ReturnsInHanded {} Tryz.checked os 9 .any (Rows.storeLongSpec.pre6 enc Tryz.prog Tryz.f9 Rows.storeLongRow.domain false) (Rows.storeLongSpec.post enc Tryz.prog Tryz.f9 false true false false):=by
 refine returnsInHanded_of_change (C:=Tryz.checked) xa started (by kernel_rfl) Tryz.func9
  (ChangeSpec.witness6 (enc:=enc) (C:=Tryz.checked) false ⟨#[],#[.int .u8 0,.int .u8 0],[]⟩ 8 (by kernel_rfl) (by kernel_rfl) (by kernel_rfl) (by kernel_rfl)) ?_
 intro W base args ds gs before hval0 hW hcnd _
 have hval:∀(j:Nat) t v,Tryz.f9.params[j]?=some t→args[j]?=some v→Value.okWide Tryz.prog W .any base t v:=hval0
 have hW':DataW.Whole enc Tryz.prog Tryz.f9.params.toList Rows.storeLongSpec.vars false W args.toList ds gs before:=hW
 obtain⟨p,q,hA0,hV,rfl,hfz,hnd⟩:=id hW'
 have hA:DataW.TrodAll enc Tryz.prog W 0 (fun _=>true) true Tryz.f9.params.toList args.toList ds p:=hA0
 rw[Tryz.params9] at hA hval
 obtain⟨v0,l0,d0,e0,p0,q0,ha0,hd0,_,h0,hA0⟩:=trodAll_cons hA
 obtain⟨v1,l1,d1,e1,p1,q1,ha1,hd1,_,h1,hA1⟩:=trodAll_cons hA0
 obtain⟨hl,he,_⟩:=trodAll_nil hA1
 subst hl he
 subst ha1 hd1
 subst hd0
 have hargs:=arr_of ha0
 subst hargs
 obtain⟨rfl,rfl⟩:=trodVars_none hV
 obtain⟨x0,hx0⟩:=Dy uU5 (hval 0 _ v0 rfl rfl) h0
 subst hx0
 obtain⟨x1,hx1⟩:=Dy uU5 (hval 1 _ v1 rfl rfl) h1
 subst hx1
 exact ER od (by kernel_rfl) rfl uU4 rfl rfl hW' (zH W x0 x1)
theorem fy{a b:Bool}(h:a=true)(k:b=true):(a&&b)=true:=by rw[h,k];rfl
theorem zI:mapsRowed Tryz.prog=true:=by kernel_rfl
theorem xj:(Rows.storeLongRow.inPlace==Tryz.prog.inPlace 9)=true:=by kernel_rfl
theorem xi:(Rows.storeLongRow.unfollowed==Tryz.prog.unfollowed 9)=true:=by kernel_rfl
theorem xh:(Rows.storeLongRow.recurses==Tryz.prog.recurses 9)=true:=by kernel_rfl
theorem xg:(Rows.storeLongRow.named==Tryz.prog.varsNamed 9)=true:=by kernel_rfl
theorem xf:(Rows.storeLongRow.plainKeys==Tryz.prog.plainKeys)=true:=by kernel_rfl
theorem xc:(Rows.storeLongRow.lifted==Tryz.prog.liftsFinal)=true:=by kernel_rfl
theorem xe:Tryz.prog.stopsHeard=true:=by kernel_rfl
theorem xd:Tryz.prog.mayEnter=true:=by kernel_rfl
theorem tP:Tryz.prog.funcNamed Rows.storeLongRow.func=some 9:=by kernel_rfl
theorem wB:Tryz.f9.isInstance Tryz.prog Rows.storeLongRow.origin Rows.storeLongRow.targs:=of_decide_eq_true (by kernel_rfl)
theorem wA:Tryz.f9.isWrapper Tryz.prog Rows.storeLongRow.wrapper Rows.storeLongRow.mainSum:=by unfold Func.isWrapper;first|(rw[if_pos (by decide +kernel)];kernel_rfl)|(rw[if_neg (by decide +kernel)];exact⟨rfl,rfl⟩)
theorem sV:joinedFacts Tryz.prog 9 Tryz.f9 Rows.storeLongSpec Rows.storeLongRow=true:=by
 unfold joinedFacts
 exact fy (fy (fy (fy (fy (fy (fy (fy (fy (fy (fy (fy (fy (fy (fy (fy (fy (fy (fy (fy (fy (fy (fy (fy (fy (fy (fy (fy (fy (fy (fy (by kernel_rfl) od) zI) (by kernel_rfl)) (by kernel_rfl)) (by kernel_rfl)) (by kernel_rfl)) (by kernel_rfl)) (by kernel_rfl)) xj) xi) xh) xg) (by kernel_rfl)) (by kernel_rfl)) (by kernel_rfl)) (by kernel_rfl)) (by kernel_rfl)) (by kernel_rfl)) (by kernel_rfl)) (by kernel_rfl)) (by kernel_rfl)) xf) (by kernel_rfl)) xe) xd) xc) (by kernel_rfl)) (by kernel_rfl)) (by kernel_rfl)) (by kernel_rfl)) (by kernel_rfl)
theorem StoreLong_holds:Rows.StoreLongSaid :=
 OpenClaim.holds_of_wide 9 Tryz.f9 rfl rfl rfl rfl rfl rfl rfl ⟨rfl,rfl,rfl,rfl,rfl⟩ rfl rfl rfl rfl rfl tP Tryz.func9 sV wB wA
  (fun os started H enc _=>sU os started H enc)
end Go.Proofs.YtpbfapbajmdlkaaGreat

