/- Opened as often as one likes, by whatever key it was made, it is as it was; made anew it is empty. It holds for every input; there are no conditions. -/
import Derived.Test.YtpbfapbajmdlkaaGreatRows
import Derived.Test.YtpbfapbajmdlkaaGreatQ5
import Derived.Test.YtpbfapbajmdlkaaGreatSac1
import Derived.Test.YtpbfapbajmdlkaaGreatSac2
namespace Go.Proofs.YtpbfapbajmdlkaaGreat
open Go Go.Sac Go.ChangeShapes Go.WideShapes Go.ChangeAt Go.RowKit
theorem wU:ownKnob Tryz.prog.godebug=none:=by kernel_rfl
theorem nG:laidOutB Tryz.prog=true:=by kernel_rfl
set_option maxRecDepth 100000 in
theorem su(os:Os)(started:os.Started)(H:Type)(enc:TypeId×Value→H) :
  ReturnsInHanded {} Tryz.checked os 10 .any (Rows.storeAgainSpec.pre6 enc Tryz.prog Tryz.f10 Rows.storeAgainRow.domain false) (Rows.storeAgainSpec.post enc Tryz.prog Tryz.f10 false true false false):=by
 refine returnsInHanded_of_change (C:=Tryz.checked) wU started (by kernel_rfl) Tryz.func10
  (ChangeSpec.witness6 (enc:=enc) (C:=Tryz.checked) false ⟨#[],#[.agg (Array.replicate 32 (.int .u8 0)),.slice none 0 0,.int .u8 0],[]⟩ 8 (by kernel_rfl) (by kernel_rfl) (by kernel_rfl) (by kernel_rfl)) ?_
 intro W base args ds gs before hval0 hW hcnd _
 have hval:∀(j:Nat) t v,Tryz.f10.params[j]?=some t→args[j]?=some v→Value.okWide Tryz.prog W .any base t v:=hval0
 have hW':DataW.Whole enc Tryz.prog Tryz.f10.params.toList Rows.storeAgainSpec.vars false W args.toList ds gs before:=hW
 obtain⟨p,q,hA0,hV,rfl,hfz,hnd⟩:=id hW'
 have hA:DataW.TrodAll enc Tryz.prog W 0 (fun _=>true) true Tryz.f10.params.toList args.toList ds p:=hA0
 rw[Tryz.params10] at hA hval
 obtain⟨v0,l0,d0,e0,p0,q0,ha0,hd0,_,h0,hA0⟩:=trodAll_cons hA
 obtain⟨v1,l1,d1,e1,p1,q1,ha1,hd1,_,h1,hA1⟩:=trodAll_cons hA0
 obtain⟨v2,l2,d2,e2,p2,q2,ha2,hd2,_,h2,hA2⟩:=trodAll_cons hA1
 obtain⟨hl,he,_⟩:=trodAll_nil hA2
 subst hl he
 subst ha2 hd2
 subst ha1 hd1
 subst hd0
 have hargs:=arr_of ha0
 subst hargs
 obtain⟨rfl,rfl⟩:=trodVars_none hV
 obtain⟨x0,hx0,hok0⟩:=Hq (n:=32) (rd_u8 uU5) gm (by kernel_rfl) (by kernel_rfl) (hval 0 _ v0 rfl rfl) h0
 subst hx0
 obtain⟨x1,hx1,hn1⟩:=Hm (rd_wr mW (by kernel_rfl) rfl rfl rfl rfl rfl rfl (by kernel_rfl) (by kernel_rfl) uU9 uU4) nJ (by kernel_rfl) (hval 1 _ v1 rfl rfl) h1
 obtain⟨x2,hx2⟩:=open_u8 uU5 (hval 2 _ v2 rfl rfl) h2
 subst hx2
 exact Fq nG (by kernel_rfl) rfl uU4 rfl rfl hW' (xE W x0 hok0 v1 x1 hx1 hn1 x2)
theorem fG{a b:Bool}(h:a=true)(k:b=true):(a&&b)=true:=by rw[h,k];rfl
theorem xF:mapsRowed Tryz.prog=true:=by kernel_rfl
theorem x5:(Rows.storeAgainRow.inPlace==Tryz.prog.inPlace 10)=true:=by kernel_rfl
theorem x4:(Rows.storeAgainRow.unfollowed==Tryz.prog.unfollowed 10)=true:=by kernel_rfl
theorem x3:(Rows.storeAgainRow.recurses==Tryz.prog.recurses 10)=true:=by kernel_rfl
theorem wZ:(Rows.storeAgainRow.named==Tryz.prog.varsNamed 10)=true:=by kernel_rfl
theorem wY:(Rows.storeAgainRow.plainKeys==Tryz.prog.plainKeys)=true:=by kernel_rfl
theorem wV:(Rows.storeAgainRow.lifted==Tryz.prog.liftsFinal)=true:=by kernel_rfl
theorem wX:Tryz.prog.stopsHeard=true:=by kernel_rfl
theorem wW:Tryz.prog.mayEnter=true:=by kernel_rfl
theorem tp:Tryz.prog.funcNamed Rows.storeAgainRow.func=some 10:=by kernel_rfl
theorem uh:Tryz.f10.isInstance Tryz.prog Rows.storeAgainRow.origin Rows.storeAgainRow.targs:=of_decide_eq_true (by kernel_rfl)
theorem ug:Tryz.f10.isWrapper Tryz.prog Rows.storeAgainRow.wrapper Rows.storeAgainRow.mainSum:=by unfold Func.isWrapper;first|(rw[if_pos (by decide +kernel)];kernel_rfl)|(rw[if_neg (by decide +kernel)];exact⟨rfl,rfl⟩)
theorem sw:joinedFacts Tryz.prog 10 Tryz.f10 Rows.storeAgainSpec Rows.storeAgainRow=true:=by
 unfold joinedFacts
 exact fG (fG (fG (fG (fG (fG (fG (fG (fG (fG (fG (fG (fG (fG (fG (fG (fG (fG (fG (fG (fG (fG (fG (fG (fG (fG (fG (fG (fG (fG (fG (by kernel_rfl) nG) xF) (by kernel_rfl)) (by kernel_rfl)) (by kernel_rfl)) (by kernel_rfl)) (by kernel_rfl)) (by kernel_rfl)) x5) x4) x3) wZ) (by kernel_rfl)) (by kernel_rfl)) (by kernel_rfl)) (by kernel_rfl)) (by kernel_rfl)) (by kernel_rfl)) (by kernel_rfl)) (by kernel_rfl)) (by kernel_rfl)) wY) (by kernel_rfl)) wX) wW) wV) (by kernel_rfl)) (by kernel_rfl)) (by kernel_rfl)) (by kernel_rfl)) (by kernel_rfl)
theorem StoreAgain_holds:Rows.StoreAgainSaid :=
 OpenClaim.holds_of_wide 10 Tryz.f10 rfl rfl rfl rfl rfl rfl rfl ⟨rfl,rfl,rfl,rfl,rfl⟩ rfl rfl rfl rfl rfl tp Tryz.func10 sw uh ug
  (fun os started H enc _=>su os started H enc)
end Go.Proofs.YtpbfapbajmdlkaaGreat

