/- A batch is as well its writes one by one; the last write of a key counts. It holds for every input; there are no conditions. -/
import Derived.Test.YtpbfapbajmdlkaaGreatRows
import Derived.Test.YtpbfapbajmdlkaaGreatQ5
import Derived.Test.YtpbfapbajmdlkaaGreatSac1
import Derived.Test.YtpbfapbajmdlkaaGreatSac2
namespace Go.Proofs.YtpbfapbajmdlkaaGreat
open Go Go.Sac Go.ChangeShapes Go.WideShapes Go.ChangeAt Go.RowKit
theorem wL:ownKnob Tryz.prog.godebug=none:=by kernel_rfl
theorem nA:laidOutB Tryz.prog=true:=by kernel_rfl
set_option maxRecDepth 100000 in
theorem rX(os:Os)(started:os.Started)(H:Type)(enc:TypeId×Value→H) :
  ReturnsInHanded {} Tryz.checked os 11 .any (Rows.storeBatchSpec.pre6 enc Tryz.prog Tryz.f11 Rows.storeBatchRow.domain false) (Rows.storeBatchSpec.post enc Tryz.prog Tryz.f11 false true false false):=by
 refine returnsInHanded_of_change (C:=Tryz.checked) wL started (by kernel_rfl) Tryz.func11
  (ChangeSpec.witness6 (enc:=enc) (C:=Tryz.checked) false ⟨#[],#[.slice none 0 0,.int .u8 0],[]⟩ 8 (by kernel_rfl) (by kernel_rfl) (by kernel_rfl) (by kernel_rfl)) ?_
 intro W base args ds gs before hval0 hW hcnd _
 have hval:∀(j:Nat) t v,Tryz.f11.params[j]?=some t→args[j]?=some v→Value.okWide Tryz.prog W .any base t v:=hval0
 have hW':DataW.Whole enc Tryz.prog Tryz.f11.params.toList Rows.storeBatchSpec.vars false W args.toList ds gs before:=hW
 obtain⟨p,q,hA0,hV,rfl,hfz,hnd⟩:=id hW'
 have hA:DataW.TrodAll enc Tryz.prog W 0 (fun _=>true) true Tryz.f11.params.toList args.toList ds p:=hA0
 rw[Tryz.params11] at hA hval
 obtain⟨v0,l0,d0,e0,p0,q0,ha0,hd0,_,h0,hA0⟩:=trodAll_cons hA
 obtain⟨v1,l1,d1,e1,p1,q1,ha1,hd1,_,h1,hA1⟩:=trodAll_cons hA0
 obtain⟨hl,he,_⟩:=trodAll_nil hA1
 subst hl he
 subst ha1 hd1
 subst hd0
 have hargs:=arr_of ha0
 subst hargs
 obtain⟨rfl,rfl⟩:=trodVars_none hV
 obtain⟨x0,hx0,hn0⟩:=Hd (rd_wr mQ (by kernel_rfl) rfl rfl rfl rfl rfl rfl (by kernel_rfl) (by kernel_rfl) uU9 uU4) lr (by kernel_rfl) (hval 0 _ v0 rfl rfl) h0
 obtain⟨x1,hx1⟩:=open_u8 uU5 (hval 1 _ v1 rfl rfl) h1
 subst hx1
 exact Fc nA (by kernel_rfl) rfl uU4 rfl rfl hW' (xu W v0 x0 hx0 hn0 x1)
theorem fD{a b:Bool}(h:a=true)(k:b=true):(a&&b)=true:=by rw[h,k];rfl
theorem xv:mapsRowed Tryz.prog=true:=by kernel_rfl
theorem wT:(Rows.storeBatchRow.inPlace==Tryz.prog.inPlace 11)=true:=by kernel_rfl
theorem wS:(Rows.storeBatchRow.unfollowed==Tryz.prog.unfollowed 11)=true:=by kernel_rfl
theorem wR:(Rows.storeBatchRow.recurses==Tryz.prog.recurses 11)=true:=by kernel_rfl
theorem wQ:(Rows.storeBatchRow.named==Tryz.prog.varsNamed 11)=true:=by kernel_rfl
theorem wP:(Rows.storeBatchRow.plainKeys==Tryz.prog.plainKeys)=true:=by kernel_rfl
theorem wM:(Rows.storeBatchRow.lifted==Tryz.prog.liftsFinal)=true:=by kernel_rfl
theorem wO:Tryz.prog.stopsHeard=true:=by kernel_rfl
theorem wN:Tryz.prog.mayEnter=true:=by kernel_rfl
theorem tc:Tryz.prog.funcNamed Rows.storeBatchRow.func=some 11:=by kernel_rfl
theorem u0:Tryz.f11.isInstance Tryz.prog Rows.storeBatchRow.origin Rows.storeBatchRow.targs:=of_decide_eq_true (by kernel_rfl)
theorem tZ:Tryz.f11.isWrapper Tryz.prog Rows.storeBatchRow.wrapper Rows.storeBatchRow.mainSum:=by unfold Func.isWrapper;first|(rw[if_pos (by decide +kernel)];kernel_rfl)|(rw[if_neg (by decide +kernel)];exact⟨rfl,rfl⟩)
theorem rY:joinedFacts Tryz.prog 11 Tryz.f11 Rows.storeBatchSpec Rows.storeBatchRow=true:=by
 unfold joinedFacts
 exact fD (fD (fD (fD (fD (fD (fD (fD (fD (fD (fD (fD (fD (fD (fD (fD (fD (fD (fD (fD (fD (fD (fD (fD (fD (fD (fD (fD (fD (fD (fD (by kernel_rfl) nA) xv) (by kernel_rfl)) (by kernel_rfl)) (by kernel_rfl)) (by kernel_rfl)) (by kernel_rfl)) (by kernel_rfl)) wT) wS) wR) wQ) (by kernel_rfl)) (by kernel_rfl)) (by kernel_rfl)) (by kernel_rfl)) (by kernel_rfl)) (by kernel_rfl)) (by kernel_rfl)) (by kernel_rfl)) (by kernel_rfl)) wP) (by kernel_rfl)) wO) wN) wM) (by kernel_rfl)) (by kernel_rfl)) (by kernel_rfl)) (by kernel_rfl)) (by kernel_rfl)
theorem StoreBatch_holds:Rows.StoreBatchSaid :=
 OpenClaim.holds_of_wide 11 Tryz.f11 rfl rfl rfl rfl rfl rfl rfl ⟨rfl,rfl,rfl,rfl,rfl⟩ rfl rfl rfl rfl rfl tc Tryz.func11 rY u0 tZ
  (fun os started H enc _=>rX os started H enc)
end Go.Proofs.YtpbfapbajmdlkaaGreat

