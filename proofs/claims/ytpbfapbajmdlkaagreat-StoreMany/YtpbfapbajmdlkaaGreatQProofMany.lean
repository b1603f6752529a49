/- As many snapshots as there may be, each of its own time; one more is not taken, until one was dropped. It holds for every input; there are no conditions. -/
import Derived.Test.YtpbfapbajmdlkaaGreatRows
import Derived.Test.YtpbfapbajmdlkaaGreatQ5
import Derived.Test.YtpbfapbajmdlkaaGreatSac1
namespace Go.Proofs.YtpbfapbajmdlkaaGreat
open Go Go.Sac Go.ChangeShapes Go.WideShapes Go.ChangeAt Go.RowKit
theorem wX:ownKnob Tryz.prog.godebug=none:=by kernel_rfl
theorem oh:laidOutB Tryz.prog=true:=by kernel_rfl
set_option maxRecDepth 100000 in
theorem sR(os:Os)(started:os.Started)(H:Type)(enc:TypeId×Value→H) :
  ReturnsInHanded {} Tryz.checked os 8 .any (Rows.storeManySpec.pre6 enc Tryz.prog Tryz.f8 Rows.storeManyRow.domain false) (Rows.storeManySpec.post enc Tryz.prog Tryz.f8 false true false false):=by
 refine returnsInHanded_of_change (C:=Tryz.checked) wX started (by kernel_rfl) Tryz.func8
  (ChangeSpec.witness6 (enc:=enc) (C:=Tryz.checked) false ⟨#[],#[.int .u8 0,.int .u8 0],[]⟩ 8 (by kernel_rfl) (by kernel_rfl) (by kernel_rfl) (by kernel_rfl)) ?_
 intro W base args ds gs before hval0 hW hcnd _
 have hval:∀(j:Nat) t v,Tryz.f8.params[j]?=some t→args[j]?=some v→Value.okWide Tryz.prog W .any base t v:=hval0
 have hW':DataW.Whole enc Tryz.prog Tryz.f8.params.toList Rows.storeManySpec.vars false W args.toList ds gs before:=hW
 obtain⟨p,q,hA0,hV,rfl,hfz,hnd⟩:=id hW'
 have hA:DataW.TrodAll enc Tryz.prog W 0 (fun _=>true) true Tryz.f8.params.toList args.toList ds p:=hA0
 rw[Tryz.params8] at hA hval
 obtain⟨v0,l0,d0,e0,p0,q0,ha0,hd0,_,h0,hA0⟩:=trodAll_cons hA
 obtain⟨v1,l1,d1,e1,p1,q1,ha1,hd1,_,h1,hA1⟩:=trodAll_cons hA0
 obtain⟨hl,he,_⟩:=trodAll_nil hA1
 subst hl he
 subst ha1 hd1
 subst hd0
 have hargs:=arr_of ha0
 subst hargs
 obtain⟨rfl,rfl⟩:=trodVars_none hV
 obtain⟨x0,hx0⟩:=Dj uU5 (hval 0 _ v0 rfl rfl) h0
 subst hx0
 obtain⟨x1,hx1⟩:=Dj uU5 (hval 1 _ v1 rfl rfl) h1
 subst hx1
 exact EA oh (by kernel_rfl) rfl uU4 rfl rfl hW' (zo W x0 x1)
theorem fA{a b:Bool}(h:a=true)(k:b=true):(a&&b)=true:=by rw[h,k];rfl
theorem zp:mapsRowed Tryz.prog=true:=by kernel_rfl
theorem x8:(Rows.storeManyRow.inPlace==Tryz.prog.inPlace 8)=true:=by kernel_rfl
theorem x7:(Rows.storeManyRow.unfollowed==Tryz.prog.unfollowed 8)=true:=by kernel_rfl
theorem x6:(Rows.storeManyRow.recurses==Tryz.prog.recurses 8)=true:=by kernel_rfl
theorem x5:(Rows.storeManyRow.named==Tryz.prog.varsNamed 8)=true:=by kernel_rfl
theorem x4:(Rows.storeManyRow.plainKeys==Tryz.prog.plainKeys)=true:=by kernel_rfl
theorem wY:(Rows.storeManyRow.lifted==Tryz.prog.liftsFinal)=true:=by kernel_rfl
theorem x3:Tryz.prog.stopsHeard=true:=by kernel_rfl
theorem wZ:Tryz.prog.mayEnter=true:=by kernel_rfl
theorem tN:Tryz.prog.funcNamed Rows.storeManyRow.func=some 8:=by kernel_rfl
theorem wk:Tryz.f8.isInstance Tryz.prog Rows.storeManyRow.origin Rows.storeManyRow.targs:=of_decide_eq_true (by kernel_rfl)
theorem wj:Tryz.f8.isWrapper Tryz.prog Rows.storeManyRow.wrapper Rows.storeManyRow.mainSum:=by unfold Func.isWrapper;first|(rw[if_pos (by decide +kernel)];kernel_rfl)|(rw[if_neg (by decide +kernel)];exact⟨rfl,rfl⟩)
theorem sS:joinedFacts Tryz.prog 8 Tryz.f8 Rows.storeManySpec Rows.storeManyRow=true:=by
 unfold joinedFacts
 exact fA (fA (fA (fA (fA (fA (fA (fA (fA (fA (fA (fA (fA (fA (fA (fA (fA (fA (fA (fA (fA (fA (fA (fA (fA (fA (fA (fA (fA (fA (fA (by kernel_rfl) oh) zp) (by kernel_rfl)) (by kernel_rfl)) (by kernel_rfl)) (by kernel_rfl)) (by kernel_rfl)) (by kernel_rfl)) x8) x7) x6) x5) (by kernel_rfl)) (by kernel_rfl)) (by kernel_rfl)) (by kernel_rfl)) (by kernel_rfl)) (by kernel_rfl)) (by kernel_rfl)) (by kernel_rfl)) (by kernel_rfl)) x4) (by kernel_rfl)) x3) wZ) wY) (by kernel_rfl)) (by kernel_rfl)) (by kernel_rfl)) (by kernel_rfl)) (by kernel_rfl)
theorem StoreMany_holds:Rows.StoreManySaid :=
 OpenClaim.holds_of_wide 8 Tryz.f8 rfl rfl rfl rfl rfl rfl rfl ⟨rfl,rfl,rfl,rfl,rfl⟩ rfl rfl rfl rfl rfl tN Tryz.func8 sS wk wj
  (fun os started H enc _=>sR os started H enc)
end Go.Proofs.YtpbfapbajmdlkaaGreat

