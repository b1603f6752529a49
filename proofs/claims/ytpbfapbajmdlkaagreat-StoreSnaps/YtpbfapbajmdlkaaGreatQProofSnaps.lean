/- A snapshot tells what there was, whatever comes later; dropped it is gone, and its pages are free again. It holds for every input; there are no conditions. -/
import Derived.Test.YtpbfapbajmdlkaaGreatRows
import Derived.Test.YtpbfapbajmdlkaaGreatQ5
import Derived.Test.YtpbfapbajmdlkaaGreatSac1
import Derived.Test.YtpbfapbajmdlkaaGreatSac2
namespace Go.Proofs.YtpbfapbajmdlkaaGreat
open Go Go.Sac Go.ChangeShapes Go.WideShapes Go.ChangeAt Go.RowKit
theorem x3:ownKnob Tryz.prog.godebug=none:=by kernel_rfl
theorem nQ:laidOutB Tryz.prog=true:=by kernel_rfl
set_option maxRecDepth 100000 in
theorem sD(os:Os)(started:os.Started)(H:Type)(enc:TypeId×Value→H) :
  ReturnsInHanded {} Tryz.checked os 14 .any (Rows.storeSnapsSpec.pre6 enc Tryz.prog Tryz.f14 Rows.storeSnapsRow.domain false) (Rows.storeSnapsSpec.post enc Tryz.prog Tryz.f14 false true false false):=by
 refine returnsInHanded_of_change (C:=Tryz.checked) x3 started (by kernel_rfl) Tryz.func14
  (ChangeSpec.witness6 (enc:=enc) (C:=Tryz.checked) false ⟨#[],#[.slice none 0 0,.slice none 0 0,.string ⟨#[]⟩],[]⟩ 8 (by kernel_rfl) (by kernel_rfl) (by kernel_rfl) (by kernel_rfl)) ?_
 intro W base args ds gs before hval0 hW hcnd _
 have hval:∀(j:Nat) t v,Tryz.f14.params[j]?=some t→args[j]?=some v→Value.okWide Tryz.prog W .any base t v:=hval0
 have hW':DataW.Whole enc Tryz.prog Tryz.f14.params.toList Rows.storeSnapsSpec.vars false W args.toList ds gs before:=hW
 obtain⟨p,q,hA0,hV,rfl,hfz,hnd⟩:=id hW'
 have hA:DataW.TrodAll enc Tryz.prog W 0 (fun _=>true) true Tryz.f14.params.toList args.toList ds p:=hA0
 rw[Tryz.params14] at hA hval
 obtain⟨v0,l0,d0,e0,p0,q0,ha0,hd0,_,h0,hA0⟩:=trodAll_cons hA
 obtain⟨v1,l1,d1,e1,p1,q1,ha1,hd1,_,h1,hA1⟩:=trodAll_cons hA0
 obtain⟨v2,l2,d2,e2,p2,q2,ha2,hd2,_,h2,hA2⟩:=trodAll_cons hA1
 obtain⟨hl,he,_⟩:=trodAll_nil hA2
 subst hl he
 subst ha2 hd2
 subst ha1 hd1
 subst hd0
 have hargs:=arr_of ha0
 subst hargs
 obtain⟨rfl,rfl⟩:=trodVars_none hV
 obtain⟨x0,hx0,hn0⟩:=B1 (rd_wr lJ (by kernel_rfl) rfl rfl rfl rfl rfl rfl (by kernel_rfl) (by kernel_rfl) uU9 uU4) jC (by kernel_rfl) (hval 0 _ v0 rfl rfl) h0
 obtain⟨x1,hx1,hn1⟩:=B1 (rd_wr lJ (by kernel_rfl) rfl rfl rfl rfl rfl rfl (by kernel_rfl) (by kernel_rfl) uU9 uU4) jC (by kernel_rfl) (hval 1 _ v1 rfl rfl) h1
 obtain⟨x2,hx2,hn2⟩:=HD uU9 (hval 2 _ v2 rfl rfl) h2
 subst hx2
 exact FG nQ (by kernel_rfl) rfl uU4 rfl rfl hW' (xL W v0 x0 hx0 hn0 v1 x1 hx1 hn1 x2)
theorem fI{a b:Bool}(h:a=true)(k:b=true):(a&&b)=true:=by rw[h,k];rfl
theorem xM:mapsRowed Tryz.prog=true:=by kernel_rfl
theorem xc:(Rows.storeSnapsRow.inPlace==Tryz.prog.inPlace 14)=true:=by kernel_rfl
theorem xa:(Rows.storeSnapsRow.unfollowed==Tryz.prog.unfollowed 14)=true:=by kernel_rfl
theorem x9:(Rows.storeSnapsRow.recurses==Tryz.prog.recurses 14)=true:=by kernel_rfl
theorem x8:(Rows.storeSnapsRow.named==Tryz.prog.varsNamed 14)=true:=by kernel_rfl
theorem x7:(Rows.storeSnapsRow.plainKeys==Tryz.prog.plainKeys)=true:=by kernel_rfl
theorem x4:(Rows.storeSnapsRow.lifted==Tryz.prog.liftsFinal)=true:=by kernel_rfl
theorem x6:Tryz.prog.stopsHeard=true:=by kernel_rfl
theorem x5:Tryz.prog.mayEnter=true:=by kernel_rfl
theorem tC:Tryz.prog.funcNamed Rows.storeSnapsRow.func=some 14:=by kernel_rfl
theorem uq:Tryz.f14.isInstance Tryz.prog Rows.storeSnapsRow.origin Rows.storeSnapsRow.targs:=of_decide_eq_true (by kernel_rfl)
theorem uo:Tryz.f14.isWrapper Tryz.prog Rows.storeSnapsRow.wrapper Rows.storeSnapsRow.mainSum:=by unfold Func.isWrapper;first|(rw[if_pos (by decide +kernel)];kernel_rfl)|(rw[if_neg (by decide +kernel)];exact⟨rfl,rfl⟩)
theorem sE:joinedFacts Tryz.prog 14 Tryz.f14 Rows.storeSnapsSpec Rows.storeSnapsRow=true:=by
 unfold joinedFacts
 exact fI (fI (fI (fI (fI (fI (fI (fI (fI (fI (fI (fI (fI (fI (fI (fI (fI (fI (fI (fI (fI (fI (fI (fI (fI (fI (fI (fI (fI (fI (fI (by kernel_rfl) nQ) xM) (by kernel_rfl)) (by kernel_rfl)) (by kernel_rfl)) (by kernel_rfl)) (by kernel_rfl)) (by kernel_rfl)) xc) xa) x9) x8) (by kernel_rfl)) (by kernel_rfl)) (by kernel_rfl)) (by kernel_rfl)) (by kernel_rfl)) (by kernel_rfl)) (by kernel_rfl)) (by kernel_rfl)) (by kernel_rfl)) x7) (by kernel_rfl)) x6) x5) x4) (by kernel_rfl)) (by kernel_rfl)) (by kernel_rfl)) (by kernel_rfl)) (by kernel_rfl)
theorem StoreSnaps_holds:Rows.StoreSnapsSaid :=
 OpenClaim.holds_of_wide 14 Tryz.f14 rfl rfl rfl rfl rfl rfl rfl ⟨rfl,rfl,rfl,rfl,rfl⟩ rfl rfl rfl rfl rfl tC Tryz.func14 sE uq uo
  (fun os started H enc _=>sD os started H enc)
end Go.Proofs.YtpbfapbajmdlkaaGreat

