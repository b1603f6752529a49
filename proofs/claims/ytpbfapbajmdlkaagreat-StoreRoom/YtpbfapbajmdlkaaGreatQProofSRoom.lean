/- As long as there is the room that the page says nothing is refused for want of it; on a small disk what is refused changes nothing. It holds for every input; there are no conditions. -/
import Derived.Test.YtpbfapbajmdlkaaGreatRows
import Derived.Test.YtpbfapbajmdlkaaGreatQ5
import Derived.Test.YtpbfapbajmdlkaaGreatSac1
import Derived.Test.YtpbfapbajmdlkaaGreatSac2
namespace Go.Proofs.YtpbfapbajmdlkaaGreat
open Go Go.Sac Go.ChangeShapes Go.WideShapes Go.ChangeAt Go.RowKit
theorem xz:ownKnob Tryz.prog.godebug=none:=by kernel_rfl
theorem oF:laidOutB Tryz.prog=true:=by kernel_rfl
set_option maxRecDepth 100000 in
theorem tm(os:Os)(started:os.Started)(H:Type)(enc:TypeId×Value→H) :
  ReturnsInHanded {} Tryz.checked os 13 .any (Rows.storeRoomSpec.pre6 enc Tryz.prog Tryz.f13 Rows.storeRoomRow.domain false) (Rows.storeRoomSpec.post enc Tryz.prog Tryz.f13 false true false false):=by
 refine returnsInHanded_of_change (C:=Tryz.checked) xz started (by kernel_rfl) Tryz.func13
  (ChangeSpec.witness6 (enc:=enc) (C:=Tryz.checked) false ⟨#[],#[.int .u8 0,.slice none 0 0],[]⟩ 8 (by kernel_rfl) (by kernel_rfl) (by kernel_rfl) (by kernel_rfl)) ?_
 intro W base args ds gs before hval0 hW hcnd _
 have hval:∀(j:Nat) t v,Tryz.f13.params[j]?=some t→args[j]?=some v→Value.okWide Tryz.prog W .any base t v:=hval0
 have hW':DataW.Whole enc Tryz.prog Tryz.f13.params.toList Rows.storeRoomSpec.vars false W args.toList ds gs before:=hW
 obtain⟨p,q,hA0,hV,rfl,hfz,hnd⟩:=id hW'
 have hA:DataW.TrodAll enc Tryz.prog W 0 (fun _=>true) true Tryz.f13.params.toList args.toList ds p:=hA0
 rw[Tryz.params13] at hA hval
 obtain⟨v0,l0,d0,e0,p0,q0,ha0,hd0,_,h0,hA0⟩:=trodAll_cons hA
 obtain⟨v1,l1,d1,e1,p1,q1,ha1,hd1,_,h1,hA1⟩:=trodAll_cons hA0
 obtain⟨hl,he,_⟩:=trodAll_nil hA1
 subst hl he
 subst ha1 hd1
 subst hd0
 have hargs:=arr_of ha0
 subst hargs
 obtain⟨rfl,rfl⟩:=trodVars_none hV
 obtain⟨x0,hx0⟩:=open_u8 uU5 (hval 0 _ v0 rfl rfl) h0
 subst hx0
 obtain⟨x1,hx1,hn1⟩:=Hs (rd_wr lY (by kernel_rfl) rfl rfl rfl rfl rfl rfl (by kernel_rfl) (by kernel_rfl) uU9 uU4) kL (by kernel_rfl) (hval 1 _ v1 rfl rfl) h1
 exact Fv oF (by kernel_rfl) rfl uU4 rfl rfl hW' (Aa W x0 v1 x1 hx1 hn1)
theorem fI{a b:Bool}(h:a=true)(k:b=true):(a&&b)=true:=by rw[h,k];rfl
theorem Ab:mapsRowed Tryz.prog=true:=by kernel_rfl
theorem xH:(Rows.storeRoomRow.inPlace==Tryz.prog.inPlace 13)=true:=by kernel_rfl
theorem xG:(Rows.storeRoomRow.unfollowed==Tryz.prog.unfollowed 13)=true:=by kernel_rfl
theorem xF:(Rows.storeRoomRow.recurses==Tryz.prog.recurses 13)=true:=by kernel_rfl
theorem xE:(Rows.storeRoomRow.named==Tryz.prog.varsNamed 13)=true:=by kernel_rfl
theorem xD:(Rows.storeRoomRow.plainKeys==Tryz.prog.plainKeys)=true:=by kernel_rfl
theorem xA:(Rows.storeRoomRow.lifted==Tryz.prog.liftsFinal)=true:=by kernel_rfl
theorem xC:Tryz.prog.stopsHeard=true:=by kernel_rfl
theorem xB:Tryz.prog.mayEnter=true:=by kernel_rfl
theorem ug:Tryz.prog.funcNamed Rows.storeRoomRow.func=some 13:=by kernel_rfl
theorem wW:Tryz.f13.isInstance Tryz.prog Rows.storeRoomRow.origin Rows.storeRoomRow.targs:=of_decide_eq_true (by kernel_rfl)
theorem wV:Tryz.f13.isWrapper Tryz.prog Rows.storeRoomRow.wrapper Rows.storeRoomRow.mainSum:=by unfold Func.isWrapper;first|(rw[if_pos (by decide +kernel)];kernel_rfl)|(rw[if_neg (by decide +kernel)];exact⟨rfl,rfl⟩)
theorem tp:joinedFacts Tryz.prog 13 Tryz.f13 Rows.storeRoomSpec Rows.storeRoomRow=true:=by
 unfold joinedFacts
 exact fI (fI (fI (fI (fI (fI (fI (fI (fI (fI (fI (fI (fI (fI (fI (fI (fI (fI (fI (fI (fI (fI (fI (fI (fI (fI (fI (fI (fI (fI (fI (by kernel_rfl) oF) Ab) (by kernel_rfl)) (by kernel_rfl)) (by kernel_rfl)) (by kernel_rfl)) (by kernel_rfl)) (by kernel_rfl)) xH) xG) xF) xE) (by kernel_rfl)) (by kernel_rfl)) (by kernel_rfl)) (by kernel_rfl)) (by kernel_rfl)) (by kernel_rfl)) (by kernel_rfl)) (by kernel_rfl)) (by kernel_rfl)) xD) (by kernel_rfl)) xC) xB) xA) (by kernel_rfl)) (by kernel_rfl)) (by kernel_rfl)) (by kernel_rfl)) (by kernel_rfl)
theorem StoreRoom_holds:Rows.StoreRoomSaid :=
 OpenClaim.holds_of_wide 13 Tryz.f13 rfl rfl rfl rfl rfl rfl rfl ⟨rfl,rfl,rfl,rfl,rfl⟩ rfl rfl rfl rfl rfl ug Tryz.func13 tp wW wV
  (fun os started H enc _=>tm os started H enc)
end Go.Proofs.YtpbfapbajmdlkaaGreat

