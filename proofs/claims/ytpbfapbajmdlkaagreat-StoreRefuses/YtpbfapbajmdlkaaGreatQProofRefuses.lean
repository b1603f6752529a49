/- What is no batch and no name changes nothing. It holds for every input; there are no conditions. -/
import Derived.Test.YtpbfapbajmdlkaaGreatRows
import Derived.Test.YtpbfapbajmdlkaaGreatQ5
import Derived.Test.YtpbfapbajmdlkaaGreatSac1
import Derived.Test.YtpbfapbajmdlkaaGreatSac2
namespace Go.Proofs.YtpbfapbajmdlkaaGreat
open Go Go.Sac Go.ChangeShapes Go.WideShapes Go.ChangeAt Go.RowKit
theorem tg:ownKnob Tryz.prog.godebug=none:=by kernel_rfl
theorem lR:laidOutB Tryz.prog=true:=by kernel_rfl
set_option maxRecDepth 100000 in
theorem ph(os:Os)(started:os.Started)(H:Type)(enc:TypeId×Value→H) :
  ReturnsInHanded {} Tryz.checked os 12 .any (Rows.storeRefusesSpec.pre6 enc Tryz.prog Tryz.f12 Rows.storeRefusesRow.domain false) (Rows.storeRefusesSpec.post enc Tryz.prog Tryz.f12 false true false false):=by
 refine returnsInHanded_of_change (C:=Tryz.checked) tg started (by kernel_rfl) Tryz.func12
  (ChangeSpec.witness6 (enc:=enc) (C:=Tryz.checked) false ⟨#[],#[.slice none 0 0,.slice none 0 0,.string ⟨#[]⟩],[]⟩ 8 (by kernel_rfl) (by kernel_rfl) (by kernel_rfl) (by kernel_rfl)) ?_
 intro W base args ds gs before hval0 hW hcnd _
 have hval:∀(j:Nat) t v,Tryz.f12.params[j]?=some t→args[j]?=some v→Value.okWide Tryz.prog W .any base t v:=hval0
 have hW':DataW.Whole enc Tryz.prog Tryz.f12.params.toList Rows.storeRefusesSpec.vars false W args.toList ds gs before:=hW
 obtain⟨p,q,hA0,hV,rfl,hfz,hnd⟩:=id hW'
 have hA:DataW.TrodAll enc Tryz.prog W 0 (fun _=>true) true Tryz.f12.params.toList args.toList ds p:=hA0
 rw[Tryz.params12] at hA hval
 obtain⟨v0,l0,d0,e0,p0,q0,ha0,hd0,_,h0,hA0⟩:=trodAll_cons hA
 obtain⟨v1,l1,d1,e1,p1,q1,ha1,hd1,_,h1,hA1⟩:=trodAll_cons hA0
 obtain⟨v2,l2,d2,e2,p2,q2,ha2,hd2,_,h2,hA2⟩:=trodAll_cons hA1
 obtain⟨hl,he,_⟩:=trodAll_nil hA2
 subst hl he
 subst ha2 hd2
 subst ha1 hd1
 subst hd0
 have hargs:=arr_of ha0
 subst hargs
 obtain⟨rfl,rfl⟩:=trodVars_none hV
 obtain⟨x0,hx0,hn0⟩:=AF (rd_wr lB (by kernel_rfl) rfl rfl rfl rfl rfl rfl (by kernel_rfl) (by kernel_rfl) uU9 uU4) lf (by kernel_rfl) (hval 0 _ v0 rfl rfl) h0
 obtain⟨x1,hx1,hn1⟩:=AF (rd_wr lB (by kernel_rfl) rfl rfl rfl rfl rfl rfl (by kernel_rfl) (by kernel_rfl) uU9 uU4) lf (by kernel_rfl) (hval 1 _ v1 rfl rfl) h1
 obtain⟨x2,hx2,hn2⟩:=Hd uU9 (hval 2 _ v2 rfl rfl) h2
 subst hx2
 exact Fg lR (by kernel_rfl) rfl uU4 rfl rfl hW' (ug W v0 x0 hx0 hn0 v1 x1 hx1 hn1 x2 hn2)
theorem fF{a b:Bool}(h:a=true)(k:b=true):(a&&b)=true:=by rw[h,k];rfl
theorem uh:mapsRowed Tryz.prog=true:=by kernel_rfl
theorem tq:(Rows.storeRefusesRow.inPlace==Tryz.prog.inPlace 12)=true:=by kernel_rfl
theorem tp:(Rows.storeRefusesRow.unfollowed==Tryz.prog.unfollowed 12)=true:=by kernel_rfl
theorem tm:(Rows.storeRefusesRow.recurses==Tryz.prog.recurses 12)=true:=by kernel_rfl
theorem tl:(Rows.storeRefusesRow.named==Tryz.prog.varsNamed 12)=true:=by kernel_rfl
theorem tk:(Rows.storeRefusesRow.plainKeys==Tryz.prog.plainKeys)=true:=by kernel_rfl
theorem th:(Rows.storeRefusesRow.lifted==Tryz.prog.liftsFinal)=true:=by kernel_rfl
theorem tj:Tryz.prog.stopsHeard=true:=by kernel_rfl
theorem ti:Tryz.prog.mayEnter=true:=by kernel_rfl
theorem qx:Tryz.prog.funcNamed Rows.storeRefusesRow.func=some 12:=by kernel_rfl
theorem sa:Tryz.f12.isInstance Tryz.prog Rows.storeRefusesRow.origin Rows.storeRefusesRow.targs:=of_decide_eq_true (by kernel_rfl)
theorem s9:Tryz.f12.isWrapper Tryz.prog Rows.storeRefusesRow.wrapper Rows.storeRefusesRow.mainSum:=by unfold Func.isWrapper;first|(rw[if_pos (by decide +kernel)];kernel_rfl)|(rw[if_neg (by decide +kernel)];exact⟨rfl,rfl⟩)
theorem pj:joinedFacts Tryz.prog 12 Tryz.f12 Rows.storeRefusesSpec Rows.storeRefusesRow=true:=by
 unfold joinedFacts
 exact fF (fF (fF (fF (fF (fF (fF (fF (fF (fF (fF (fF (fF (fF (fF (fF (fF (fF (fF (fF (fF (fF (fF (fF (fF (fF (fF (fF (fF (fF (fF (by kernel_rfl) lR) uh) (by kernel_rfl)) (by kernel_rfl)) (by kernel_rfl)) (by kernel_rfl)) (by kernel_rfl)) (by kernel_rfl)) tq) tp) tm) tl) (by kernel_rfl)) (by kernel_rfl)) (by kernel_rfl)) (by kernel_rfl)) (by kernel_rfl)) (by kernel_rfl)) (by kernel_rfl)) (by kernel_rfl)) (by kernel_rfl)) tk) (by kernel_rfl)) tj) ti) th) (by kernel_rfl)) (by kernel_rfl)) (by kernel_rfl)) (by kernel_rfl)) (by kernel_rfl)
theorem StoreRefuses_holds:Rows.StoreRefusesSaid :=
 OpenClaim.holds_of_wide 12 Tryz.f12 rfl rfl rfl rfl rfl rfl rfl ⟨rfl,rfl,rfl,rfl,rfl⟩ rfl rfl rfl rfl rfl qx Tryz.func12 pj sa s9
  (fun os started H enc _=>ph os started H enc)
end Go.Proofs.YtpbfapbajmdlkaaGreat

