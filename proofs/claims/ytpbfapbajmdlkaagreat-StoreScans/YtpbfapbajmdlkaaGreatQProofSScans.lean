/- What is scanned from a key to another is just what lies between, live and of a snapshot. It holds for every input; there are no conditions. -/
import Derived.Test.YtpbfapbajmdlkaaGreatRows
import Derived.Test.YtpbfapbajmdlkaaGreatQ5
import Derived.Test.YtpbfapbajmdlkaaGreatSac1
import Derived.Test.YtpbfapbajmdlkaaGreatSac2
namespace Go.Proofs.YtpbfapbajmdlkaaGreat
open Go Go.Sac Go.ChangeShapes Go.WideShapes Go.ChangeAt Go.RowKit
theorem wQ:ownKnob Tryz.prog.godebug=none:=by kernel_rfl
theorem nD:laidOutB Tryz.prog=true:=by kernel_rfl
set_option maxRecDepth 100000 in
theorem sd(os:Os)(started:os.Started)(H:Type)(enc:TypeId×Value→H) :
  ReturnsInHanded {} Tryz.checked os 15 .any (Rows.storeScansSpec.pre6 enc Tryz.prog Tryz.f15 Rows.storeScansRow.domain false) (Rows.storeScansSpec.post enc Tryz.prog Tryz.f15 false true false false):=by
 refine returnsInHanded_of_change (C:=Tryz.checked) wQ started (by kernel_rfl) Tryz.func15
  (ChangeSpec.witness6 (enc:=enc) (C:=Tryz.checked) false ⟨#[],#[.slice none 0 0,.string ⟨#[]⟩,.string ⟨#[]⟩,.int .u8 0],[]⟩ 8 (by kernel_rfl) (by kernel_rfl) (by kernel_rfl) (by kernel_rfl)) ?_
 intro W base args ds gs before hval0 hW hcnd _
 have hval:∀(j:Nat) t v,Tryz.f15.params[j]?=some t→args[j]?=some v→Value.okWide Tryz.prog W .any base t v:=hval0
 have hW':DataW.Whole enc Tryz.prog Tryz.f15.params.toList Rows.storeScansSpec.vars false W args.toList ds gs before:=hW
 obtain⟨p,q,hA0,hV,rfl,hfz,hnd⟩:=id hW'
 have hA:DataW.TrodAll enc Tryz.prog W 0 (fun _=>true) true Tryz.f15.params.toList args.toList ds p:=hA0
 rw[Tryz.params15] at hA hval
 obtain⟨v0,l0,d0,e0,p0,q0,ha0,hd0,_,h0,hA0⟩:=trodAll_cons hA
 obtain⟨v1,l1,d1,e1,p1,q1,ha1,hd1,_,h1,hA1⟩:=trodAll_cons hA0
 obtain⟨v2,l2,d2,e2,p2,q2,ha2,hd2,_,h2,hA2⟩:=trodAll_cons hA1
 obtain⟨v3,l3,d3,e3,p3,q3,ha3,hd3,_,h3,hA3⟩:=trodAll_cons hA2
 obtain⟨hl,he,_⟩:=trodAll_nil hA3
 subst hl he
 subst ha3 hd3
 subst ha2 hd2
 subst ha1 hd1
 subst hd0
 have hargs:=arr_of ha0
 subst hargs
 obtain⟨rfl,rfl⟩:=trodVars_none hV
 obtain⟨x0,hx0,hn0⟩:=Hl (rd_wr mU (by kernel_rfl) rfl rfl rfl rfl rfl rfl (by kernel_rfl) (by kernel_rfl) uU9 uU4) nG (by kernel_rfl) (hval 0 _ v0 rfl rfl) h0
 obtain⟨x1,hx1,hn1⟩:=AN uU9 (hval 1 _ v1 rfl rfl) h1
 subst hx1
 obtain⟨x2,hx2,hn2⟩:=AN uU9 (hval 2 _ v2 rfl rfl) h2
 subst hx2
 obtain⟨x3,hx3⟩:=open_u8 uU5 (hval 3 _ v3 rfl rfl) h3
 subst hx3
 exact Fp nD (by kernel_rfl) rfl uU4 rfl rfl hW' (xz W v0 x0 hx0 hn0 x1 x2 x3)
theorem fG{a b:Bool}(h:a=true)(k:b=true):(a&&b)=true:=by rw[h,k];rfl
theorem xA:mapsRowed Tryz.prog=true:=by kernel_rfl
theorem wY:(Rows.storeScansRow.inPlace==Tryz.prog.inPlace 15)=true:=by kernel_rfl
theorem wX:(Rows.storeScansRow.unfollowed==Tryz.prog.unfollowed 15)=true:=by kernel_rfl
theorem wW:(Rows.storeScansRow.recurses==Tryz.prog.recurses 15)=true:=by kernel_rfl
theorem wV:(Rows.storeScansRow.named==Tryz.prog.varsNamed 15)=true:=by kernel_rfl
theorem wU:(Rows.storeScansRow.plainKeys==Tryz.prog.plainKeys)=true:=by kernel_rfl
theorem wR:(Rows.storeScansRow.lifted==Tryz.prog.liftsFinal)=true:=by kernel_rfl
theorem wT:Tryz.prog.stopsHeard=true:=by kernel_rfl
theorem wS:Tryz.prog.mayEnter=true:=by kernel_rfl
theorem th:Tryz.prog.funcNamed Rows.storeScansRow.func=some 15:=by kernel_rfl
theorem u6:Tryz.f15.isInstance Tryz.prog Rows.storeScansRow.origin Rows.storeScansRow.targs:=of_decide_eq_true (by kernel_rfl)
theorem u5:Tryz.f15.isWrapper Tryz.prog Rows.storeScansRow.wrapper Rows.storeScansRow.mainSum:=by unfold Func.isWrapper;first|(rw[if_pos (by decide +kernel)];kernel_rfl)|(rw[if_neg (by decide +kernel)];exact⟨rfl,rfl⟩)
theorem sf:joinedFacts Tryz.prog 15 Tryz.f15 Rows.storeScansSpec Rows.storeScansRow=true:=by
 unfold joinedFacts
 exact fG (fG (fG (fG (fG (fG (fG (fG (fG (fG (fG (fG (fG (fG (fG (fG (fG (fG (fG (fG (fG (fG (fG (fG (fG (fG (fG (fG (fG (fG (fG (by kernel_rfl) nD) xA) (by kernel_rfl)) (by kernel_rfl)) (by kernel_rfl)) (by kernel_rfl)) (by kernel_rfl)) (by kernel_rfl)) wY) wX) wW) wV) (by kernel_rfl)) (by kernel_rfl)) (by kernel_rfl)) (by kernel_rfl)) (by kernel_rfl)) (by kernel_rfl)) (by kernel_rfl)) (by kernel_rfl)) (by kernel_rfl)) wU) (by kernel_rfl)) wT) wS) wR) (by kernel_rfl)) (by kernel_rfl)) (by kernel_rfl)) (by kernel_rfl)) (by kernel_rfl)
theorem StoreScans_holds:Rows.StoreScansSaid :=
 OpenClaim.holds_of_wide 15 Tryz.f15 rfl rfl rfl rfl rfl rfl rfl ⟨rfl,rfl,rfl,rfl,rfl⟩ rfl rfl rfl rfl rfl th Tryz.func15 sf u6 u5
  (fun os started H enc _=>sd os started H enc)
end Go.Proofs.YtpbfapbajmdlkaaGreat

