/- Opened as often as one likes, by whatever key it was made, it is as it was; made anew it is empty. It holds for every input; there are no conditions. -/
import Derived.Test.YtpbfapbajmdlkaaGreatQ3
import Derived.Test.YtpbfapbajmdlkaaGreatSac2
import Derived.RangeFuncGives
import Derived.Maps.AppendAt
import Derived.Sort.MapsRangeIn
import Derived.WalkKit
import Derived.OwnWalkIn
import Derived.TacticsInMore
import Derived.RegionIn
import Derived.LoopNIn
import Derived.LoopIn
import Derived.Test.YtpbfapbajmdlkaaGreatQLaid2
import Derived.Test.YtpbfapbajmdlkaaGreatSac1
namespace Go.Proofs.YtpbfapbajmdlkaaGreat
open Go Go.Sac
set_option maxRecDepth 100000
set_option maxHeartbeats 4000000
def snV(sn:List (Bs×UInt32)):List (Bs×Value):=sn.map λp=>(p.1,.int .u32 p.2.toNat)
theorem vC(sn:List (Bs×UInt32)):(snV sn).map (·.1)=sn.map (·.1):=by unfold snV;rw[fH];rfl
theorem jG(sn:List (Bs×UInt32)):(snV sn).length=sn.length:=dr ..
theorem BI(w:World)(sb mr:Nat)(v0 v1 v3:Value)(sn:List (Bs×UInt32))(hB:Blk w sb [v0,v1,.map (some mr),v3])(hM:MapAt w mr (snV sn))(hl:sn.length<=12) :
  Ret Tryz.prog 35 #[.pointer (some ⟨sb,0,none⟩)] w λv w'=>∃l,Own w' v l/\l.Perm (sn.map (·.1))/\Chg [] w w'/\In v [] w.heap.size:=by
 have hmr:=hM.lt;refine enter [2] Tryz.func35 O O (al O) (zSR (za O (zNR (za O (a6 (aa (zSR (zm O (zn O O (a7 O (a8 dC O oD O O) (a7 O (aD fO O O (hB.c O)) (dO O (oN fO O hM) ?_))))))))))));rintro w1 ⟨hit,hc1,hs1⟩;refine a6 (aq (aX [3,9] (λn vs w'=>∃(left:List (Bs×Value)) (lv:Value) (ns:List Bs),vs=[lv,.pointer (some ⟨w.heap.size,0,none⟩)]/\left.length=n/\IterAt w' w.heap.size mr (snV sn) left/\Own w' lv ns/\(ns++left.map (·.1)).Perm (sn.map (·.1))/\(∀x∈ay lv,w.heap.size<x)/\Chg [] w w'/\w.heap.size<w'.heap.size) (sn.length) ?_ ?_))
 ·exact⟨snV sn,.slice none 0 0,[],rfl,jG _,hit,Own.nil _,by rw[dG,vC],λx hx=>by simp[ay] at hx,hc1,by omega⟩
 ·rintro n vs J w4 ⟨left,lv,ns,rfl,hln,hit4,ho4,hp4,hb4,hc4,hk4⟩;refine aa (ae ?_);have hnl:ns.length+n=sn.length:=by have:=hp4.length_eq;simp only[aF,dr] at this;omega
  refine m9 O (hit4) O ?_ ?_
  ·rintro h0;refine zx O (a6 (aa (aI (rfl) (aO (an (an (aE (aj (zSR (zm O ?_))))))))));subst h0;rw[uK,cE] at hp4;refine ag O C78 (Im ho4 (by have:=hp4.length_eq;rw[dr] at this;omega)) ?_;rintro _ w5 ⟨l,ho5,hp5,hc5⟩;refine zNR (zma O (a6 (zrf ?_)));exact⟨l,ho5,hp5.trans hp4,hc4.t0 hc5 (λx hx=>by have:=hb4 x hx;omega),λx hx=>.inr (by have:=hb4 x hx;omega)⟩
  ·rintro a k v b' w5 hsp hit5 hcur hc5 hs5;refine zx O (a6 (aa (aW (rfl) (zKN (aq (aa (ae ?_)))))));obtain⟨n,rfl⟩:∃z,n=z+1:=⟨n-1,by have:=congrArg List.length hsp;simp only[aF,cg] at this;omega⟩
   have ho5:=ho4.mod hc5 (λx hx hh=>by simp at hh;have:=hb4 x hx;omega);refine a7 O (oP O hcur) (zx O (za O (a6 (ae (zmm O (iO (k) cO I9 O O O (by decide) (by decide) O O O O (ho5) (λ_=>rfl) (by omega) ?_))))));rintro s6 v6 w6 h6;refine za O (bA (ax (aj (aT (n) (bq (by omega) ?_)))));refine⟨a++b',v6,ns++[k],rfl,by have:=congrArg List.length hsp;simp only[aF,cg] at this ⊢;omega,hit5.mod h6.mod (λhh=>by have:=hb4 _ hh;omega) (λhh=>by have:=hb4 _ hh;omega),h6.own,?_,λx hx=>?_,(hc4.t1 hc5 (aM _)).t0 h6.mod (λx hx=>by have:=hb4 x hx;omega),by have:=h6.mod.1;omega⟩
   ·refine List.Perm.trans ?_ hp4;rw[hsp,gi,gi,eV,bP];refine pW _ ?_;exact(List.perm_middle (a:=k) (l₁:=a.map (·.1)) (l₂:=b'.map (·.1))).symm
   ·rcases h6.inn x hx with q|q
    ·exact hb4 x q
    ·omega
theorem sN{α β:Type}(f:α->β):∀{l:List β} {s:List α},l.Perm (s.map f)->∃s':List α,s'.Perm s/\s'.map f=l
 | [], s, h => by
  have:=h.length_eq
  rw[dr] at this;exact⟨[],by rw[kj this.symm],rfl⟩
 | a :: l, s, h => by
  have hob1:=List.mem_map.1 (h.subset cM);obtain⟨p,hp,rfl⟩:=hob1;have hob2:=List.append_of_mem hp;obtain⟨s1,s2,rfl⟩:=hob2;have h2:l.Perm ((s1++s2).map f):=by
   refine List.Perm.cons_inv (a:=f p) (h.trans ?_);rw[gi,eV,gi];exact List.perm_middle
  have hob3:=sN f h2;obtain⟨s',h3,h4⟩:=hob3;exact⟨p::s',(h3.cons p).trans List.perm_middle.symm,by rw[eV,h4]⟩
def snB(p:Bs×UInt32):Bs:=txt p.1++be 4 p.2.toNat
def gY(l:List (Bs×UInt32)):Bs:=be 1 l.length++l.flatMap snB
theorem kO(l:List (Bs×UInt32))(h:∀p∈l,p.1.length<=10):(gY l).length<=1+16*l.length:=by
 unfold gY;rw[aF,aP]
 have:(l.flatMap snB).length<=16*l.length:=by
  induction l with
  | nil => simp
  | cons p l ih =>
   have h1:=ih (λq hq=>h q (bN _ hq));have h2:=h p cM;rw[pT,aF,cg];unfold snB;rw[aF,ig,aP];unfold snB at h1;omega
 omega
theorem E5(w:World)(sb mr:Nat)(v0 v1 v3:Value)(sn:List (Bs×UInt32))(hB:Blk w sb [v0,v1,.map (some mr),v3])(hM:MapAt w mr (snV sn))(hl:sn.length<=12)(h10:∀p∈sn,p.1.length<=10) :
  Ret Tryz.prog 71 #[.pointer (some ⟨sb,0,none⟩)] w λv w'=>∃l,l.Perm sn/\v=str (gY l)/\Chg [] w w':=by
 have hsb:=hB.lt;have hmr:=hM.lt;have hn64:(dm (sn.length:Int)).toNat=sn.length:=by rw[dR,mK (show sn.length<18446744073709551616 by omega)]
 refine enter [2] Tryz.func71 O O (al O) (zSR (za O (zNR (zm O (zn O O (a7 O (a8 dC O oD O O) (a7 O (aD fO O O (hB.c O)) (a7 O (bG (xM fO O hM) (congrArg (λn:Nat=>Value.int .i64 n) (jG sn))) ?_))))))));refine a7 O (dc O uU3 eA) (ag O nM (gT (.slice none 0 0) [] (dm (sn.length:Int)) 1 w (Own.nil _) (by decide) (by decide)) ?_);rintro v1' w1 ⟨ho1,hc1,hi1⟩;refine za O (a6 (aa (zSR (zm O ?_))));rw[hn64,dG] at ho1;have hc1:Chg [] w w1:=hc1;have hB1:=hB.chg0 hc1;have hM1:=hM.mod hc1 (by simp);have hb1:∀x∈ay v1',w.heap.size<=x:=hi1.ge;refine ag O C35 (BI w1 sb mr v0 v1 v3 sn hB1 hM1 hl) ?_;rintro nv w2 ⟨ns,ho2,hp2,hc2,hi2⟩;have hob4:=sN (λp:Bs×UInt32=>p.1) hp2;obtain⟨l,hpl,hlm⟩:=hob4;have hnl:ns.length=l.length:=by rw[<-hlm,dr]
 have hob5:=ho2.form (n:=l.length) hnl;obtain⟨pn,cn,rfl⟩:=hob5;refine a7 O (aB O cO) (zm O (a6 (aq (aX [0,3,14,15,16] (λn vs w'=>∃(i:Nat) (bv:Value),vs=[.pointer (some ⟨sb,0,none⟩),bv,.slice pn l.length cn,.int .i64 l.length,.int .i64 i]/\i+n=l.length/\Own w' bv (be 1 sn.length++(l.take i).flatMap snB)/\(∀x∈ay bv,w.heap.size<=x/\x∉ay (.slice pn l.length cn))/\Own w' (.slice pn l.length cn) ns/\Chg [] w w') (l.length) ?_ ?_))))
 ·exact⟨0,v1',rfl,by omega,by rw[mQ,yU,cE];exact ho1.mod0 hc2,λx hx=>⟨hb1 x hx,λhh=>by have:=hi2.ge x hh;have:=ho1.sl.lt x hx;omega⟩,ho2,hc1.tr hc2⟩
 ·rintro n vs J w3 ⟨i,bv,rfl,hin,ho3,hb3,hn3,hc3⟩;refine zSR (a7 O (bK O O) ?_);refine a6 (aa (aA O (λhlt=>?_) (λhlt=>?_)))
  ·refine zKN (aa (aq (aa (ae ?_))));have hob6:∃z,n=z+1:=⟨n-1,by omega⟩
   obtain⟨n,rfl⟩:=hob6;have hob7:∃p,l[i]?=some p:=⟨l[i]'(by omega),bM _⟩
   obtain⟨p,hp⟩:=hob7;have hpm:p∈sn:=hpl.subset (j1 hp);have hns:ns[i]?=some p.1:=by rw[<-hlm,mJ,hp];rfl
   have hp10:=h10 p hpm;have hle:=hpl.length_eq;have hB3:=hB.chg0 hc3;have hM3:=hM.mod hc3 (by simp);have hlook:(cB p.1 (snV sn)).getD (.int .u32 0)=.int .u32 p.2.toNat:=by
    rw[(fo hM.nodup).2 (List.mem_map.2 ⟨p,hpm,rfl⟩)];rfl
   have hpre:((l.take i).flatMap snB).length<=16*12:=by
    have:=kO (l.take i) (λq hq=>h10 q (hpl.subset (BQ hq)))
    unfold gY at this;rw[aF,aP,bz] at this
    have:=hpl.length_eq
    omega
   refine bD O (aS (i) cO I9 O (hn3.sl) O O (by first|rfl|omega) (by omega)) ?_;rintro _ ⟨bi,oi,rfl,hei,hbi⟩;refine a7 O (aD uU9 O O (((hn3.sl.at hei hns).c0 O))) (za O (a6 (aH bx (.pure 0 (.pure 1 (.pure 3 (.pure 4 (.pure 5 (.read 6 (.pure 7 (.read 8 (.pure 9 (.eff 2 [6,8] (.eff 10 [] (.pure 11 .nil)))))))))))) (by kernel_rfl) ?_)));refine ym O (ym O (ym O (yn O (yp O (λ_=>(a8 dC O oD O O)) ?_))));refine aG O O O fO O O (hB3.c O) (ym O (dE O O O (λw'=>MapAt w' mr (snV sn)) (hM3) (λw1 h1=>bG (fk (k:=p.1) fO (gO uU9) I25 O O O h1) hlook) ?_));refine yp O (λ_=>(dc O bu eA)) ?_;refine ycl O IF ((sr _ bv (be 1 sn.length++(l.take i).flatMap snB) p.1 (ho3.mod0 (drw _)) (by rw[aF,aP];omega) (by omega) :)) ?_;rintro v4 w4 ⟨ho4,hc4,hi4⟩;have hc4:Chg (ay bv) w3 w4:=(drw w3).tr0' hc4;have hsn:sb∉ay bv:=λhh=>by have:=(hb3 sb hh).1;omega
   have hmn:mr∉ay bv:=λhh=>by have:=(hb3 mr hh).1;omega
   refine⟨⟨(hB3.chg hc4 hsn).c rfl,hM3.mod hc4 hmn,trivial⟩,?_⟩;have h64:(dm (p.2.toNat:Int)).toNat=p.2.toNat:=by rw[dR,mK (show p.2.toNat<18446744073709551616 by have:=p.2.toNat_lt;omega)]
   have hin4:∀x∈ay v4,w.heap.size<=x/\x∉ay (.slice pn l.length cn):=λx hx=>by
    rcases hi4 x hx with q|q
    ·exact hb3 x q
    ·have q:w3.heap.size<=x:=q;exact⟨by have:=hc3.1;omega,λhh=>by have:=hn3.sl.lt x hh;omega⟩
   refine ycl O nM ((gT v4 _ (dm (p.2.toNat:Int)) 4 w4 ho4 (by decide) (by simp only[aF,aP];omega) :)) ?_;rintro v5 w5 ⟨ho5,hc5,hi5⟩;refine⟨trivial,?_⟩;refine ya O (ez (ax (aj (ae (a7 O (aC O O (by omega)) (zm O ?_))))));refine a6 ?_;rw[h64] at ho5;have hn4:=(hn3.mod hc4 (λx hx hh=>(hb3 x hh).2 hx)).mod hc5 (λx hx hh=>(hin4 x hh).2 hx);refine aT (n) (bq (by omega) ?_);refine⟨i+1,v5,rfl,by omega,?_,λx hx=>?_,hn4,(hc3.t0 hc4 (λx hx=>(hb3 x hx).1)).t0 hc5 (λx hx=>(hin4 x hx).1)⟩
   ·have e:(l.take (i+1)).flatMap snB=(l.take i).flatMap snB++snB p:=by rw[gU,hp];simp
    have e2:snB p=(be 2 p.1.length++p.1)++be 4 p.2.toNat:=rfl;rw[e,e2]
    simpa [List.append_assoc] using ho5
   ·rcases hi5 x hx with q|q
    ·exact hin4 x q
    ·exact⟨by have:=hc3.1;have:=hc4.1;omega,λhh=>by have:=hn3.sl.lt x hh;have:=hc4.1;omega⟩
  ·refine aO (an (an (aE (aj (zSR (zm O ?_))))));have hil:i=l.length:=by omega
   subst hil;rw[cX,<-hpl.length_eq] at ho3;refine a7 O (qV bg uU5 uU9 ho3.sl O) (za O (a6 (zrf ?_)));exact⟨l,hpl,rfl,hc3⟩
theorem wz(w:World)(lv:Value)(l:List Wr)(hl:Sl w lv l)(hl2:l.length<=100000) :
  Ret Tryz.prog 72 #[lv] w λv w'=>v=.bool (isB l)/\Chg [] w w':=by
 obtain⟨pl,cl,rfl⟩:=hl.form rfl;refine enter [2] Tryz.func72 O O (al O) (zSR (za O (a6 (aa (zSR (zmv O (aB O nJ) (zm O (a6 (aq (aX [0,7,8,9] (λn vs w'=>∃i:Nat,vs=[.slice pl l.length cl,.slice pl l.length cl,.int .i64 l.length,.int .i64 i]/\i+n=l.length/\(l.take i).all Wr.good=true/\Chg [] w w') (l.length) ?_ ?_))))))))))
 ·exact⟨0,rfl,by omega,rfl,Chg.refl _⟩
 ·rintro n vs J w1 ⟨i,rfl,hin,hall,hc1⟩;refine zSR (a7 O (bK O O) ?_);refine a6 (aa ?_);have hl1:=hl.mod0 hc1;refine aA O (λhlt=>?_) (λhlt=>?_)
  ·refine zKN (aa (aq (aa (ae ?_))));have hob1:∃z,n=z+1:=⟨n-1,by omega⟩
   obtain⟨n,rfl⟩:=hob1;have hob2:∃a,l[i]?=some a:=⟨l[i]'(by omega),bM _⟩
   obtain⟨a,ha⟩:=hob2;refine bD O (aS (i) nJ I66 O (hl1) O O (by first|rfl|omega) (by omega)) ?_;rintro _ ⟨bi,oi,rfl,hei,hbi⟩;refine a7 O (cK mW O I66 O (hl1.at hei ha) O) (aY O (dt (l:=[str [],str [],.bool false]) I66 O O) ?_);rintro _ w2 ⟨ab,rfl,hn2,hB2,hc2,hl2'⟩;refine aQ O (cH (l:=[str a.k,str a.v,.bool a.d]) I66 O O (hB2) O (rfl) (aM 3) (Flat.cell a) (rfl)) ?_;rintro w3 ⟨hB3,hc3,hs3⟩;refine zNR (a7 O (a8 mW O I9 O O) ?_);have hB3:Blk w3 ab [str a.k,str a.v,.bool a.d]:=hB3;have hc13:Chg [] w1 w3:=hc2.t1 hc3 hn2;have hno:∀{g:Bool},a.good=g->g=false->isB l=false:=λh1 h2=>by
    subst h2;unfold isB
    have:l.all Wr.good=false:=List.all_eq_false.2 ⟨a,j1 ha,by rw[h1];simp⟩
    rw[this];rfl
   have hall2:a.good=true->(l.take (i+1)).all Wr.good=true:=λh1=>by
    rw[gU,ha,BU,hall];simp[h1]
   refine a7 O (aD uU9 O O (hB3.c O)) (a7 O (a8 mW O I9 O O) (a7 O (aD uU9 O O (hB3.c O)) (a7 O (bW iM I49 O (zs:=[str [],str []]) O O (bR O O O (al O) (bR O O O (al O) (eb (cs':=[str a.k,str a.v]) O)))) ?_)));refine aY O (qU a.pr df I49 O O O O O (by decide)) ?_;rintro _ w4 ⟨b4,rfl,hB4,hn4,hc4,hl4⟩;refine ag O C96 (uG w4 _ [a.pr] (Blk.sl1 hB4) (show 1<=400 by decide)) ?_;rintro v5 w5 ⟨hc5,hr5⟩;have hc15:Chg [] w1 w5:=hc13.tr (hc4.tr hc5);have hB5:=(hB3.chg0 hc4).chg0 hc5;have hpr:fU [a.pr]↔oc a.pr:=⟨λh=>h.1 _ (by simp),λh=>⟨λp hp=>by simp at hp;subst hp;exact h,zh ..⟩⟩
   have hz:oc a.pr->cT [a.pr]<=480:=λh=>by rw[iF];have:=h.1.2;have:=h.2;omega
   have hgd:a.good=(decide (oc a.pr) && !(a.d&&decide (a.v≠[]))):=by
    unfold Wr.good oc mD;congr 1;rw[qI,decide_eq_true_iff,decide_eq_true_iff];exact⟨λh=>⟨⟨h.1,h.2.1⟩,h.2.2⟩,λh=>⟨h.1.1,h.1.2,h.2⟩⟩
   rcases hr5 with⟨q,rfl⟩|⟨q,q2,rfl⟩|⟨q,bv,rfl,ho5,hi5⟩
   ·refine zm O (zx O (zx O (zaa O (zNR (zmv O (bG (bV O O) (congrArg Value.bool (decide_eq_true ((by decide:(90:Int)≠0))))) ?_)))));refine zm O (aw O O (aw O O (aw O O (aw O O (aw O O (aw O O (aw O O (a7 O (aN O) (a6 (aW (rfl) (zSR (za O (a6 (bC (aR (aL (aL (aR (aL (cV ?_))))))))))))))))))));have hgf:a.good=false:=by rw[hgd,decide_eq_false (λh=>q (hpr.2 h))];rfl
    exact⟨congrArg Value.bool (hno hgf O).symm,hc1.tr hc15⟩
   ·exact absurd (hz (hpr.1 q)) (by omega)
   ·refine zm O (zx O (zx O (zaa O (zNR (zmv O (bG (bV O O) (congrArg Value.bool (decide_eq_false (λh=>h O)))) ?_)))));refine zm O (ah O (a7 O (a8 mW O I4 O O) (ah O ?_)));have hp:=hpr.1 q.1;by_cases hd:a.d=true
    ·have hB6:Blk w5 ab [str a.k,str a.v,.bool true]:=by rw[<-hd];exact hB5
     refine a7 O (aD uU4 O O (hB6.c O)) (ah O (zm O (ah O (a7 O (a8 mW O I9 O O) (ah O (a7 O (aD uU9 O O (hB6.c O)) (ah O (a7 O (tw O O) (ah O (a7 O (aN O) (a7 O (aK O) (a6 (aA O (λhv=>?_) (λhv=>?_))))))))))))))
     ·refine zSR (za O (a6 (bC (aR (aL (aL (aR (aL (cV ?_)))))))));have hgf:a.good=false:=by rw[hgd,hd,decide_eq_true hv];simp
      exact⟨congrArg Value.bool (hno hgf O).symm,hc1.tr hc15⟩
     ·refine bQ (ax (aj (ae (a7 O (aC O O (by omega)) (zm O ?_)))));refine a6 ?_;have hgt:a.good=true:=by rw[hgd,hd,decide_eq_false hv,decide_eq_true hp];rfl
      refine aT (n) (bq (by omega) ?_);exact⟨i+1,rfl,by omega,hall2 hgt,hc1.tr hc15⟩
    ·have hd:a.d=false:=by simpa using hd
     have hB6:Blk w5 ab [str a.k,str a.v,.bool false]:=by rw[<-hd];exact hB5
     refine a7 O (aD uU4 O O (hB6.c O)) (ah O (zm O (aw O O (aw O O (aw O O (ah O (a7 O (aK O) (a7 O (aK O) (a6 (aI (rfl) (bQ (ax (aj (ae (a7 O (aC O O (by omega)) (zm O ?_))))))))))))))));refine a6 ?_;have hgt:a.good=true:=by rw[hgd,hd,decide_eq_true hp];rfl
     refine aT (n) (bq (by omega) ?_);exact⟨i+1,rfl,by omega,hall2 hgt,hc1.tr hc15⟩
  ·refine aO (an (an (aE (aj (zSR (zmv O (aB O nJ) ?_))))));have hil:i=l.length:=by omega
   subst hil;rw[cX] at hall;have hres:∀g:Bool,g=(decide (1<=l.length)&&decide (l.length<=40))->Value.bool g=Value.bool (isB l):=λg h=>by
    rw[h];unfold isB;rw[hall,j4]
   by_cases h1:1<=l.length
   ·refine a7 O (bG (fC O O) (bT (by omega))) ?_;refine zm O (ah O (zm O (ah O (a7 O (aB O nJ) (ah O (a7 O (fN O O) (a7 O (aN O) (za O (a6 (zrf ?_))))))))));refine⟨hres _ ?_,hc1⟩;rw[decide_eq_true h1,j4,qI,decide_eq_true_iff,decide_eq_true_iff];omega
   ·refine a7 O (bG (fC O O) (bF (by omega))) ?_;refine zm O (aw O O (aw O O (aw O O (a7 O (aK O) (za O (a6 (zrf ?_)))))));exact⟨hres _ (by rw[decide_eq_false h1];rfl),hc1⟩
theorem F1{P:Pg}{n:Nat}(h:∀x,P.free x=true):fQ P n=n:=by
 unfold fQ;rw[List.filter_eq_self.2 (λi _=>h _),List.length_range]
structure TR(c:TC)(w:World)(s:TP)(root:UInt32)(d:Nat)(pg:List UInt32)(m:List Pr):Prop where
 at_:c.pg w s
 tree:isT s.V d root pg m
 wr:∀x∈pg,s.P.now.written x=true
 nd:pg.Nodup
def V0:UInt32->Bs:=λ_=>[]
def key0:List UInt8:=List.replicate 32 0
def nameB(n:UInt16):Bs:=[107,u6 ((n.toNat / 256:Nat):Int),u6 (n.toNat:Int)]
section
variable {c:TC}{w w':World}{s s':TP}{root id:UInt32}{d d':Nat}{pg pg' made gone:List UInt32}{m m':List Pr}
theorem TR.ext(h:TR c w s root d pg m)(hp:c.pg w' s')(hx:Ext c.n s.P s'.P s.V s'.V made):TR c w' s' root d pg m :=
 ⟨hp,iW h.tree (λx hx'=>hx.old x (h.wr x hx')),λx hx'=>hx.wr (h.wr x hx'),h.nd⟩
theorem TR.chg0(h:TR c w s root d pg m)(hm:Chg [] w w'):TR c w' s root d pg m:=⟨h.at_.chg0 hm,h.tree,h.wr,h.nd⟩
theorem TR.chg{S:List Nat}(h:TR c w s root d pg m)(hm:Chg S w w')(hn:∀x∈c.F,x∉S)(hs:∀x∈S,c.w0.heap.size<=x):TR c w' s root d pg m:=⟨h.at_.chg hm hn hs,h.tree,h.wr,h.nd⟩
theorem TR.step(h:TR c w s root d pg m)(hp:c.pg w' s')(hx:Ext c.n s.P s'.P s.V s'.V made)(ht:isT s'.V d' id pg' m')(hm:(pg'++gone).Perm (pg++made)):TR c w' s' id d' pg' m':=by
 have hmem:∀x∈pg',x∈pg∨x∈made:=λx hx'=>List.mem_append.1 (hm.mem_iff.1 (cL _ hx'));have hnd:(pg++made).Nodup:=by
  rw[kh];exact⟨h.nd,hx.nodup,λa ha b hb e=>by
   subst e;have h1:=h.at_.wu (h.wr a ha);have h2:=(hx.new a hb).1;unfold Pg.free at h2;rw[h1] at h2;simp at h2⟩
 refine⟨hp,ht,λx hx'=>?_,(List.nodup_append.1 (hm.nodup_iff.2 hnd)).1⟩;rcases hmem x hx' with q|q
 ·exact hx.wr (h.wr x q)
 ·exact(hx.mem q).2
def PutT(c:TC)(s:TP)(d:Nat)(m':List Pr)(w':World)(r:Value->Value->Value)(ra:Value):Prop :=
 (ra=r (.int .u32 0) (.int .i64 70)/\∃s',c.pg w' s'/\Ext c.n s.P s'.P s.V s'.V []/\s'.k<=s.k+2*d+3/\fQ s.P c.n<=2*(d+1)) ∨
 ∃(id:UInt32) (d':Nat) (pg' made:List UInt32) (s':TP),ra=r (.int .u32 id.toNat) (.int .i64 0)/\TR c w' s' id d' pg' m'/\Ext c.n s.P s'.P s.V s'.V made/\s'.k<=s.k+2*d+3/\made.length<=2*d+3/\d'<=d+1/\(d=0->cT m'<=480->made.length<=1/\d'=0)
theorem PutR.t{r:Value->Value->Value}{ra:Value}(h:TR c w s root d pg m)(hr:PutR c s d pg m' r ra (s.k+2*d+3) w'):PutT c s d m' w' r ra:=by
 rcases hr with⟨h1,⟨s',h2,h3,h4⟩,h5⟩|⟨id,d',pg',made,gone,s',q1,q2,q3,q4,q5,q6,q7,q8,q9,_⟩
 ·exact .inl ⟨h1,s',h2,h3,h4,h5⟩
 ·exact .inr ⟨id,d',pg',made,s',q1,h.step q2 q3 q7 q8,q3,q4,q5,q6,q9⟩
theorem put9(h:TR c w s root d pg m){p:Pr}(hp:oc p)(hd:d<=40)(hk:s.k+2*d+3<=40000) :
  Ret Tryz.prog 20 #[c.pv,.int .u32 root.toNat,str p.1,str p.2] w λr w'=>PutT c s d (g0 m p) w' (λa e=>.tuple #[a,e]) r/\Chg c.F w w':=by
 refine(TPut_ok c w s root d pg m p h.at_ h.tree h.wr hd hk).mono ?_;rintro r w' ⟨⟨q,_⟩|⟨_,hr⟩,hc⟩
 ·exact absurd hp q
 ·exact⟨hr.t h,hc⟩
theorem put9s(h:TR c w s root 0 pg m){p:Pr}(hp:oc p)(hz:cT (g0 m p)<=480)(hr:2<fQ s.P c.n)(hk:s.k+3<=40000) :
  Ret Tryz.prog 20 #[c.pv,.int .u32 root.toNat,str p.1,str p.2] w λr w'=>(∃(id:UInt32) (pg' made:List UInt32) (s':TP),r=.tuple #[.int .u32 id.toNat,.int .i64 0]/\TR c w' s' id 0 pg' (g0 m p)/\Ext c.n s.P s'.P s.V s'.V made/\s'.k<=s.k+3/\fQ s.P c.n<=fQ s'.P c.n+1)/\Chg c.F w w':=by
 refine(put9 h hp (by omega) (by omega)).mono ?_;rintro r w' ⟨⟨_,_,_,_,_,q⟩|⟨id,d',pg',made,s',q1,q2,q3,q4,q5,q6,q7⟩,hc⟩
 ·omega
 ·obtain⟨h1,rfl⟩:=q7 rfl hz
  have:=q3.count h.at_.n4.2
  exact⟨⟨id,pg',made,s',q1,q2,q3,by omega,by omega⟩,hc⟩
theorem get9(h:TR c w s root d pg m)(key v:Bs)(b:Bool)(hv:(lW m key).getD []=v)(hb:fA m key=b)(hd:d<=40) :
  Ret Tryz.prog 23 #[c.pv,.int .u32 root.toNat,str key] w λr w'=>r=.tuple #[str v,.bool b,.int .i64 0]/\TR c w' s root d pg m/\Chg [] w w':=by
 subst hv hb;refine(TGet_ok c w s root d pg m key h.at_ h.tree h.wr hd).mono ?_;rintro r w' ⟨q,hc⟩;exact⟨q,h.chg0 hc,hc⟩
theorem len9(h:TR c w s root d pg m)(hd:d<=40)(hm:m.length<=10000) :
  Ret Tryz.prog 27 #[c.pv,.int .u32 root.toNat] w λr w'=>r=.tuple #[.int .i64 m.length,.int .i64 0]/\TR c w' s root d pg m/\Chg [] w w':=by
 refine(TLen_ok c w s root d pg m h.at_ h.tree h.wr hd h.nd hm).mono ?_;rintro r w' ⟨q,hc⟩;exact⟨q,h.chg0 hc,hc⟩
theorem scan9(h:TR c w s root d pg m)(lo hi:Bs)(most:Nat)(hm1:most<=1000)(hd:d<=40)(hm:m.length<=10000) :
  Ret Tryz.prog 21 #[c.pv,.int .u32 root.toNat,str lo,str hi,.int .i64 most] w λr w'=>(∃ov,r=.tuple #[ov,.int .i64 0]/\Own w' ov (vG m lo hi most)/\In ov [] w.heap.size)/\TR c w' s root d pg m/\Chg [] w w':=by
 by_cases hm0:most=0
 ·subst hm0;refine(Il w c.pv root lo hi 0 (Int.le_refl _)).mono ?_;rintro r w' ⟨rfl,rfl⟩;exact⟨⟨_,rfl,Own.nil _,λx hx=>by simp[ay] at hx⟩,h,Chg.refl _⟩
 ·refine(BF c w s root d pg m lo hi most (by omega) (by omega) h.at_ h.tree h.wr hd h.nd hm).mono ?_;rintro r w' ⟨q,hc⟩;exact⟨q,h.chg0 hc,hc⟩
theorem TR.room(h:TR c w s root d pg m) :
  Ret Tryz.prog 26 #[c.pv] w λr w'=>r=.int .i64 (fQ s.P c.n)/\TR c w' s root d pg m/\Chg [] w w':=by
 refine(GZ h.at_).mono ?_;rintro r w' ⟨q,q2,hc⟩;exact⟨q,h.chg0 hc,hc⟩
end
structure Bud(c:TC)(s:TP)(i:Nat):Prop where
 k:s.k<=2+3*i
 room:389<=fQ s.P c.n+i
structure SmT(c:TC)(w:World)(s:TP)(id:UInt32)(m:List Pr)(i:Nat):Prop where
 tr:∃pg,TR c w s id 0 pg m
 len:m.length<=i
 small:∀p∈m,p.1.length+p.2.length<=7
section
variable {c:TC}{w w':World}{s s':TP}{id:UInt32}{i j:Nat}{m:List Pr}{made:List UInt32}
theorem TR.now{d:Nat}{pg:List UInt32}(h:TR c w s id d pg m):Chg [] c.w0 w:=PS.now h.at_
theorem SmT.now(h:SmT c w s id m i):Chg [] c.w0 w:=by obtain⟨_,h⟩:=h.tr;exact h.now
theorem SmT.at_(h:SmT c w s id m i):c.pg w s:=by obtain⟨_,h⟩:=h.tr;exact h.at_
theorem SmT.sort(h:SmT c w s id m i):ec m:=by obtain⟨_,h⟩:=h.tr;exact(jg h.tree).2
theorem SmT.ext(h:SmT c w s id m i)(hp:c.pg w' s')(hx:Ext c.n s.P s'.P s.V s'.V made):SmT c w' s' id m i:=by
 obtain⟨⟨pg,h1⟩,h2,h3⟩:=h;exact⟨⟨pg,h1.ext hp hx⟩,h2,h3⟩
theorem SmT.chg0(h:SmT c w s id m i)(hm:Chg [] w w'):SmT c w' s id m i:=by
 obtain⟨⟨pg,h1⟩,h2,h3⟩:=h;exact⟨⟨pg,h1.chg0 hm⟩,h2,h3⟩
theorem SmT.chg{S:List Nat}(h:SmT c w s id m i)(hm:Chg S w w')(hn:∀x∈c.F,x∉S)(hs:∀x∈S,c.w0.heap.size<=x):SmT c w' s id m i:=by
 obtain⟨⟨pg,h1⟩,h2,h3⟩:=h;exact⟨⟨pg,h1.chg hm hn hs⟩,h2,h3⟩
theorem SmT.put(h:SmT c w s id m j)(hb:Bud c s i)(hi:i<=100)(hj:j<=40){p:Pr}(hp:oc p)(h7:p.1.length+p.2.length<=7) :
  Ret Tryz.prog 20 #[c.pv,.int .u32 id.toNat,str p.1,str p.2] w λr w'=>(∃(id':UInt32) (s':TP) (made:List UInt32),r=.tuple #[.int .u32 id'.toNat,.int .i64 0]/\SmT c w' s' id' (g0 m p) (j+1)/\Bud c s' (i+1)/\Ext c.n s.P s'.P s.V s'.V made)/\Chg c.F w w':=by
 have hs:=h.sort;obtain⟨⟨pg,h1⟩,h2,h3⟩:=h;have hl:=y8 p hs;have hsm:∀q∈g0 m p,q.1.length+q.2.length<=7:=λq hq=>by
  rcases rC hq with rfl|hq
  ·exact h7
  ·exact h3 q hq
 have hz:=yl hsm;have k1:=hb.k;have k2:=hb.room;refine(put9s h1 hp (by omega) (by omega) (by omega)).mono ?_;rintro r w' ⟨⟨id',pg',made,s',q1,q2,q3,q4,q5⟩,hc⟩;exact⟨⟨id',s',made,q1,⟨⟨pg',q2⟩,by omega,hsm⟩,⟨by omega,by omega⟩,q3⟩,hc⟩
theorem SmT.scan(h:SmT c w s id m j)(hj:j<=100)(lo hi:Bs)(most:Nat)(hm1:most<=1000) :
  Ret Tryz.prog 21 #[c.pv,.int .u32 id.toNat,str lo,str hi,.int .i64 most] w λr w'=>(∃ov,r=.tuple #[ov,.int .i64 0]/\Own w' ov (vG m lo hi most)/\In ov [] w.heap.size)/\SmT c w' s id m j/\Chg [] w w':=by
 obtain⟨⟨pg,h1⟩,h2,h3⟩:=h;refine(scan9 h1 lo hi most hm1 (by decide) (by omega)).mono ?_;rintro r w' ⟨q,q2,hc⟩;exact⟨q,⟨⟨pg,q2⟩,h2,h3⟩,hc⟩
end
theorem id_W{p:Prop}(h:p):p:=h
structure Edt(c:TC)(w:World)(s0 s:TP)(root:UInt32)(d:Nat)(pg:List UInt32)(m:List Pr):Prop where
 tr:TR c w s root d pg m
 kept:s.P.kept=s0.P.kept
 old:∀x,s0.P.now.written x=true->s.P.now.written x=true/\s.V x=s0.V x
 used:∀x,s.P.now.used x=true->s0.P.now.used x=true∨x∈pg
def Com(s:TP):Prop:=(∀x,s.P.kept.used x=s.P.now.used x)/\(∀x,s.P.kept.written x=s.P.now.written x)/\∀x,s.P.now.written x=true->s.P.now.used x=true
structure Frd(s s':TP)(L:List UInt32):Prop where
 used:∀x,s'.P.now.used x=(s.P.now.used x && !(L.elem x&&s.P.fresh x))
 writ:∀x,s'.P.now.written x=(s.P.now.written x && !(L.elem x&&s.P.fresh x))
 kept:s'.P.kept=s.P.kept
 v:s'.V=s.V
 k:s'.k=s.k
def updW(m:List Pr)(a:Wr):List Pr:=if a.d=true then kz m a.k else g0 m a.pr
def WrD(c:TC)(w':World)(s s':TP)(d:Nat)(pg gone:List UInt32)(id:UInt32)(d':Nat)(pg':List UInt32)(m':List Pr):Prop :=
 c.pg w' s'/\∃made,Ext c.n s.P s'.P s.V s'.V made/\isT s'.V d' id pg' m'/\(pg'++gone).Perm (pg++made)/\s'.k<=s.k+2*d+3/\d'<=d+1
section
variable {c:TC}{w w':World}{s0 s s1 s':TP}{root id:UInt32}{d d':Nat}{pg pg' gone L:List UInt32}{m m':List Pr}
theorem Frd.nil(s:TP):Frd s s []:=⟨λx=>by simp,λx=>by simp,rfl,rfl,rfl⟩
theorem Frd.fresh(h:Frd s s' L){x:UInt32}(hx:x∉L):s'.P.fresh x=s.P.fresh x:=by
 unfold Pg.fresh;have e:L.elem x=false:=by simpa using hx
 rw[h.used,h.kept,e,Bool.false_and,sE,Bool.and_true]
theorem TR.dis(h:TR c w s root d pg m){made:List UInt32}(hx:Ext c.n s.P s'.P s.V s'.V made):(pg++made).Nodup:=by
 rw[kh];exact⟨h.nd,hx.nodup,λa ha b hb e=>by
  subst e;have h1:=h.at_.wu (h.wr a ha);have h2:=(hx.new a hb).1;unfold Pg.free at h2;rw[h1] at h2;simp at h2⟩
theorem Edt.write{w2:World}(h:Edt c w s0 s root d pg m)(hc:Com s0)(hd:WrD c w2 s s1 d pg gone id d' pg' m')(hf:Frd s1 s' gone)(hp:c.pg w' s'):Edt c w' s0 s' id d' pg' m':=by
 obtain⟨h1,made,hx,ht,hpm,_,_⟩:=hd;have hnd:=hpm.nodup_iff.2 (h.tr.dis hx);have hdis:∀x∈pg',x∉gone:=λx hx' hg=>by
  have:=List.nodup_append.1 hnd
  exact this.2.2 x hx' x hg O
 have hr1:=h.tr.step h1 hx ht hpm;have hnf:∀x,s0.P.now.used x=true->s1.P.fresh x=false:=λx hx'=>by
  unfold Pg.fresh;rw[show s1.P.kept=s0.P.kept from hx.kept.trans h.kept,hc.1 x,hx'];simp
 refine⟨⟨hp,by rw[hf.v];exact ht,λx hx'=>?_,hr1.nd⟩,hf.kept.trans (hx.kept.trans h.kept),λx hx'=>?_,λx hx'=>?_⟩
 ·have e:gone.elem x=false:=by simpa using hdis x hx'
  rw[hf.writ,hr1.wr x hx',e];rfl
 ·have q:=h.old x hx';refine⟨?_,by rw[hf.v,hx.old x q.1];exact q.2⟩;have hu:s0.P.now.used x=true:=hc.2.2 x hx';rw[hf.writ,hx.wr q.1,hnf x hu];simp
 ·rw[hf.used,j9] at hx';obtain⟨q1,q2⟩:=hx';have hmem:x∈pg++made->s0.P.now.used x=true∨x∈pg':=λhm=>by
   rcases List.mem_append.1 (hpm.symm.subset hm) with g|g
   ·exact .inr g
   ·refine .inl ?_;have e:gone.elem x=true:=by simpa using g
    rw[e,j4,xK] at q2;unfold Pg.fresh at q2;rw[q1,show s1.P.kept=s0.P.kept from hx.kept.trans h.kept,hc.1 x] at q2
    simpa using q2
  rw[hx.used] at q1;rcases Bool.or_eq_true_iff.1 q1 with g|g
  ·exact hmem (cf _ (by simpa using g))
  ·rcases h.used x g with g2|g2
   ·exact .inl g2
   ·exact hmem (cL _ g2)
theorem G0(h:c.pg w s)(i:UInt32) :
  Ret Tryz.prog 127 #[c.pv,.int .u32 i.toNat] w λv w'=>v=.bool (s.P.fresh i)/\Chg [] w w':=by
 refine(x8 w c.R c.b c.key h.2.2.2.2 s.P h.2.1 i).mono ?_;rintro v w' ⟨rfl,hh⟩;exact⟨rfl,Chg.heap hh⟩
theorem G1(h:c.pg w s)(hf:Frd s1 s L)(x:UInt32)(hx:x∉L)(hfr:s1.P.fresh x=true) :
  Ret Tryz.prog 128 #[c.pv,.int .u32 x.toNat] w λ_ w'=>(∃s',c.pg w' s'/\Frd s1 s' (L++[x]))/\Chg c.F w w':=by
 have hfr2:s.P.fresh x=true:=by rw[hf.fresh hx];exact hfr
 have hu:s.P.now.used x=true:=by unfold Pg.fresh at hfr2;exact(Bool.and_eq_true_iff.1 hfr2).1
 refine(wF h x hu).mono ?_;rintro v w' ⟨_,hS,hc⟩;refine⟨⟨⟨s.k,s.ds,{ s.P with now:={ s.P.now with used:=eS s.P.now.used x,written:=eS s.P.now.written x } },s.V⟩,hS,⟨λy=>?_,λy=>?_,hf.kept,hf.v,hf.k⟩⟩,hc⟩
 ·show eS s.P.now.used x y=_;unfold eS;rw[hf.used];by_cases e:y=x
  ·subst e;simp[hfr]
  ·simp[e]
 ·show eS s.P.now.written x y=_;unfold eS;rw[hf.writ];by_cases e:y=x
  ·subst e;simp[hfr]
  ·simp[e]
theorem Frd.skip(hf:Frd s1 s L){x:UInt32}(hfr:s1.P.fresh x=false):Frd s1 s (L++[x]):=by
 refine⟨λy=>?_,λy=>?_,hf.kept,hf.v,hf.k⟩
 ·rw[hf.used];by_cases e:y=x
  ·subst e;simp[hfr]
  ·simp[e]
 ·rw[hf.writ];by_cases e:y=x
  ·subst e;simp[hfr]
  ·simp[e]
end
def WrE(m:List Pr)(a:Wr)(R:Prop)(e:Int)(m':List Pr):Prop:=(e=0/\m'=updW m a)∨(e=70/\m'=m/\R)
theorem Gx(c:TC)(w:World)(s0 s:TP)(root:UInt32)(d:Nat)(pg:List UInt32)(m:List Pr)(a:Wr)(sb:Nat)(v1 v2 v3:Value)(h:Edt c w s0 s root d pg m)(h0:Com s0)(hB:Blk w sb [c.pv,v1,v2,v3])(hsb:sb∉c.F)(hg:a.good=true)(hd:d<=40)(hk:s.k+2*d+3<=40000) :
  Ret Tryz.prog 73 #[.pointer (some ⟨sb,0,none⟩),.int .u32 root.toNat,.agg #[str a.k,str a.v,.bool a.d]] w λr w'=>(∃(id:UInt32) (d':Nat) (pg':List UInt32) (s':TP) (e:Int) (m':List Pr),r=.tuple #[.int .u32 id.toNat,.int .i64 e]/\WrE m a (fQ s.P c.n<=2*(d+1)) e m'/\Edt c w' s0 s' id d' pg' m'/\s'.k<=s.k+2*d+3/\d'<=d+1)/\Chg c.F w w':=by
 have hpr:oc a.pr:=by
  unfold Wr.good at hg
  have:=of_decide_eq_true (Bool.and_eq_true_iff.1 hg).1
  exact⟨⟨this.1,this.2.1⟩,this.2.2⟩
 have hF:=h.tr.at_.lt;refine enter [6,7] Tryz.func73 O O (al O) (zSR (aY O (cZ (l:=[str a.k,str a.v,.bool a.d]) O O) ?_));rintro _ w1 ⟨ab,rfl,han,hA1,hc1,hl1⟩;refine a7 O (gK (v:=.int .u32 ((0:UInt32).toNat:Nat)) O) (za O ?_);refine a6 ?_;have hB1:=hB.chg0 hc1;have h1:=h.tr.chg0 hc1;refine zSR (a7 O (gK (v:=.int .u32 ((0:UInt32).toNat:Nat)) O) ?_);refine zNR (za O (zNR (za O (a6 (dY [0,8,9,10] (λvs w'=>∃(id:UInt32) (gp:Option Addr) (gc:Nat) (d':Nat) (pg' gone:List UInt32) (s1:TP) (e:Int) (m':List Pr),vs=[.pointer (some ⟨sb,0,none⟩),.int .u32 id.toNat,.slice gp gone.length gc,.int .i64 e]/\WrE m a (fQ s.P c.n<=2*(d+1)) e m'/\WrD c w' s s1 d pg gone id d' pg' m'/\gone.length<=2*d+1/\Own w' (.slice gp gone.length gc) gone/\(∀x∈ay (.slice gp gone.length gc),x∉c.F/\w.heap.size<=x)/\Chg c.F w1 w') ?_ ?_)))))
 ·refine zSR (a7 O (a8 mW O I4 O O) ?_);by_cases had:a.d=true
  ·have hA1:Blk w1 ab [str a.k,str a.v,.bool true]:=by rw[<-had];exact hA1
   have hup:updW m a=kz m a.k:=if_pos had;refine a7 O (aD uU4 O O (hA1.c O)) (a6 (aW (rfl) (aH bx (.pure 0 (.pure 1 (.pure 2 (.read 3 (.pure 4 (.pure 5 (.read 6 (.eff 7 [] (.pure 8 (.pure 9 (.pure 10 (.pure 11 (.pure 12 (.pure 13 (.pure 14 (.pure 15 .nil)))))))))))))))) (by kernel_rfl) ?_)));refine ym O (yn O (yp O (λ_=>(a8 dC O I24 O O)) ?_));refine aG O O O ma O O (hB1.c O) (ym O (yp O (λ_=>(a8 mW O I9 O O)) ?_));refine aG O O O uU9 O O (hA1.c O) (ycl O C62 ((Dm c _ s root d pg m a.k (h1.at_.chg0 (drw _)) h1.tree h1.wr hd hk :)) ?_);rintro v2 w2 ⟨hr2,hc2⟩;refine⟨trivial,?_⟩;have hc2:Chg c.F w1 w2:=(drw w1).tr0' hc2;rcases hr2 with⟨hh,rfl,s2,hs2,hx2,hk2⟩|⟨hh,⟨hre,hsm,hroom⟩|⟨id,d2,pg2,made,gone,gv,s2,rfl,q1,q2,q3,q4,q5,q6,q7,q8,q9,q10,q11⟩⟩
   ·refine ym O (yx O (yx O (yx O (yx O (ya O (ya O (ya O (az ?_))))))));refine⟨root,none,0,d,pg,[],s2,0,_,rfl,.inl ⟨rfl,rfl⟩,⟨hs2,[],hx2,?_,.refl _,by omega,by omega⟩,eh _,Own.nil _,λx hx=>by simp[ay] at hx,hc2⟩;rw[hup,FE (jg h1.tree).2 hh];exact iW h1.tree (λx hx=>hx2.old x (h1.wr x hx))
   ·obtain⟨s2,hs2,hx2,hk2⟩:=hsm;subst hre;refine ym O (yx O (yx O (yx O (yx O (ya O (ya O (ya O (az ?_))))))));exact⟨root,none,0,d,pg,[],s2,70,m,rfl,.inr ⟨rfl,rfl,hroom⟩,⟨hs2,[],hx2,iW h1.tree (λx hx=>hx2.old x (h1.wr x hx)),.refl _,by omega,by omega⟩,eh _,Own.nil _,λx hx=>by simp[ay] at hx,hc2⟩
   ·have hob1:=q10.form (n:=gone.length) rfl;obtain⟨gp,gc,rfl⟩:=hob1;refine ym O (yx O (yx O (yx O (yx O (ya O (ya O (ya O (az ?_))))))));exact⟨id,gp,gc,d2,pg2,gone,s2,0,_,rfl,.inl ⟨rfl,rfl⟩,⟨q1,made,q2,by rw[hup];exact q6,q7,q3,q5⟩,q9,q10,λx hx=>⟨λhh=>by have:=hF x hh;have q:w1.heap.size<=x:=q11 x hx;have:=hc1.1;omega,by have q:w1.heap.size<=x:=q11 x hx;have:=hc1.1;omega⟩,hc2⟩
  ·have hup:updW m a=g0 m a.pr:=if_neg had;have had:a.d=false:=by simpa using had
   have hA1:Blk w1 ab [str a.k,str a.v,.bool false]:=by rw[<-had];exact hA1
   refine a7 O (aD uU4 O O (hA1.c O)) (a6 (aI (rfl) (aH bx (.pure 0 (.pure 1 (.pure 2 (.read 3 (.pure 4 (.pure 5 (.read 6 (.pure 7 (.read 8 (.eff 9 [] (.pure 10 (.pure 11 (.pure 12 (.pure 13 (.pure 14 (.pure 15 (.pure 16 .nil))))))))))))))))) (by kernel_rfl) ?_)));refine ym O (yn O (yp O (λ_=>(a8 dC O I24 O O)) ?_));refine aG O O O ma O O (hB1.c O) (ym O (yp O (λ_=>(a8 mW O I9 O O)) ?_));refine aG O O O uU9 O O (hA1.c O) (yp O (λ_=>(a8 mW O I9 O O)) ?_);refine aG O O O uU9 O O (hA1.c O) (ycl O C57 ((Ex c _ s root d pg m a.pr (h1.at_.chg0 (drw _)) h1.tree h1.wr hd hk :)) ?_);rintro v2 w2 ⟨hr2,hc2⟩;refine⟨trivial,?_⟩;have hc2:Chg c.F w1 w2:=(drw w1).tr0' hc2;rcases hr2 with⟨hh,_⟩|⟨hh,⟨hre,hsm,hroom⟩|⟨id,d2,pg2,made,gone,gv,s2,rfl,q1,q2,q3,q4,q5,q6,q7,q8,q9,q10,q11⟩⟩
   ·exact absurd hpr hh
   ·obtain⟨s2,hs2,hx2,hk2⟩:=hsm;subst hre;refine ym O (yx O (yx O (yx O (ya O (ya O (ya O (az ?_)))))));exact⟨root,none,0,d,pg,[],s2,70,m,rfl,.inr ⟨rfl,rfl,hroom⟩,⟨hs2,[],hx2,iW h1.tree (λx hx=>hx2.old x (h1.wr x hx)),.refl _,by omega,by omega⟩,eh _,Own.nil _,λx hx=>by simp[ay] at hx,hc2⟩
   ·have hob2:=q10.form (n:=gone.length) rfl;obtain⟨gp,gc,rfl⟩:=hob2;refine ym O (yx O (yx O (yx O (ya O (ya O (ya O (az ?_)))))));exact⟨id,gp,gc,d2,pg2,gone,s2,0,_,rfl,.inl ⟨rfl,rfl⟩,⟨q1,made,q2,by rw[hup];exact q6,q7,q3,q5⟩,q9,q10,λx hx=>⟨λhh=>by have:=hF x hh;have q:w1.heap.size<=x:=q11 x hx;have:=hc1.1;omega,by have q:w1.heap.size<=x:=q11 x hx;have:=hc1.1;omega⟩,hc2⟩
 ·rintro vs J w2 ⟨id,gp,gc,d2,pg2,gone,s1,er,m2,rfl,hWE,hW,hgl,hgo,hgf,hc2⟩;refine aa (zSR (zmv O (aB O aZ) (zm O ?_)));refine a6 (aq ?_);have hsw:=hB.lt;have hob3:=id_W hW;obtain⟨hp1,made,hx1,ht1,hpm1,hk1,hd1⟩:=hob3;have hgn:gone.Nodup:=(List.nodup_append.1 (hpm1.nodup_iff.2 (h.tr.dis hx1))).2.1;have hB2:=hB1.chg hc2 hsb;refine aX [0,8,10,42,43,44] (λn vs w'=>∃(i:Nat) (s':TP),vs=[.pointer (some ⟨sb,0,none⟩),.int .u32 id.toNat,.int .i64 er,.slice gp gone.length gc,.int .i64 gone.length,.int .i64 i]/\i+n=gone.length/\c.pg w' s'/\Frd s1 s' (gone.take i)/\Chg c.F w2 w') (gone.length) ?_ ?_
  ·exact⟨0,s1,rfl,by omega,hp1,Frd.nil _,Chg.refl' _ _⟩
  ·rintro n vs J w3 ⟨i,s3,rfl,hin,hp3,hf3,hc3⟩;refine zSR (a7 O (bK O O) ?_);refine a6 (aa (aA O (λhlt=>?_) (λhlt=>?_)))
   ·refine zKN (aa (aq (aa (ae ?_))));have hob4:∃z,n=z+1:=⟨n-1,by omega⟩
    obtain⟨n,rfl⟩:=hob4;have hob5:∃a,gone[i]?=some a:=⟨gone[i]'(by omega),bM _⟩
    obtain⟨x,hx⟩:=hob5;have htk:gone.take (i+1)=gone.take i++[x]:=by rw[gU,hx];rfl
    have hnx:x∉gone.take i:=by
     have:=hgn.sublist (oI (i+1) gone)
     rw[htk,kh] at this;exact λhh=>this.2.2 x hh x (by simp) O
    have hg3:=hgo.mod hc3 (λx hx=>(hgf x hx).1);have hB3:=hB2.chg hc3 hsb;refine bD O (aS (i) aZ I25 O (hg3.sl) O O (by first|rfl|omega) (by omega)) ?_;rintro _ ⟨bi,oi,rfl,hei,hbi⟩;refine a7 O (aD bu O O (((hg3.sl.at hei hx).c0 O))) (za O (zNR (zm O (zn O O (a7 O (a8 dC O I24 O O) (a7 O (aD ma O O (hB3.c O)) (zm O (ag O C127 (G0 hp3 x) ?_))))))));rintro _ w4 ⟨rfl,hc4⟩;refine a6 ?_;have hfe:=hf3.fresh hnx;refine bX O (λhfx=>?_) (λhfx=>?_)
    ·refine ae (zm O (zn O O (a7 O (a8 dC O I24 O O) ?_)));have hB4:=hB3.chg0 hc4;refine a7 O (aD ma O O (hB4.c O)) (zm O (ag O C128 (G1 (hp3.chg0 hc4) hf3 x hnx (by rw[<-hfe];exact hfx)) ?_));rintro _ w5 ⟨⟨s5,hp5,hf5⟩,hc5⟩;refine bA (ax (aj (ae (a7 O (aC O O (by omega)) (zm O ?_)))));refine a6 (aT (n) (bq (by omega) ?_));exact⟨i+1,s5,rfl,by omega,hp5,by rw[htk];exact hf5,(hc3.tr0 hc4).tr hc5⟩
    ·refine bQ (ax (aj (ae (a7 O (aC O O (by omega)) (zm O ?_)))));refine a6 (aT (n) (bq (by omega) ?_));exact⟨i+1,s3,rfl,by omega,hp3.chg0 hc4,by rw[htk];exact hf3.skip (by rw[<-hfe];exact hfx),hc3.tr0 hc4⟩
   ·refine aO (an (an (aE (aj (zSR (zmm O (zaa O (a6 (zrf ?_)))))))));have hil:i=gone.length:=by omega
    subst hil;rw[cX] at hf3;exact⟨⟨id,d2,pg2,s3,er,m2,rfl,hWE,h.write h0 hW hf3 hp3,by rw[hf3.k];exact hk1,hd1⟩,hc1.tr0' (hc2.tr hc3)⟩
theorem HZ{pv:Option Addr}{n cv:Nat}{l0:List UInt32}{w0 w:World}(h:SPm (.slice pv n cv) l0 w0 w)(hn:l0.length=n)(hm:n<=1000)(a b:Nat)(hab:a+8<=b)(hb:b<=n) :
  Ret Tryz.prog 217 #[.slice pv n cv,.int .i64 a,.int .i64 b] w λ_ w'=>SPm (.slice pv n cv) l0 w0 w':=by
 obtain⟨m,hme⟩:∃m:Nat,m=b-a:=⟨_,rfl⟩
 have hmi:(b:Int)-(a:Int)=(m:Int):=by omega
 obtain⟨q4,hq4⟩:∃z:Nat,z=m / 4:=⟨_,rfl⟩
 have hq4i:(m:Int) / 4=(q4:Int):=by omega
 refine enter [] Tryz.func217 O O (al O) (zSR (zmm O (a7 O (bf O O (by omega)) (za O ?_))));refine zNR (zmv O (fC O O) (a6 ?_));rw[hmi];refine bI O (by omega) ?_;refine zSR (zmv O (dc O uU3 tB) ?_);refine aY O (dt (l:=[.int .u64 0]) Iy O O) ?_;rintro _ w1 ⟨rb,rfl,hrn,hR1,hc1,hl1⟩;refine aQ O (bJ Iy O O (hR1) O O ((by decide:0<1)) O (rfl)) ?_;rintro w2 ⟨hR2,hc2,hs2⟩;refine zNR (zm O ?_);obtain⟨l,ho,hp,hk⟩:=id h;have hrb:rb∉ay (.slice pv n cv):=λhh=>by have:=ho.sl.lt rb hh;omega
 have hrw:w0.heap.size<=rb:=by have:=hk.1;omega
 have h2:SPm (.slice pv n cv) l0 w0 w2:=(h.chg0 hc1).chg1 hc2 hrb hrw;have hR2:Blk w2 rb [.int .u64 ((dm (m:Int)).toNat:Int)]:=hR2;refine ag O C227 (Hv m _ (by omega) (by omega)) ?_;rintro _ w3 ⟨⟨y,rfl,hy1,hy2⟩,rfl⟩;refine za O (zNR (zmm O (a7 O (lG O O (by omega)) (a7 O (fq O O (by omega)) (a7 O (aC O O (by omega)) (a7 O (bf O O (by omega)) (za O ?_)))))));refine a6 (aq ?_);rw[hq4i];have hob1:∃z:Nat,z+1=a+q4*2:=⟨a+q4*2-1,by omega⟩
 obtain⟨i0,hi0⟩:=hob1;have hi0i:(a:Int)+(q4:Int)*2-1=(i0:Int):=by omega
 rw[hi0i];refine aX [0,1,6,7,8,9] (λq vs w'=>∃(i:Nat) (x:UInt64),vs=[.slice pv n cv,.int .i64 a,.int .i64 m,.pointer (some ⟨rb,0,none⟩),.int .u64 y.toNat,.int .i64 i]/\i+q=i0+4/\i0<=i/\Blk w' rb [.int .u64 x.toNat]/\SPm (.slice pv n cv) l0 w0 w') (4) ?_ ?_
 ·exact⟨i0,_,rfl,by omega,aM _,hR2,h2⟩
 ·rintro q vs J w4 ⟨i,x,rfl,hiq,hi,hR4,h4⟩;refine aa (zSR (zmm O (zmv O (lG O O (by omega)) (a7 O (fq O O (by omega)) (a7 O (aC O O (by omega)) (a7 O (aC O O (by omega)) (a7 O (fN O O) ?_)))))));refine a6 ?_;have hq4i:(m:Int) / 4=(q4:Int):=by omega
  refine aA O (λhle=>?_) (λhle=>?_)
  ·refine zKN (aa (aq (aa (ae ?_))));have hob2:∃z,q=z+1:=⟨q-1,by omega⟩
   obtain⟨q,rfl⟩:=hob2;refine ag O C228 (Next_ok rb x _ hR4) ?_;rintro _ w5 ⟨x2,rfl,hR5,hc5⟩;have h5:=h4.chg1 hc5 hrb hrw;have hub:(x2 &&& (y-1)).toNat<2*m:=by
    have h1:(x2 &&& (y-1)).toNat<=(y-1).toNat:=by rw[UInt64.toNat_and];exact Nat.and_le_right
    have h2:(y-1).toNat=y.toNat-1:=by
     rw[UInt64.toNat_sub_of_le y 1 (UInt64.le_iff_toNat_le.2 (show(1:UInt64).toNat<=y.toNat from hy1))];rfl
    omega
   refine zmv O (uT (b:=1) O O) (a7 O (Ai O O) (a7 O (gg O pD uU3 (by omega)) (za O ?_)));refine a6 (aa (zSR (zmm O (a7 O (fC O O) (a6 ?_)))));have hob3:∃u:Nat,u=(x2 &&& (y-1)).toNat:=⟨_,rfl⟩
   obtain⟨u,hu⟩:=hob3;rw[<-hu] at hub;rw[<-hu];obtain⟨l28,ho28,hp28,hk28⟩:=id h5;have hl28:l28.length=n:=hp28.length_eq.trans hn;refine aA O (λhge=>?_) (λhge=>?_)
   ·refine ae (zmm O (a7 O (bf O O (by omega)) (za O ?_)));refine a6 ?_;have hob4:∃o,u=o+m:=⟨u-m,by omega⟩
    obtain⟨o,rfl⟩:=hob4;refine aH bx (.pure 0 (.pure 1 (.pure 2 (.pure 3 (.pure 4 (.pure 5 (.pure 6 (.pure 7 (.pure 8 (.pure 9 (.pure 10 (.read 11 (.pure 12 (.pure 13 (.pure 14 (.read 15 (.pure 16 (.eff 17 [] (.pure 18 (.eff 19 [] .nil)))))))))))))))))))) (by kernel_rfl) ?_;refine ym O (ym O (ym O (ym O (ym O (yp O (λ_=>(aC O O (by omega))) ?_)))));refine ym O (ym O (ym O (yp O (λ_=>(aC O O (by omega))) ?_)));refine yex O (aS (a+o) aZ I25 O (ho28.sl) O O (by first|rfl|omega) (by omega)) ?_;rintro _ ⟨b29,o29,rfl,he29,hb29⟩;refine aG O O O bu O O ((ho28.sl.at he29 (getD_some (d:=0) (by omega))).c0 O) ?_;refine ym O (ym O (yex O (aS (i) aZ I25 O (ho28.sl) O O (by first|rfl|omega) (by omega)) ?_));rintro _ ⟨b30,o30,rfl,he30,hb30⟩;refine aG O O O bu O O ((ho28.sl.at he30 (getD_some (d:=0) (by omega))).c0 O) ?_;refine yex O (aS (i) aZ I25 O (ho28.sl) O O (by first|rfl|omega) (by omega)) ?_;rintro _ ⟨b31,o31,rfl,he31,hb31⟩;refine dx O (bU (a:=l28.getD (a+o) 0) I25 O (ho28.mod0 (drw _)) O (he31) O O (by omega)) ?_;rintro u31 ⟨hou31,hcu31,hsu31⟩;refine⟨trivial,?_⟩;refine yex O (aS (a+o) aZ I25 O (hou31.sl) O O (by first|rfl|omega) (by simp;omega)) ?_;rintro _ ⟨b32,o32,rfl,he32,hb32⟩;refine dx O (bU (a:=l28.getD (i) 0) I25 O (hou31) O (he32) O O (by simp;omega)) ?_;rintro u32 ⟨hou32,hcu32,hsu32⟩;refine⟨trivial,?_⟩;refine ez (ax (aj (ae (zmv O (aC O O (by omega)) (za O ?_)))));refine a6 ?_;have hS32:SPm (.slice pv n cv) l0 w0 u32:=⟨_,hou32,(eF l28 (i) (a+o) (by omega) (by omega)).trans hp28,((hk28.tr0 (drw _)).tr hcu31).tr hcu32⟩
    have hR33:Blk u32 rb [.int .u64 x2.toNat]:=((hR5.chg0 (drw _)).chg hcu31 hrb).chg hcu32 hrb;refine aT (q) (bq (by omega) ?_);exact⟨i+1,x2,rfl,by omega,by omega,hR33,hS32⟩
   ·refine zKN (aH bx (.pure 0 (.pure 1 (.pure 2 (.pure 3 (.pure 4 (.pure 5 (.pure 6 (.pure 7 (.pure 8 (.pure 9 (.pure 10 (.read 11 (.pure 12 (.pure 13 (.pure 14 (.read 15 (.pure 16 (.eff 17 [] (.pure 18 (.eff 19 [] .nil)))))))))))))))))))) (by kernel_rfl) ?_);refine ym O (ym O (ym O (ym O (ym O (yp O (λ_=>(aC O O (by omega))) ?_)))));refine ym O (ym O (ym O (yp O (λ_=>(aC O O (by omega))) ?_)));refine yex O (aS (a+u) aZ I25 O (ho28.sl) O O (by first|rfl|omega) (by omega)) ?_;rintro _ ⟨b34,o34,rfl,he34,hb34⟩;refine aG O O O bu O O ((ho28.sl.at he34 (getD_some (d:=0) (by omega))).c0 O) ?_;refine ym O (ym O (yex O (aS (i) aZ I25 O (ho28.sl) O O (by first|rfl|omega) (by omega)) ?_));rintro _ ⟨b35,o35,rfl,he35,hb35⟩;refine aG O O O bu O O ((ho28.sl.at he35 (getD_some (d:=0) (by omega))).c0 O) ?_;refine yex O (aS (i) aZ I25 O (ho28.sl) O O (by first|rfl|omega) (by omega)) ?_;rintro _ ⟨b36,o36,rfl,he36,hb36⟩;refine dx O (bU (a:=l28.getD (a+u) 0) I25 O (ho28.mod0 (drw _)) O (he36) O O (by omega)) ?_;rintro u36 ⟨hou36,hcu36,hsu36⟩;refine⟨trivial,?_⟩;refine yex O (aS (a+u) aZ I25 O (hou36.sl) O O (by first|rfl|omega) (by simp;omega)) ?_;rintro _ ⟨b37,o37,rfl,he37,hb37⟩;refine dx O (bU (a:=l28.getD (i) 0) I25 O (hou36) O (he37) O O (by simp;omega)) ?_;rintro u37 ⟨hou37,hcu37,hsu37⟩;refine⟨trivial,?_⟩;refine ez (ax (aj (ae (zmv O (aC O O (by omega)) (za O ?_)))));refine a6 ?_;have hS37:SPm (.slice pv n cv) l0 w0 u37:=⟨_,hou37,(eF l28 (i) (a+u) (by omega) (by omega)).trans hp28,((hk28.tr0 (drw _)).tr hcu36).tr hcu37⟩
    have hR38:Blk u37 rb [.int .u64 x2.toNat]:=((hR5.chg0 (drw _)).chg hcu36 hrb).chg hcu37 hrb;refine aT (q) (bq (by omega) ?_);exact⟨i+1,x2,rfl,by omega,by omega,hR38,hS37⟩
  ·refine aO (an (an (aE (fV ?_))));exact h4
theorem sS{pv:Option Addr}{n cv:Nat}{l0:List UInt32}{w0 w:World}(h:SPm (.slice pv n cv) l0 w0 w)(hn:l0.length=n)(_:n<=1000)(a b:Nat)(ha:a<n)(hb:b<n)(sb s:Nat)(hs:s<=100)(hB:Blk w sb [.int .i64 s])(hsb:sb∉ay (.slice pv n cv))(hs0:w0.heap.size<=sb) :
  Ret Tryz.prog 269 #[.slice pv n cv,.int .i64 a,.int .i64 b,.pointer (some ⟨sb,0,none⟩)] w λr w'=>(∃(a' b' s':Nat),r=.tuple #[.int .i64 a',.int .i64 b']/\(a'=a/\b'=b∨a'=b/\b'=a)/\s'<=s+1/\Blk w' sb [.int .i64 s'])/\SPm (.slice pv n cv) l0 w0 w':=by
 refine enter [8,9] Tryz.func269 O O (al O) (zSR (zaa O (a6 (aa (aa ?_)))));obtain⟨l39,ho39,hp39,hk39⟩:=id h;have hl39:l39.length=n:=hp39.length_eq.trans hn;refine aH bx (.pure 0 (.pure 1 (.pure 2 (.read 3 (.pure 4 (.pure 5 (.pure 6 (.read 7 (.eff 8 [] .nil))))))))) (by kernel_rfl) ?_;refine ym O (ym O (yex O (aS (b) aZ I25 O (ho39.sl) O O (by first|rfl|omega) (by omega)) ?_));rintro _ ⟨b40,o40,rfl,he40,hb40⟩;refine aG O O O bu O O ((ho39.sl.at he40 (getD_some (d:=0) (by omega))).c0 O) ?_;refine ym O (ym O (yex O (aS (a) aZ I25 O (ho39.sl) O O (by first|rfl|omega) (by omega)) ?_));rintro _ ⟨b41,o41,rfl,he41,hb41⟩;refine aG O O O bu O O ((ho39.sl.at he41 (getD_some (d:=0) (by omega))).c0 O) ?_;refine ycl O qG (eR (l39.getD (b) 0) (l39.getD (a) 0) _) ?_;rintro _ v42 ⟨rfl,hv42⟩;refine⟨trivial,?_⟩;refine az ?_;have hcv42:Chg [] w v42:=by rw[hv42];exact Chg.heap O
 have hS42:SPm (.slice pv n cv) l0 w0 v42:=SPm.chg0 ⟨l39,ho39,hp39,hk39⟩ hcv42;have hB42:=hB.chg0 hcv42;refine bX O (λhls=>?_) (λhls=>?_)
 ·refine zSR (zm O (zn O O (a7 O (aD uU3 O O (hB42.c O)) ?_)));refine a7 O (aC O O (by omega)) (zn O O ?_);refine aQ O (bJ I3 O O (hB42) O O ((by decide:0<1)) O (rfl)) ?_;rintro w8 ⟨hB8,hc8,hs8⟩;refine zNR (zmm O (zaa O (a6 (zrt ?_))));exact⟨⟨b,a,s+1,rfl,.inr ⟨rfl,rfl⟩,aM _,hB8⟩,hS42.chg1 hc8 hsb hs0⟩
 ·refine zKR (zmm O (zaa O (a6 (zrf ?_))));exact⟨⟨a,b,s,rfl,.inl ⟨rfl,rfl⟩,by omega,hB42⟩,hS42⟩
theorem sV{pv:Option Addr}{n cv:Nat}{l0:List UInt32}{w0 w:World}(h:SPm (.slice pv n cv) l0 w0 w)(hn:l0.length=n)(hm:n<=1000)(a b c:Nat)(ha:a<n)(hb:b<n)(hc:c<n)(sb s:Nat)(hs:s<=50)(hB:Blk w sb [.int .i64 s])(hsb:sb∉ay (.slice pv n cv))(hs0:w0.heap.size<=sb) :
  Ret Tryz.prog 247 #[.slice pv n cv,.int .i64 a,.int .i64 b,.int .i64 c,.pointer (some ⟨sb,0,none⟩)] w λr w'=>(∃(d s':Nat),r=.int .i64 d/\(d=a∨d=b∨d=c)/\s'<=s+3/\Blk w' sb [.int .i64 s'])/\SPm (.slice pv n cv) l0 w0 w':=by
 refine enter [10] Tryz.func247 O O (al O) (zSR (za O (zNR (zmm O (zmm O (ag O C269 (sS h hn hm a b ha hb sb s (by omega) hB hsb hs0) ?_))))));rintro _ w1 ⟨⟨a1,b1,s1,rfl,h1,hs1,hB1⟩,hS1⟩;refine zm O (zx O (zx O (zaa O (zNR (zmm O (zmm O (ag O C269 (sS hS1 hn hm b1 c (by omega) hc sb s1 (by omega) hB1 hsb hs0) ?_)))))));rintro _ w2 ⟨⟨b2,c2,s2,rfl,h2,hs2,hB2⟩,hS2⟩;refine zm O (zx O (zx O (zaa O (zNR (zmm O (zmm O (ag O C269 (sS hS2 hn hm a1 b2 (by omega) (by omega) sb s2 (by omega) hB2 hsb hs0) ?_)))))));rintro _ w3 ⟨⟨a3,b3,s3,rfl,h3,hs3,hB3⟩,hS3⟩;refine zm O (zx O (zx O (zaa O (zNR (zma O (a6 (zrf ?_)))))));exact⟨⟨b3,s3,rfl,by omega,by omega,hB3⟩,hS3⟩
theorem sW{pv:Option Addr}{n cv:Nat}{l0:List UInt32}{w0 w:World}(h:SPm (.slice pv n cv) l0 w0 w)(hn:l0.length=n)(hm:n<=1000)(a:Nat)(ha0:1<=a)(ha:a+1<n)(sb s:Nat)(hs:s<=50)(hB:Blk w sb [.int .i64 s])(hsb:sb∉ay (.slice pv n cv))(hs0:w0.heap.size<=sb) :
  Ret Tryz.prog 246 #[.slice pv n cv,.int .i64 a,.pointer (some ⟨sb,0,none⟩)] w λr w'=>(∃(d s':Nat),r=.int .i64 d/\a<=d+1/\d<=a+1/\s'<=s+3/\Blk w' sb [.int .i64 s'])/\SPm (.slice pv n cv) l0 w0 w':=by
 have hob5:∃z,a=z+1:=⟨a-1,by omega⟩
 obtain⟨a',rfl⟩:=hob5;have hai:((a'+1:Nat):Int)-1=(a':Int):=by omega
 refine enter [6] Tryz.func246 O O (al O) (zSR (za O (zNR (zmm O (a7 O (bf O O (by omega)) (zmm O (a7 O (aC O O (by omega)) (zm O ?_))))))));rw[hai];refine ag O C247 (sV h hn hm a' (a'+1) (a'+2) (by omega) (by omega) (by omega) sb s hs hB hsb hs0) ?_;rintro _ w1 ⟨⟨d,s1,rfl,h1,hs1,hB1⟩,hS1⟩;refine za O (a6 (zrf ?_));exact⟨⟨d,s1,rfl,by omega,by omega,hs1,hB1⟩,hS1⟩
theorem Hb{pv:Option Addr}{n cv:Nat}{l0:List UInt32}{w0 w:World}(h:SPm (.slice pv n cv) l0 w0 w)(hn:l0.length=n)(hm:n<=1000)(a b:Nat)(hab:a+8<=b)(hb:b<=n) :
  Ret Tryz.prog 218 #[.slice pv n cv,.int .i64 a,.int .i64 b] w λr w'=>(∃(p:Nat) (hint:Int),r=.tuple #[.int .i64 p,.int .i64 hint]/\a<=p/\p<b/\0<=hint/\hint<=2)/\SPm (.slice pv n cv) l0 w0 w':=by
 obtain⟨m,hme⟩:∃m:Nat,m=b-a:=⟨_,rfl⟩
 have hmi:(b:Int)-(a:Int)=(m:Int):=by omega
 obtain⟨q4,hq4⟩:∃z:Nat,z=m / 4:=⟨_,rfl⟩
 have hq4i:(m:Int) / 4=(q4:Int):=by omega
 refine enter [6,7] Tryz.func218 O O (al O) (zSR (zaa O (zNR (zmm O (a7 O (bf O O (by omega)) (za O ?_))))));refine a6 (aa (ae ?_));rw[hmi];refine aY O (dt (l:=[.int .i64 0]) I3 O O) ?_;rintro _ w1 ⟨sb,rfl,hsn,hB1,hc1,hl1⟩;refine zNR (zmm O (a7 O (lG O O (by omega)) (a7 O (fq O O (by omega)) (a7 O (aC O O (by omega)) (za O ?_)))));refine zNR (zmm O (a7 O (lG O O (by omega)) (a7 O (fq O O (by omega)) (a7 O (aC O O (by omega)) (za O ?_)))));refine zNR (zmm O (a7 O (lG O O (by omega)) (a7 O (fq O O (by omega)) (a7 O (aC O O (by omega)) (za O ?_)))));refine a6 (aa (zSR (zmv O (fC O O) (a6 ?_))));obtain⟨l,ho,hp,hk⟩:=id h;have hsb:sb∉ay (.slice pv n cv):=λhh=>by have:=ho.sl.lt sb hh;omega
 have hs0:w0.heap.size<=sb:=by have:=hk.1;omega
 have h1:=h.chg0 hc1;rw[hq4i];have hob1:∃z:Nat,z=a+q4*1:=⟨_,rfl⟩
 obtain⟨i,hi⟩:=hob1;have hob2:∃z:Nat,z=a+q4*2:=⟨_,rfl⟩
 obtain⟨j,hj⟩:=hob2;have hob3:∃z:Nat,z=a+q4*3:=⟨_,rfl⟩
 obtain⟨k,hk2⟩:=hob3;have hii:(a:Int)+(q4:Int)*1=(i:Int):=by omega
 have hjj:(a:Int)+(q4:Int)*2=(j:Int):=by omega
 have hkk:(a:Int)+(q4:Int)*3=(k:Int):=by omega
 rw[hii,hjj,hkk];refine bI O (by omega) ?_;refine aa (zSR (zmv O (fC O O) ?_));refine a6 (aA O (λh50=>?_) (λh50=>?_))
 ·refine zSR (zmm O (ag O C246 (sW h1 hn hm i (by omega) (by omega) sb 0 (by omega) hB1 hsb hs0) ?_));rintro _ w2 ⟨⟨i2,s2,rfl,hi1,hi2,hs2,hB2⟩,h2⟩;refine za O (zNR (zmm O (ag O C246 (sW h2 hn hm j (by omega) (by omega) sb s2 (by omega) hB2 hsb hs0) ?_)));rintro _ w3 ⟨⟨j3,s3,rfl,hj1,hj2,hs3,hB3⟩,h3⟩;refine za O (a6 (ae (zmm O (ag O C246 (sW h3 hn hm k (by omega) (by omega) sb s3 (by omega) hB3 hsb hs0) ?_))));rintro _ w4 ⟨⟨k4,s4,rfl,hk3,hk4,hs4,hB4⟩,h4⟩;refine za O (a6 (ae (zmm O (zmm O (ag O C247 (sV h4 hn hm i2 j3 k4 (by omega) (by omega) (by omega) sb s4 (by omega) hB4 hsb hs0) ?_)))));rintro _ x43 ⟨⟨p43,s43,rfl,hp43,hs43,hB43⟩,hS43⟩;refine za O (zNR (a7 O (aD uU3 O O (hB43.c O)) (a6 (aq (zSR (a7 O (dy O O) (za O (a6 (aA O (λhz43=>?_) (λhz43=>?_))))))))))
  ·refine zSR (zma O (za O (a6 (bC (aR (cV ?_))))));exact⟨⟨p43,1,rfl,by omega,by omega,by decide,by decide⟩,hS43⟩
  ·refine zSR (a7 O (dy O O) (za O ?_));refine a6 (aA O (λhy43=>?_) (λhy43=>?_))
   ·refine zSR (zma O (za O (a6 (bC (aR (cV ?_))))));exact⟨⟨p43,2,rfl,by omega,by omega,by decide,by decide⟩,hS43⟩
   ·refine zSR (zma O (za O (a6 (bC (aR (cV ?_))))));exact⟨⟨p43,0,rfl,by omega,by omega,by decide,by decide⟩,hS43⟩
 ·refine zKN (ae (zmm O (zmm O (ag O C247 (sV h1 hn hm i j k (by omega) (by omega) (by omega) sb 0 (by omega) hB1 hsb hs0) ?_))));rintro _ x44 ⟨⟨p44,s44,rfl,hp44,hs44,hB44⟩,hS44⟩;refine za O (zNR (a7 O (aD uU3 O O (hB44.c O)) (a6 (aq (zSR (a7 O (dy O O) (za O (a6 (aA O (λhz44=>?_) (λhz44=>?_))))))))))
  ·refine zSR (zma O (za O (a6 (bC (aR (cV ?_))))));exact⟨⟨p44,1,rfl,by omega,by omega,by decide,by decide⟩,hS44⟩
  ·refine zSR (a7 O (dy O O) (za O ?_));refine a6 (aA O (λhy44=>?_) (λhy44=>?_))
   ·refine zSR (zma O (za O (a6 (bC (aR (cV ?_))))));exact⟨⟨p44,2,rfl,by omega,by omega,by decide,by decide⟩,hS44⟩
   ·refine zSR (zma O (za O (a6 (bC (aR (cV ?_))))));exact⟨⟨p44,0,rfl,by omega,by omega,by decide,by decide⟩,hS44⟩
theorem revR_ok{pv:Option Addr}{n cv:Nat}{l0:List UInt32}{w0 w:World}(h:SPm (.slice pv n cv) l0 w0 w)(hn:l0.length=n)(hm:n<=1000)(a b:Nat)(hab:a<b)(hb:b<=n) :
  Ret Tryz.prog 219 #[.slice pv n cv,.int .i64 a,.int .i64 b] w λ_ w'=>SPm (.slice pv n cv) l0 w0 w':=by
 have hob4:∃z:Nat,b=z+1:=⟨b-1,by omega⟩
 obtain⟨j0,hj0⟩:=hob4;have hji:(b:Int)-1=(j0:Int):=by omega
 refine enter [] Tryz.func219 O O (al O) (zSR (zma O (zNR (zmv O (bf O O (by omega)) (za O ?_)))));refine a6 (aq ?_);rw[hji];refine aX [0,6,7] (λq vs w'=>∃i j:Nat,vs=[.slice pv n cv,.int .i64 i,.int .i64 j]/\j+1<=i+q/\i<=n/\j<n/\SPm (.slice pv n cv) l0 w0 w') (n+1) ?_ ?_
 ·exact⟨a,j0,rfl,by omega,by omega,by omega,h⟩
 ·rintro q vs J w1 ⟨i,j,rfl,hq,hi,hj,h1⟩;refine aa (zSR (zmm O (a7 O (bK O O) ?_)));refine a6 ?_;obtain⟨l45,ho45,hp45,hk45⟩:=id h1;have hl45:l45.length=n:=hp45.length_eq.trans hn;refine aA O (λhlt=>?_) (λhlt=>?_)
  ·refine zKN (aq (aa ?_));have hob5:∃z,q=z+1:=⟨q-1,by omega⟩
   obtain⟨q,rfl⟩:=hob5;have hob6:∃z,j=z+1:=⟨j-1,by omega⟩
   obtain⟨j,rfl⟩:=hob6;refine aH bx (.pure 0 (.pure 1 (.pure 2 (.pure 3 (.pure 4 (.pure 5 (.pure 6 (.read 7 (.pure 8 (.pure 9 (.pure 10 (.read 11 (.pure 12 (.eff 13 [] (.pure 14 (.eff 15 [] .nil)))))))))))))))) (by kernel_rfl) ?_;refine ym O (ym O (ym O (ym O (ym O (ym O (yex O (aS (j+1) aZ I25 O (ho45.sl) O O (by first|rfl|omega) (by omega)) ?_))))));rintro _ ⟨b46,o46,rfl,he46,hb46⟩;refine aG O O O bu O O ((ho45.sl.at he46 (getD_some (d:=0) (by omega))).c0 O) ?_;refine ym O (ym O (yex O (aS (i) aZ I25 O (ho45.sl) O O (by first|rfl|omega) (by omega)) ?_));rintro _ ⟨b47,o47,rfl,he47,hb47⟩;refine aG O O O bu O O ((ho45.sl.at he47 (getD_some (d:=0) (by omega))).c0 O) ?_;refine yex O (aS (i) aZ I25 O (ho45.sl) O O (by first|rfl|omega) (by omega)) ?_;rintro _ ⟨b48,o48,rfl,he48,hb48⟩;refine dx O (bU (a:=l45.getD (j+1) 0) I25 O (ho45.mod0 (drw _)) O (he48) O O (by omega)) ?_;rintro u48 ⟨hou48,hcu48,hsu48⟩;refine⟨trivial,?_⟩;refine yex O (aS (j+1) aZ I25 O (hou48.sl) O O (by first|rfl|omega) (by simp;omega)) ?_;rintro _ ⟨b49,o49,rfl,he49,hb49⟩;refine dx O (bU (a:=l45.getD (i) 0) I25 O (hou48) O (he49) O O (by simp;omega)) ?_;rintro u49 ⟨hou49,hcu49,hsu49⟩;refine⟨trivial,?_⟩;refine zPR (zmv O (aC O O (by omega)) (za O ?_));refine a6 (ae (zmv O (bf O O (by omega)) (za O ?_)));refine bA (ax (aj ?_));have hS49:SPm (.slice pv n cv) l0 w0 u49:=⟨_,hou49,(eF l45 (i) (j+1) (by omega) (by omega)).trans hp45,((hk45.tr0 (drw _)).tr hcu48).tr hcu49⟩
   refine aT (q) (bq (by omega) ?_);exact⟨i+1,j,(au O (au O (au (bL (by omega)) bO))),by omega,by omega,by omega,hS49⟩
  ·refine aO (an (an (aE (fV ?_))));exact h1
theorem Hh{pv:Option Addr}{n cv:Nat}{l0:List UInt32}{w0 w:World}(h:SPm (.slice pv n cv) l0 w0 w)(hn:l0.length=n)(hm:n<=1000)(a b:Nat)(hab:a<b)(hb:b<=n) :
  Ret Tryz.prog 220 #[.slice pv n cv,.int .i64 a,.int .i64 b] w λr w'=>(∃t:Bool,r=.bool t)/\SPm (.slice pv n cv) l0 w0 w':=by
 refine enter [6] Tryz.func220 O O (al O) (zSR (za O (zNR (zmv O (aC O O (by omega)) (za O ?_)))));refine a6 (aa (zSR (za O (a6 (aq (aX [0,1,2,7,8] (λq vs w'=>∃i j:Nat,vs=[.slice pv n cv,.int .i64 a,.int .i64 b,.int .i64 i,.int .i64 j]/\j+q=6/\a+1<=i/\i<=b/\SPm (.slice pv n cv) l0 w0 w') (6) ?_ ?_))))))
 ·exact⟨a+1,0,rfl,by omega,by omega,by omega,h⟩
 ·rintro q vs J w1 ⟨i,j,rfl,hq,hi1,hi2,h1⟩;refine aa (zSR (zmv O (bK O O) ?_));refine a6 (aA O (λhlt=>?_) (λhlt=>?_))
  ·refine zKN ?_;have hob1:∃z,q=z+1:=⟨q-1,by omega⟩
   obtain⟨q,rfl⟩:=hob1;refine aa (aq (dY [0,1,2,7,8] (λvs w'=>∃i:Nat,vs=[.slice pv n cv,.int .i64 a,.int .i64 b,.int .i64 i,.int .i64 j]/\a+1<=i/\i<=b/\SPm (.slice pv n cv) l0 w0 w') ?_ ?_))
   ·refine aq (aX [0,1,2,7,8] (λq2 vs w'=>∃i:Nat,vs=[.slice pv n cv,.int .i64 a,.int .i64 b,.int .i64 i,.int .i64 j]/\b+1<=i+q2/\a+1<=i/\i<=b/\SPm (.slice pv n cv) l0 w0 w') (n+1) ?_ ?_)
    ·exact⟨i,rfl,by omega,hi1,hi2,h1⟩
    ·rintro q2 vs2 J2 w2 ⟨i,rfl,hq2,hi1,hi2,h2⟩;refine aa (aa ?_);obtain⟨l50,ho50,hp50,hk50⟩:=id h2;have hl50:l50.length=n:=hp50.length_eq.trans hn;refine aH bx (.pure 0 (.pure 1 (.pure 2 (.pure 3 (.pure 4 (.pure 5 (.pure 6 (.read 7 (.pure 8 (.pure 9 (.pure 10 (.pure 11 (.read 12 (.eff 13 [] (.pure 14 (.pure 15 .nil)))))))))))))))) (by kernel_rfl) ?_;refine ym O (ym O ?_);by_cases hjb:i<b
     ·refine yp O (λ_=>bG (bK O O) (congrArg Value.bool (decide_eq_true ((by omega))))) ?_;refine ym O (ym O (ym O (yex O (aS (i) aZ I25 O (ho50.sl) O O (by first|rfl|omega) (by omega)) ?_)));rintro _ ⟨b51,o51,rfl,he51,hb51⟩;refine aG O O O bu O O ((ho50.sl.at he51 (getD_some (d:=0) (by omega))).c0 O) ?_;refine ym O (ym O (yp O (λ_=>(bf O O (by omega))) ?_));refine yex O (aS (i-1) aZ I25 O (ho50.sl) O O (by first|rfl|omega) (by omega)) ?_;rintro _ ⟨b52,o52,rfl,he52,hb52⟩;refine aG O O O bu O O ((ho50.sl.at he52 (getD_some (d:=0) (by omega))).c0 O) ?_;refine ycl O qG (eR (l50.getD (i) 0) (l50.getD (i-1) 0) _) ?_;rintro _ v53 ⟨rfl,hv53⟩;refine⟨trivial,?_⟩;refine yp O (λ_=>(cz O)) ?_;refine yp O (λ_=>(aN O)) ?_;refine az ?_;have hcv53:Chg [] w2 v53:=by rw[hv53];exact Chg.heap O
      have hS53:SPm (.slice pv n cv) l0 w0 v53:=SPm.chg0 ⟨l50,ho50,hp50,hk50⟩ hcv53;refine bX O (λhless=>?_) (λhless=>?_)
      ·refine zKN (aq (ae (zmv O (aC O O (by omega)) (za O ?_))));refine bA (ax (aj ?_));have hob2:∃z,q2=z+1:=⟨q2-1,by omega⟩
       obtain⟨q2,rfl⟩:=hob2;refine aT (q2) (bq (by omega) ?_);exact⟨i+1,rfl,by omega,by omega,by omega,hS53⟩
      ·refine zxx ?_;exact⟨i,rfl,hi1,hi2,hS53⟩
     ·refine yp O (λ_=>bG (bK O O) (congrArg Value.bool (decide_eq_false ((by omega))))) ?_;refine ym O (yno O (yno O (yno O (cA O O O (yno O (yno O (yno O (yno O (cA O O O (iY O O O (yno O (yp O (λ_=>(aK O)) ?_))))))))))));refine az (aI (rfl) (zxx ?_));exact⟨i,rfl,hi1,hi2,h2.chg0 (drw _)⟩
   ·rintro vs2 J2 w2 ⟨i,rfl,hi1,hi2,h2⟩;refine aa (zSR (zmm O (a7 O (dy O O) ?_)));refine a6 (aA O (λhib=>?_) (λhib=>?_))
    ·refine zSR (za O (a6 (bC (aL (aR (aL (aL (aR (aL (cV ?_))))))))));exact⟨⟨_,rfl⟩,h2⟩
    ·refine zKN (aa (zSR (zmm O (a7 O (bf O O (by omega)) (a7 O (bK O O) ?_)))));refine a6 (aA O (λh50=>?_) (λh50=>?_))
     ·refine zSR (za O (a6 (bC (aL (aR (aL (aL (aR (aL (cV ?_))))))))));exact⟨⟨_,rfl⟩,h2⟩
     ·refine zKN (aa ?_);obtain⟨l54,ho54,hp54,hk54⟩:=id h2;have hl54:l54.length=n:=hp54.length_eq.trans hn;refine aH bx (.pure 0 (.pure 1 (.pure 2 (.pure 3 (.pure 4 (.pure 5 (.pure 6 (.pure 7 (.pure 8 (.read 9 (.pure 10 (.pure 11 (.pure 12 (.read 13 (.pure 14 (.eff 15 [] (.pure 16 (.eff 17 [] .nil)))))))))))))))))) (by kernel_rfl) ?_;refine ym O (ym O (ym O (ym O (yp O (λ_=>(bf O O (by omega))) ?_))));refine ym O (ym O (yp O (λ_=>(bf O O (by omega))) ?_));refine yex O (aS (i-1) aZ I25 O (ho54.sl) O O (by first|rfl|omega) (by omega)) ?_;rintro _ ⟨b55,o55,rfl,he55,hb55⟩;refine aG O O O bu O O ((ho54.sl.at he55 (getD_some (d:=0) (by omega))).c0 O) ?_;refine ym O (ym O (yex O (aS (i) aZ I25 O (ho54.sl) O O (by first|rfl|omega) (by omega)) ?_));rintro _ ⟨b56,o56,rfl,he56,hb56⟩;refine aG O O O bu O O ((ho54.sl.at he56 (getD_some (d:=0) (by omega))).c0 O) ?_;refine yex O (aS (i) aZ I25 O (ho54.sl) O O (by first|rfl|omega) (by omega)) ?_;rintro _ ⟨b57,o57,rfl,he57,hb57⟩;refine dx O (bU (a:=l54.getD (i-1) 0) I25 O (ho54.mod0 (drw _)) O (he57) O O (by omega)) ?_;rintro u57 ⟨hou57,hcu57,hsu57⟩;refine⟨trivial,?_⟩;refine yex O (aS (i-1) aZ I25 O (hou57.sl) O O (by first|rfl|omega) (by simp;omega)) ?_;rintro _ ⟨b58,o58,rfl,he58,hb58⟩;refine dx O (bU (a:=l54.getD (i) 0) I25 O (hou57) O (he58) O O (by simp;omega)) ?_;rintro u58 ⟨hou58,hcu58,hsu58⟩;refine⟨trivial,?_⟩;refine az ?_;have hS58:SPm (.slice pv n cv) l0 w0 u58:=⟨_,hou58,(eF l54 (i) (i-1) (by omega) (by omega)).trans hp54,((hk54.tr0 (drw _)).tr hcu57).tr hcu58⟩
      refine dY [0,1,2,7,8] (λvs w'=>vs=[.slice pv n cv,.int .i64 a,.int .i64 b,.int .i64 i,.int .i64 j]/\a+1<=i/\i<=b/\SPm (.slice pv n cv) l0 w0 w') ?_ ?_
      ·refine zSR (zmm O (a7 O (bf O O (by omega)) (a7 O (fC O O) ?_)));refine a6 (aA O (λhi2a=>?_) (λhi2a=>?_))
       ·refine zSR (zmv O (bf O O (by omega)) (za O ?_));refine a6 (aq (aX [0,1,2,7,8,9] (λj2 vs w'=>vs=[.slice pv n cv,.int .i64 a,.int .i64 b,.int .i64 i,.int .i64 j,.int .i64 j2]/\j2<b/\SPm (.slice pv n cv) l0 w0 w') (i-1) ?_ ?_))
        ·exact⟨(au O (au O (au O (au O (au O (au (bL (by omega)) bO)))))),by omega,hS58⟩
        ·rintro j2 vs3 J3 w3 ⟨rfl,hj2,h3⟩;refine aa (zSR (zmv O (fC O O) ?_));refine a6 (aA O (λhj1=>?_) (λhj1=>?_))
         ·refine zKN (aa (aq (aa (aa ?_))));have hob3:∃z,j2=z+1:=⟨j2-1,by omega⟩
          obtain⟨j2,rfl⟩:=hob3;obtain⟨l59,ho59,hp59,hk59⟩:=id h3;have hl59:l59.length=n:=hp59.length_eq.trans hn;refine aH bx (.pure 0 (.pure 1 (.pure 2 (.read 3 (.pure 4 (.pure 5 (.pure 6 (.pure 7 (.read 8 (.eff 9 [] (.pure 10 .nil))))))))))) (by kernel_rfl) ?_;refine ym O (ym O (yex O (aS (j2+1) aZ I25 O (ho59.sl) O O (by first|rfl|omega) (by omega)) ?_));rintro _ ⟨b60,o60,rfl,he60,hb60⟩;refine aG O O O bu O O ((ho59.sl.at he60 (getD_some (d:=0) (by omega))).c0 O) ?_;refine ym O (ym O (yp O (λ_=>(bf O O (by omega))) ?_));refine yex O (aS (j2) aZ I25 O (ho59.sl) O O (by first|rfl|omega) (by omega)) ?_;rintro _ ⟨b61,o61,rfl,he61,hb61⟩;refine aG O O O bu O O ((ho59.sl.at he61 (getD_some (d:=0) (by omega))).c0 O) ?_;refine ycl O qG (eR (l59.getD (j2+1) 0) (l59.getD (j2) 0) _) ?_;rintro _ v62 ⟨rfl,hv62⟩;refine⟨trivial,?_⟩;refine yp O (λ_=>(cz O)) ?_;refine az ?_;have hcv62:Chg [] w3 v62:=by rw[hv62];exact Chg.heap O
          have hS62:SPm (.slice pv n cv) l0 w0 v62:=SPm.chg0 ⟨l59,ho59,hp59,hk59⟩ hcv62;refine bX O (λhls=>?_) (λhls=>?_)
          ·refine aO (an (jt O (an (an (aE (aj ?_))))));exact⟨rfl,hi1,hi2,hS62⟩
          ·refine zKN ?_;obtain⟨l63,ho63,hp63,hk63⟩:=id hS62;have hl63:l63.length=n:=hp63.length_eq.trans hn;refine aH bx (.pure 0 (.pure 1 (.pure 2 (.pure 3 (.pure 4 (.pure 5 (.pure 6 (.pure 7 (.pure 8 (.read 9 (.pure 10 (.pure 11 (.pure 12 (.read 13 (.pure 14 (.eff 15 [] (.pure 16 (.eff 17 [] .nil)))))))))))))))))) (by kernel_rfl) ?_;refine ym O (ym O (ym O (ym O (yp O (λ_=>(bf O O (by omega))) ?_))));refine ym O (ym O (yp O (λ_=>(bf O O (by omega))) ?_));refine yex O (aS (j2) aZ I25 O (ho63.sl) O O (by first|rfl|omega) (by omega)) ?_;rintro _ ⟨b64,o64,rfl,he64,hb64⟩;refine aG O O O bu O O ((ho63.sl.at he64 (getD_some (d:=0) (by omega))).c0 O) ?_;refine ym O (ym O (yex O (aS (j2+1) aZ I25 O (ho63.sl) O O (by first|rfl|omega) (by omega)) ?_));rintro _ ⟨b65,o65,rfl,he65,hb65⟩;refine aG O O O bu O O ((ho63.sl.at he65 (getD_some (d:=0) (by omega))).c0 O) ?_;refine yex O (aS (j2+1) aZ I25 O (ho63.sl) O O (by first|rfl|omega) (by omega)) ?_;rintro _ ⟨b66,o66,rfl,he66,hb66⟩;refine dx O (bU (a:=l63.getD (j2) 0) I25 O (ho63.mod0 (drw _)) O (he66) O O (by omega)) ?_;rintro u66 ⟨hou66,hcu66,hsu66⟩;refine⟨trivial,?_⟩;refine yex O (aS (j2) aZ I25 O (hou66.sl) O O (by first|rfl|omega) (by simp;omega)) ?_;rintro _ ⟨b67,o67,rfl,he67,hb67⟩;refine dx O (bU (a:=l63.getD (j2+1) 0) I25 O (hou66) O (he67) O O (by simp;omega)) ?_;rintro u67 ⟨hou67,hcu67,hsu67⟩;refine⟨trivial,?_⟩;refine ez (ax (aj (ae (zmv O (bf O O (by omega)) (za O ?_)))));refine a6 ?_;have hS67:SPm (.slice pv n cv) l0 w0 u67:=⟨_,hou67,(eF l63 (j2+1) (j2) (by omega) (by omega)).trans hp63,((hk63.tr0 (drw _)).tr hcu66).tr hcu67⟩
           refine aT (j2) (bq (by omega) ?_);exact⟨(au O (au O (au O (au O (au O (au (bL (by omega)) bO)))))),by omega,hS67⟩
         ·refine zxx ?_;exact⟨rfl,hi1,hi2,h3⟩
       ·refine zKN ?_;exact⟨rfl,hi1,hi2,hS58⟩
      ·rintro vs3 J3 w3 ⟨rfl,_,_,h3⟩;refine zSR (zmm O (a7 O (bf O O (by omega)) (a7 O (fC O O) ?_)));refine a6 (aA O (λhb2=>?_) (λhb2=>?_))
       ·refine zSR (zmv O (aC O O (by omega)) (za O ?_));refine a6 (aq (aX [0,1,2,7,8,10] (λq2 vs w'=>∃j2:Nat,vs=[.slice pv n cv,.int .i64 a,.int .i64 b,.int .i64 i,.int .i64 j,.int .i64 j2]/\b+1<=j2+q2/\1<=j2/\SPm (.slice pv n cv) l0 w0 w') (n+1) ?_ ?_))
        ·exact⟨i+1,rfl,by omega,by omega,h3⟩
        ·rintro q2 vs4 J4 w4 ⟨j2,rfl,hq2,hj2,h4⟩;refine aa (zSR (zmm O (a7 O (bK O O) ?_)));refine a6 (aA O (λhj1=>?_) (λhj1=>?_))
         ·refine zKN (aa (aq (aa (aa ?_))));have hob4:∃z,q2=z+1:=⟨q2-1,by omega⟩
          obtain⟨q2,rfl⟩:=hob4;obtain⟨l68,ho68,hp68,hk68⟩:=id h4;have hl68:l68.length=n:=hp68.length_eq.trans hn;refine aH bx (.pure 0 (.pure 1 (.pure 2 (.read 3 (.pure 4 (.pure 5 (.pure 6 (.pure 7 (.read 8 (.eff 9 [] (.pure 10 .nil))))))))))) (by kernel_rfl) ?_;refine ym O (ym O (yex O (aS (j2) aZ I25 O (ho68.sl) O O (by first|rfl|omega) (by omega)) ?_));rintro _ ⟨b69,o69,rfl,he69,hb69⟩;refine aG O O O bu O O ((ho68.sl.at he69 (getD_some (d:=0) (by omega))).c0 O) ?_;refine ym O (ym O (yp O (λ_=>(bf O O (by omega))) ?_));refine yex O (aS (j2-1) aZ I25 O (ho68.sl) O O (by first|rfl|omega) (by omega)) ?_;rintro _ ⟨b70,o70,rfl,he70,hb70⟩;refine aG O O O bu O O ((ho68.sl.at he70 (getD_some (d:=0) (by omega))).c0 O) ?_;refine ycl O qG (eR (l68.getD (j2) 0) (l68.getD (j2-1) 0) _) ?_;rintro _ v71 ⟨rfl,hv71⟩;refine⟨trivial,?_⟩;refine yp O (λ_=>(cz O)) ?_;refine az ?_;have hcv71:Chg [] w4 v71:=by rw[hv71];exact Chg.heap O
          have hS71:SPm (.slice pv n cv) l0 w0 v71:=SPm.chg0 ⟨l68,ho68,hp68,hk68⟩ hcv71;refine bX O (λhls=>?_) (λhls=>?_)
          ·refine aO (an (jt O (an (an (aE (ax (aj ?_)))))));refine ae (zmv O (aC O O (by omega)) (za O ?_));refine a6 (aT (q) (bq (by omega) ?_));exact⟨i,j+1,rfl,by omega,hi1,hi2,hS71⟩
          ·refine zKN ?_;obtain⟨l72,ho72,hp72,hk72⟩:=id hS71;have hl72:l72.length=n:=hp72.length_eq.trans hn;refine aH bx (.pure 0 (.pure 1 (.pure 2 (.pure 3 (.pure 4 (.pure 5 (.pure 6 (.pure 7 (.pure 8 (.read 9 (.pure 10 (.pure 11 (.pure 12 (.read 13 (.pure 14 (.eff 15 [] (.pure 16 (.eff 17 [] .nil)))))))))))))))))) (by kernel_rfl) ?_;refine ym O (ym O (ym O (ym O (yp O (λ_=>(bf O O (by omega))) ?_))));refine ym O (ym O (yp O (λ_=>(bf O O (by omega))) ?_));refine yex O (aS (j2-1) aZ I25 O (ho72.sl) O O (by first|rfl|omega) (by omega)) ?_;rintro _ ⟨b73,o73,rfl,he73,hb73⟩;refine aG O O O bu O O ((ho72.sl.at he73 (getD_some (d:=0) (by omega))).c0 O) ?_;refine ym O (ym O (yex O (aS (j2) aZ I25 O (ho72.sl) O O (by first|rfl|omega) (by omega)) ?_));rintro _ ⟨b74,o74,rfl,he74,hb74⟩;refine aG O O O bu O O ((ho72.sl.at he74 (getD_some (d:=0) (by omega))).c0 O) ?_;refine yex O (aS (j2) aZ I25 O (ho72.sl) O O (by first|rfl|omega) (by omega)) ?_;rintro _ ⟨b75,o75,rfl,he75,hb75⟩;refine dx O (bU (a:=l72.getD (j2-1) 0) I25 O (ho72.mod0 (drw _)) O (he75) O O (by omega)) ?_;rintro u75 ⟨hou75,hcu75,hsu75⟩;refine⟨trivial,?_⟩;refine yex O (aS (j2-1) aZ I25 O (hou75.sl) O O (by first|rfl|omega) (by simp;omega)) ?_;rintro _ ⟨b76,o76,rfl,he76,hb76⟩;refine dx O (bU (a:=l72.getD (j2) 0) I25 O (hou75) O (he76) O O (by simp;omega)) ?_;rintro u76 ⟨hou76,hcu76,hsu76⟩;refine⟨trivial,?_⟩;refine ez (ax (aj (ae (zmv O (aC O O (by omega)) (za O ?_)))));refine a6 ?_;have hS76:SPm (.slice pv n cv) l0 w0 u76:=⟨_,hou76,(eF l72 (j2) (j2-1) (by omega) (by omega)).trans hp72,((hk72.tr0 (drw _)).tr hcu75).tr hcu76⟩
           refine aT (q2) (bq (by omega) ?_);exact⟨j2+1,rfl,by omega,by omega,hS76⟩
         ·refine aO (an (an (aE (ax (aj (ae (zmv O (aC O O (by omega)) (za O ?_))))))));refine a6 (aT (q) (bq (by omega) ?_));exact⟨i,j+1,rfl,by omega,hi1,hi2,h4⟩
       ·refine bQ (ax (aj (ae (zmv O (aC O O (by omega)) (za O ?_)))));refine a6 (aT (q) (bq (by omega) ?_));exact⟨i,j+1,rfl,by omega,hi1,hi2,h3⟩
  ·refine aO (an (an (aE (aj (zSR (za O (a6 (zrf ?_))))))));exact⟨⟨_,rfl⟩,h1⟩
theorem Hi{pv:Option Addr}{n cv:Nat}{l0:List UInt32}{w0 w:World}(h:SPm (.slice pv n cv) l0 w0 w)(hn:l0.length=n)(hm:n<=1000)(a b p:Nat)(hab:a+1<b)(hb:b<=n)(_:a<=p)(hp2:p<b) :
  Ret Tryz.prog 222 #[.slice pv n cv,.int .i64 a,.int .i64 b,.int .i64 p] w λr w'=>(∃c:Nat,r=.int .i64 c/\a+1<=c/\c<=b)/\SPm (.slice pv n cv) l0 w0 w':=by
 obtain⟨b1,hb1⟩:∃z:Nat,b=z+1:=⟨b-1,by omega⟩
 have hbi:(b:Int)-1=(b1:Int):=by omega
 refine enter [8] Tryz.func222 O O (al O) (zSR (za O (a6 (aa ?_))));obtain⟨l77,ho77,hp77,hk77⟩:=id h;have hl77:l77.length=n:=hp77.length_eq.trans hn;refine aH bx (.pure 0 (.pure 1 (.pure 2 (.pure 3 (.pure 4 (.pure 5 (.pure 6 (.read 7 (.pure 8 (.pure 9 (.pure 10 (.read 11 (.pure 12 (.eff 13 [] (.pure 14 (.eff 15 [] .nil)))))))))))))))) (by kernel_rfl) ?_;refine ym O (ym O (ym O (ym O (ym O (ym O (yex O (aS (p) aZ I25 O (ho77.sl) O O (by first|rfl|omega) (by omega)) ?_))))));rintro _ ⟨b78,o78,rfl,he78,hb78⟩;refine aG O O O bu O O ((ho77.sl.at he78 (getD_some (d:=0) (by omega))).c0 O) ?_;refine ym O (ym O (yex O (aS (a) aZ I25 O (ho77.sl) O O (by first|rfl|omega) (by omega)) ?_));rintro _ ⟨b79,o79,rfl,he79,hb79⟩;refine aG O O O bu O O ((ho77.sl.at he79 (getD_some (d:=0) (by omega))).c0 O) ?_;refine yex O (aS (a) aZ I25 O (ho77.sl) O O (by first|rfl|omega) (by omega)) ?_;rintro _ ⟨b80,o80,rfl,he80,hb80⟩;refine dx O (bU (a:=l77.getD (p) 0) I25 O (ho77.mod0 (drw _)) O (he80) O O (by omega)) ?_;rintro u80 ⟨hou80,hcu80,hsu80⟩;refine⟨trivial,?_⟩;refine yex O (aS (p) aZ I25 O (hou80.sl) O O (by first|rfl|omega) (by simp;omega)) ?_;rintro _ ⟨b81,o81,rfl,he81,hb81⟩;refine dx O (bU (a:=l77.getD (a) 0) I25 O (hou80) O (he81) O O (by simp;omega)) ?_;rintro u81 ⟨hou81,hcu81,hsu81⟩;refine⟨trivial,?_⟩;refine zPR (zmv O (aC O O (by omega)) (zmv O (bf O O (by omega)) (zaa O ?_)));refine a6 (aa (aq ?_));have hS81:SPm (.slice pv n cv) l0 w0 u81:=⟨_,hou81,(eF l77 (a) (p) (by omega) (by omega)).trans hp77,((hk77.tr0 (drw _)).tr hcu80).tr hcu81⟩
 rw[hbi];refine aX [0,1,9,10] (λq vs w'=>∃i j:Nat,vs=[.slice pv n cv,.int .i64 a,.int .i64 i,.int .i64 j]/\j+2<=i+q/\a+1<=i/\i<=b/\a<=j/\j<b/\SPm (.slice pv n cv) l0 w0 w') (n+2) ?_ ?_
 ·exact⟨a+1,b1,rfl,by omega,by omega,by omega,by omega,by omega,hS81⟩
 ·rintro q vs J w1 ⟨i,j,rfl,hq,h1a,h1b,h1c,h1d,h1⟩;refine aq (dY [0,1,9,10] (λvs w'=>∃i2:Nat,vs=[.slice pv n cv,.int .i64 a,.int .i64 i2,.int .i64 j]/\i<=i2/\i2<=b/\SPm (.slice pv n cv) l0 w0 w') ?_ ?_)
  ·refine aq (aX [0,1,9,10] (λq2 vs w'=>∃i2:Nat,vs=[.slice pv n cv,.int .i64 a,.int .i64 i2,.int .i64 j]/\b+1<=i2+q2/\i<=i2/\i2<=b/\SPm (.slice pv n cv) l0 w0 w') (n+1) ?_ ?_)
   ·exact⟨i,rfl,by omega,aM _,by omega,h1⟩
   ·rintro q2 vs2 J2 w2 ⟨i2,rfl,hq2,hi2,hi2b,h2⟩;refine aa (aa ?_);obtain⟨l82,ho82,hp82,hk82⟩:=id h2;have hl82:l82.length=n:=hp82.length_eq.trans hn;refine aH bx (.pure 0 (.pure 1 (.pure 2 (.pure 3 (.pure 4 (.pure 5 (.pure 6 (.read 7 (.pure 8 (.pure 9 (.pure 10 (.read 11 (.eff 12 [] (.pure 13 (.pure 14 .nil))))))))))))))) (by kernel_rfl) ?_;refine ym O (ym O ?_);by_cases hij:i2<=j
    ·refine yp O (λ_=>bG (fN O O) (congrArg Value.bool (decide_eq_true ((by omega))))) ?_;refine ym O (ym O (ym O (yex O (aS (a) aZ I25 O (ho82.sl) O O (by first|rfl|omega) (by omega)) ?_)));rintro _ ⟨b83,o83,rfl,he83,hb83⟩;refine aG O O O bu O O ((ho82.sl.at he83 (getD_some (d:=0) (by omega))).c0 O) ?_;refine ym O (ym O (yex O (aS (i2) aZ I25 O (ho82.sl) O O (by first|rfl|omega) (by omega)) ?_));rintro _ ⟨b84,o84,rfl,he84,hb84⟩;refine aG O O O bu O O ((ho82.sl.at he84 (getD_some (d:=0) (by omega))).c0 O) ?_;refine ycl O qG (eR (l82.getD (a) 0) (l82.getD (i2) 0) _) ?_;rintro _ v85 ⟨rfl,hv85⟩;refine⟨trivial,?_⟩;refine yp O (λ_=>(cz O)) ?_;refine yp O (λ_=>(aN O)) ?_;refine az ?_;have hcv85:Chg [] w2 v85:=by rw[hv85];exact Chg.heap O
     have hS85:SPm (.slice pv n cv) l0 w0 v85:=SPm.chg0 ⟨l82,ho82,hp82,hk82⟩ hcv85;refine bX O (λhls=>?_) (λhls=>?_)
     ·refine zKN (aq (ae (zmv O (aC O O (by omega)) (za O ?_))));refine bA (ax (aj ?_));have hob1:∃z,q2=z+1:=⟨q2-1,by omega⟩
      obtain⟨q2,rfl⟩:=hob1;refine aT (q2) (bq (by omega) ?_);exact⟨i2+1,rfl,by omega,by omega,by omega,hS85⟩
     ·refine zxx ?_;exact⟨i2,rfl,hi2,hi2b,hS85⟩
    ·refine yp O (λ_=>bG (fN O O) (congrArg Value.bool (decide_eq_false ((by omega))))) ?_;refine ym O (yno O (yno O (yno O (cA O O O (yno O (yno O (yno O (cA O O O (iY O O O (yno O (yp O (λ_=>(aK O)) ?_)))))))))));refine az (aI (rfl) (zxx ?_));exact⟨i2,rfl,hi2,hi2b,h2.chg0 (drw _)⟩
  ·rintro vs2 J2 w2 ⟨i2,rfl,hi2,hi2b,h2⟩;refine dY [0,1,9,10] (λvs w'=>∃j2:Nat,vs=[.slice pv n cv,.int .i64 a,.int .i64 i2,.int .i64 j2]/\j2<=j/\a<=j2/\SPm (.slice pv n cv) l0 w0 w') ?_ ?_
   ·refine aq (aX [0,1,9,10] (λq2 vs w'=>∃j2:Nat,vs=[.slice pv n cv,.int .i64 a,.int .i64 i2,.int .i64 j2]/\j2+1<=q2/\j2<=j/\a<=j2/\SPm (.slice pv n cv) l0 w0 w') (j+1) ?_ ?_)
    ·exact⟨j,rfl,by omega,aM _,by omega,h2⟩
    ·rintro q2 vs3 J3 w3 ⟨j2,rfl,hq2,hj2,hj2a,h3⟩;refine aa (aa ?_);obtain⟨l86,ho86,hp86,hk86⟩:=id h3;have hl86:l86.length=n:=hp86.length_eq.trans hn;refine aH bx (.pure 0 (.pure 1 (.pure 2 (.pure 3 (.pure 4 (.pure 5 (.pure 6 (.read 7 (.pure 8 (.pure 9 (.pure 10 (.read 11 (.eff 12 [] (.pure 13 .nil)))))))))))))) (by kernel_rfl) ?_;refine ym O (ym O ?_);by_cases hij:i2<=j2
     ·refine yp O (λ_=>bG (fN O O) (congrArg Value.bool (decide_eq_true ((by omega))))) ?_;refine ym O (ym O (ym O (yex O (aS (a) aZ I25 O (ho86.sl) O O (by first|rfl|omega) (by omega)) ?_)));rintro _ ⟨b87,o87,rfl,he87,hb87⟩;refine aG O O O bu O O ((ho86.sl.at he87 (getD_some (d:=0) (by omega))).c0 O) ?_;refine ym O (ym O (yex O (aS (j2) aZ I25 O (ho86.sl) O O (by first|rfl|omega) (by omega)) ?_));rintro _ ⟨b88,o88,rfl,he88,hb88⟩;refine aG O O O bu O O ((ho86.sl.at he88 (getD_some (d:=0) (by omega))).c0 O) ?_;refine ycl O qG (eR (l86.getD (a) 0) (l86.getD (j2) 0) _) ?_;rintro _ v89 ⟨rfl,hv89⟩;refine⟨trivial,?_⟩;refine yp O (λ_=>(aN O)) ?_;refine az ?_;have hcv89:Chg [] w3 v89:=by rw[hv89];exact Chg.heap O
      have hS89:SPm (.slice pv n cv) l0 w0 v89:=SPm.chg0 ⟨l86,ho86,hp86,hk86⟩ hcv89;refine aA O (λhls=>?_) (λhls=>?_)
      ·refine zKN (aq (ae (zmv O (bf O O (by omega)) (za O ?_))));refine bA (ax (aj ?_));have hob2:∃z,j2=z+1:=⟨j2-1,by omega⟩
       obtain⟨j2,rfl⟩:=hob2;have hob3:∃z,q2=z+1:=⟨q2-1,by omega⟩
       obtain⟨q2,rfl⟩:=hob3;refine aT (q2) (bq (by omega) ?_);exact⟨j2,(au O (au O (au O (au (bL (by omega)) bO)))),by omega,by omega,by omega,hS89⟩
      ·refine zxx ?_;exact⟨j2,rfl,hj2,hj2a,hS89⟩
     ·refine yp O (λ_=>bG (fN O O) (congrArg Value.bool (decide_eq_false ((by omega))))) ?_;refine ym O (yno O (yno O (yno O (cA O O O (yno O (yno O (yno O (cA O O O (iY O O O (yp O (λ_=>(aK O)) ?_))))))))));refine az (aI (rfl) (zxx ?_));exact⟨j2,rfl,hj2,hj2a,h3.chg0 (drw _)⟩
   ·rintro vs3 J3 w3 ⟨j2,rfl,hj2,hj2a,h3⟩;refine aa (zSR (zmm O (a7 O (dk O O) ?_)));refine a6 (aA O (λhgt=>?_) (λhgt=>?_))
    ·refine aO (an (jt O (an (aE (aj ?_)))));refine zSR (zma O (a6 (zrf ?_)));exact⟨⟨i2,rfl,by omega,by omega⟩,h3⟩
    ·refine zKN (aa ?_);have hob4:∃z,q=z+1:=⟨q-1,by omega⟩
     obtain⟨q,rfl⟩:=hob4;have hob5:∃z,j2=z+1:=⟨j2-1,by omega⟩
     obtain⟨j2,rfl⟩:=hob5;obtain⟨l90,ho90,hp90,hk90⟩:=id h3;have hl90:l90.length=n:=hp90.length_eq.trans hn;refine aH bx (.pure 0 (.pure 1 (.pure 2 (.pure 3 (.pure 4 (.pure 5 (.pure 6 (.read 7 (.pure 8 (.pure 9 (.pure 10 (.read 11 (.pure 12 (.eff 13 [] (.pure 14 (.eff 15 [] .nil)))))))))))))))) (by kernel_rfl) ?_;refine ym O (ym O (ym O (ym O (ym O (ym O (yex O (aS (j2+1) aZ I25 O (ho90.sl) O O (by first|rfl|omega) (by omega)) ?_))))));rintro _ ⟨b91,o91,rfl,he91,hb91⟩;refine aG O O O bu O O ((ho90.sl.at he91 (getD_some (d:=0) (by omega))).c0 O) ?_;refine ym O (ym O (yex O (aS (i2) aZ I25 O (ho90.sl) O O (by first|rfl|omega) (by omega)) ?_));rintro _ ⟨b92,o92,rfl,he92,hb92⟩;refine aG O O O bu O O ((ho90.sl.at he92 (getD_some (d:=0) (by omega))).c0 O) ?_;refine yex O (aS (i2) aZ I25 O (ho90.sl) O O (by first|rfl|omega) (by omega)) ?_;rintro _ ⟨b93,o93,rfl,he93,hb93⟩;refine dx O (bU (a:=l90.getD (j2+1) 0) I25 O (ho90.mod0 (drw _)) O (he93) O O (by omega)) ?_;rintro u93 ⟨hou93,hcu93,hsu93⟩;refine⟨trivial,?_⟩;refine yex O (aS (j2+1) aZ I25 O (hou93.sl) O O (by first|rfl|omega) (by simp;omega)) ?_;rintro _ ⟨b94,o94,rfl,he94,hb94⟩;refine dx O (bU (a:=l90.getD (i2) 0) I25 O (hou93) O (he94) O O (by simp;omega)) ?_;rintro u94 ⟨hou94,hcu94,hsu94⟩;refine⟨trivial,?_⟩;refine zPR (zmv O (aC O O (by omega)) (za O ?_));refine a6 (ae (zmv O (bf O O (by omega)) (za O ?_)));refine bA (ax (aj ?_));have hS94:SPm (.slice pv n cv) l0 w0 u94:=⟨_,hou94,(eF l90 (i2) (j2+1) (by omega) (by omega)).trans hp90,((hk90.tr0 (drw _)).tr hcu93).tr hcu94⟩
     refine aT (q) (bq (by omega) ?_);exact⟨i2+1,j2,(au O (au O (au O (au (bL (by omega)) bO)))),by omega,by omega,by omega,by omega,by omega,hS94⟩
theorem Hg{pv:Option Addr}{n cv:Nat}{l0:List UInt32}{w0 w:World}(h:SPm (.slice pv n cv) l0 w0 w)(hn:l0.length=n)(hm:n<=1000)(a b p:Nat)(hab:a+1<b)(hb:b<=n)(_:a<=p)(hp2:p<b) :
  Ret Tryz.prog 223 #[.slice pv n cv,.int .i64 a,.int .i64 b,.int .i64 p] w λr w'=>(∃(c:Nat) (t:Bool),r=.tuple #[.int .i64 c,.bool t]/\a<=c/\c<b)/\SPm (.slice pv n cv) l0 w0 w':=by
 obtain⟨b1,hb1⟩:∃z:Nat,b=z+1:=⟨b-1,by omega⟩
 have hbi:(b:Int)-1=(b1:Int):=by omega
 refine enter [8,9] Tryz.func223 O O (al O) (zSR (zaa O (a6 (aa ?_))));obtain⟨l95,ho95,hp95,hk95⟩:=id h;have hl95:l95.length=n:=hp95.length_eq.trans hn;refine aH bx (.pure 0 (.pure 1 (.pure 2 (.pure 3 (.pure 4 (.pure 5 (.pure 6 (.read 7 (.pure 8 (.pure 9 (.pure 10 (.read 11 (.pure 12 (.eff 13 [] (.pure 14 (.eff 15 [] .nil)))))))))))))))) (by kernel_rfl) ?_;refine ym O (ym O (ym O (ym O (ym O (ym O (yex O (aS (p) aZ I25 O (ho95.sl) O O (by first|rfl|omega) (by omega)) ?_))))));rintro _ ⟨b96,o96,rfl,he96,hb96⟩;refine aG O O O bu O O ((ho95.sl.at he96 (getD_some (d:=0) (by omega))).c0 O) ?_;refine ym O (ym O (yex O (aS (a) aZ I25 O (ho95.sl) O O (by first|rfl|omega) (by omega)) ?_));rintro _ ⟨b97,o97,rfl,he97,hb97⟩;refine aG O O O bu O O ((ho95.sl.at he97 (getD_some (d:=0) (by omega))).c0 O) ?_;refine yex O (aS (a) aZ I25 O (ho95.sl) O O (by first|rfl|omega) (by omega)) ?_;rintro _ ⟨b98,o98,rfl,he98,hb98⟩;refine dx O (bU (a:=l95.getD (p) 0) I25 O (ho95.mod0 (drw _)) O (he98) O O (by omega)) ?_;rintro u98 ⟨hou98,hcu98,hsu98⟩;refine⟨trivial,?_⟩;refine yex O (aS (p) aZ I25 O (hou98.sl) O O (by first|rfl|omega) (by simp;omega)) ?_;rintro _ ⟨b99,o99,rfl,he99,hb99⟩;refine dx O (bU (a:=l95.getD (a) 0) I25 O (hou98) O (he99) O O (by simp;omega)) ?_;rintro u99 ⟨hou99,hcu99,hsu99⟩;refine⟨trivial,?_⟩;refine az ?_;have hS99:SPm (.slice pv n cv) l0 w0 u99:=⟨_,hou99,(eF l95 (a) (p) (by omega) (by omega)).trans hp95,((hk95.tr0 (drw _)).tr hcu98).tr hcu99⟩
 refine zSR (zmv O (aC O O (by omega)) (zmv O (bf O O (by omega)) (zaa O ?_)));refine a6 ?_;rw[hbi];refine dY [0,1,10,11] (λvs w'=>∃i2:Nat,vs=[.slice pv n cv,.int .i64 a,.int .i64 i2,.int .i64 b1]/\(a+1)<=i2/\i2<=b/\SPm (.slice pv n cv) l0 w0 w') ?_ ?_
 ·refine aq (aX [0,1,10,11] (λq2 vs w'=>∃i2:Nat,vs=[.slice pv n cv,.int .i64 a,.int .i64 i2,.int .i64 b1]/\b+1<=i2+q2/\(a+1)<=i2/\i2<=b/\SPm (.slice pv n cv) l0 w0 w') (n+1) ?_ ?_)
  ·exact⟨(a+1),rfl,by omega,aM _,by omega,hS99⟩
  ·rintro q2 vs2 J2 w2 ⟨i2,rfl,hq2,hi2,hi2b,h2⟩;refine aa (aa ?_);obtain⟨l100,ho100,hp100,hk100⟩:=id h2;have hl100:l100.length=n:=hp100.length_eq.trans hn;refine aH bx (.pure 0 (.pure 1 (.pure 2 (.pure 3 (.pure 4 (.pure 5 (.pure 6 (.read 7 (.pure 8 (.pure 9 (.pure 10 (.read 11 (.eff 12 [] (.pure 13 .nil)))))))))))))) (by kernel_rfl) ?_;refine ym O (ym O ?_);by_cases hij:i2<=b1
   ·refine yp O (λ_=>bG (fN O O) (congrArg Value.bool (decide_eq_true ((by omega))))) ?_;refine ym O (ym O (ym O (yex O (aS (i2) aZ I25 O (ho100.sl) O O (by first|rfl|omega) (by omega)) ?_)));rintro _ ⟨b101,o101,rfl,he101,hb101⟩;refine aG O O O bu O O ((ho100.sl.at he101 (getD_some (d:=0) (by omega))).c0 O) ?_;refine ym O (ym O (yex O (aS (a) aZ I25 O (ho100.sl) O O (by first|rfl|omega) (by omega)) ?_));rintro _ ⟨b102,o102,rfl,he102,hb102⟩;refine aG O O O bu O O ((ho100.sl.at he102 (getD_some (d:=0) (by omega))).c0 O) ?_;refine ycl O qG (eR (l100.getD (i2) 0) (l100.getD (a) 0) _) ?_;rintro _ v103 ⟨rfl,hv103⟩;refine⟨trivial,?_⟩;refine yp O (λ_=>(aN O)) ?_;refine az ?_;have hcv103:Chg [] w2 v103:=by rw[hv103];exact Chg.heap O
    have hS103:SPm (.slice pv n cv) l0 w0 v103:=SPm.chg0 ⟨l100,ho100,hp100,hk100⟩ hcv103;refine aA O (λhls=>?_) (λhls=>?_)
    ·refine zKN (aq (ae (zmv O (aC O O (by omega)) (za O ?_))));refine bA (ax (aj ?_));have hob1:∃z,q2=z+1:=⟨q2-1,by omega⟩
     obtain⟨q2,rfl⟩:=hob1;refine aT (q2) (bq (by omega) ?_);exact⟨i2+1,rfl,by omega,by omega,by omega,hS103⟩
    ·refine zxx ?_;exact⟨i2,rfl,hi2,hi2b,hS103⟩
   ·refine yp O (λ_=>bG (fN O O) (congrArg Value.bool (decide_eq_false ((by omega))))) ?_;refine ym O (yno O (yno O (yno O (cA O O O (yno O (yno O (yno O (cA O O O (iY O O O (yp O (λ_=>(aK O)) ?_))))))))));refine az (aI (rfl) (zxx ?_));exact⟨i2,rfl,hi2,hi2b,h2.chg0 (drw _)⟩
 ·rintro vs2 J2 w2 ⟨i2,rfl,hi2,hi2b,h2⟩;refine dY [0,1,10,11] (λvs w'=>∃j2:Nat,vs=[.slice pv n cv,.int .i64 a,.int .i64 i2,.int .i64 j2]/\j2<=b1/\a<=j2/\SPm (.slice pv n cv) l0 w0 w') ?_ ?_
  ·refine aq (aX [0,1,10,11] (λq2 vs w'=>∃j2:Nat,vs=[.slice pv n cv,.int .i64 a,.int .i64 i2,.int .i64 j2]/\j2+1<=q2/\j2<=b1/\a<=j2/\SPm (.slice pv n cv) l0 w0 w') (b1+1) ?_ ?_)
   ·exact⟨b1,rfl,by omega,aM _,by omega,h2⟩
   ·rintro q2 vs3 J3 w3 ⟨j2,rfl,hq2,hj2,hj2a,h3⟩;refine aa (aa ?_);obtain⟨l104,ho104,hp104,hk104⟩:=id h3;have hl104:l104.length=n:=hp104.length_eq.trans hn;refine aH bx (.pure 0 (.pure 1 (.pure 2 (.pure 3 (.pure 4 (.pure 5 (.pure 6 (.read 7 (.pure 8 (.pure 9 (.pure 10 (.read 11 (.eff 12 [] (.pure 13 (.pure 14 .nil))))))))))))))) (by kernel_rfl) ?_;refine ym O (ym O ?_);by_cases hij:i2<=j2
    ·refine yp O (λ_=>bG (fN O O) (congrArg Value.bool (decide_eq_true ((by omega))))) ?_;refine ym O (ym O (ym O (yex O (aS (j2) aZ I25 O (ho104.sl) O O (by first|rfl|omega) (by omega)) ?_)));rintro _ ⟨b105,o105,rfl,he105,hb105⟩;refine aG O O O bu O O ((ho104.sl.at he105 (getD_some (d:=0) (by omega))).c0 O) ?_;refine ym O (ym O (yex O (aS (a) aZ I25 O (ho104.sl) O O (by first|rfl|omega) (by omega)) ?_));rintro _ ⟨b106,o106,rfl,he106,hb106⟩;refine aG O O O bu O O ((ho104.sl.at he106 (getD_some (d:=0) (by omega))).c0 O) ?_;refine ycl O qG (eR (l104.getD (j2) 0) (l104.getD (a) 0) _) ?_;rintro _ v107 ⟨rfl,hv107⟩;refine⟨trivial,?_⟩;refine yp O (λ_=>(cz O)) ?_;refine yp O (λ_=>(aN O)) ?_;refine az ?_;have hcv107:Chg [] w3 v107:=by rw[hv107];exact Chg.heap O
     have hS107:SPm (.slice pv n cv) l0 w0 v107:=SPm.chg0 ⟨l104,ho104,hp104,hk104⟩ hcv107;refine bX O (λhls=>?_) (λhls=>?_)
     ·refine zKN (aq (ae (zmv O (bf O O (by omega)) (za O ?_))));refine bA (ax (aj ?_));have hob2:∃z,j2=z+1:=⟨j2-1,by omega⟩
      obtain⟨j2,rfl⟩:=hob2;have hob3:∃z,q2=z+1:=⟨q2-1,by omega⟩
      obtain⟨q2,rfl⟩:=hob3;refine aT (q2) (bq (by omega) ?_);exact⟨j2,(au O (au O (au O (au (bL (by omega)) bO)))),by omega,by omega,by omega,hS107⟩
     ·refine zxx ?_;exact⟨j2,rfl,hj2,hj2a,hS107⟩
    ·refine yp O (λ_=>bG (fN O O) (congrArg Value.bool (decide_eq_false ((by omega))))) ?_;refine ym O (yno O (yno O (yno O (cA O O O (yno O (yno O (yno O (cA O O O (iY O O O (yno O (yp O (λ_=>(aK O)) ?_)))))))))));refine az (aI (rfl) (zxx ?_));exact⟨j2,rfl,hj2,hj2a,h3.chg0 (drw _)⟩
  ·rintro vs3 J3 w3 ⟨j2,rfl,hj2,hj2a,h3⟩;refine aa (zSR (zmm O (a7 O (dk O O) ?_)));refine a6 (aA O (λhgt=>?_) (λhgt=>?_))
   ·refine aa ?_;obtain⟨l108,ho108,hp108,hk108⟩:=id h3;have hl108:l108.length=n:=hp108.length_eq.trans hn;refine aH bx (.pure 0 (.pure 1 (.pure 2 (.pure 3 (.pure 4 (.pure 5 (.pure 6 (.read 7 (.pure 8 (.pure 9 (.pure 10 (.read 11 (.pure 12 (.eff 13 [] (.pure 14 (.eff 15 [] .nil)))))))))))))))) (by kernel_rfl) ?_;refine ym O (ym O (ym O (ym O (ym O (ym O (yex O (aS (a) aZ I25 O (ho108.sl) O O (by first|rfl|omega) (by omega)) ?_))))));rintro _ ⟨b109,o109,rfl,he109,hb109⟩;refine aG O O O bu O O ((ho108.sl.at he109 (getD_some (d:=0) (by omega))).c0 O) ?_;refine ym O (ym O (yex O (aS (j2) aZ I25 O (ho108.sl) O O (by first|rfl|omega) (by omega)) ?_));rintro _ ⟨b110,o110,rfl,he110,hb110⟩;refine aG O O O bu O O ((ho108.sl.at he110 (getD_some (d:=0) (by omega))).c0 O) ?_;refine yex O (aS (j2) aZ I25 O (ho108.sl) O O (by first|rfl|omega) (by omega)) ?_;rintro _ ⟨b111,o111,rfl,he111,hb111⟩;refine dx O (bU (a:=l108.getD (a) 0) I25 O (ho108.mod0 (drw _)) O (he111) O O (by omega)) ?_;rintro u111 ⟨hou111,hcu111,hsu111⟩;refine⟨trivial,?_⟩;refine yex O (aS (a) aZ I25 O (hou111.sl) O O (by first|rfl|omega) (by simp;omega)) ?_;rintro _ ⟨b112,o112,rfl,he112,hb112⟩;refine dx O (bU (a:=l108.getD (j2) 0) I25 O (hou111) O (he112) O O (by simp;omega)) ?_;rintro u112 ⟨hou112,hcu112,hsu112⟩;refine⟨trivial,?_⟩;refine zPR (zma O (za O (a6 (zrt ?_))));have hS112:SPm (.slice pv n cv) l0 w0 u112:=⟨_,hou112,(eF l108 (j2) (a) (by omega) (by omega)).trans hp108,((hk108.tr0 (drw _)).tr hcu111).tr hcu112⟩
    exact⟨⟨j2,true,rfl,by omega,by omega⟩,hS112⟩
   ·refine zKN (aa ?_);have hob4:∃z,j2=z+1:=⟨j2-1,by omega⟩
    obtain⟨j2,rfl⟩:=hob4;obtain⟨l113,ho113,hp113,hk113⟩:=id h3;have hl113:l113.length=n:=hp113.length_eq.trans hn;refine aH bx (.pure 0 (.pure 1 (.pure 2 (.pure 3 (.pure 4 (.pure 5 (.pure 6 (.read 7 (.pure 8 (.pure 9 (.pure 10 (.read 11 (.pure 12 (.eff 13 [] (.pure 14 (.eff 15 [] .nil)))))))))))))))) (by kernel_rfl) ?_;refine ym O (ym O (ym O (ym O (ym O (ym O (yex O (aS (j2+1) aZ I25 O (ho113.sl) O O (by first|rfl|omega) (by omega)) ?_))))));rintro _ ⟨b114,o114,rfl,he114,hb114⟩;refine aG O O O bu O O ((ho113.sl.at he114 (getD_some (d:=0) (by omega))).c0 O) ?_;refine ym O (ym O (yex O (aS (i2) aZ I25 O (ho113.sl) O O (by first|rfl|omega) (by omega)) ?_));rintro _ ⟨b115,o115,rfl,he115,hb115⟩;refine aG O O O bu O O ((ho113.sl.at he115 (getD_some (d:=0) (by omega))).c0 O) ?_;refine yex O (aS (i2) aZ I25 O (ho113.sl) O O (by first|rfl|omega) (by omega)) ?_;rintro _ ⟨b116,o116,rfl,he116,hb116⟩;refine dx O (bU (a:=l113.getD (j2+1) 0) I25 O (ho113.mod0 (drw _)) O (he116) O O (by omega)) ?_;rintro u116 ⟨hou116,hcu116,hsu116⟩;refine⟨trivial,?_⟩;refine yex O (aS (j2+1) aZ I25 O (hou116.sl) O O (by first|rfl|omega) (by simp;omega)) ?_;rintro _ ⟨b117,o117,rfl,he117,hb117⟩;refine dx O (bU (a:=l113.getD (i2) 0) I25 O (hou116) O (he117) O O (by simp;omega)) ?_;rintro u117 ⟨hou117,hcu117,hsu117⟩;refine⟨trivial,?_⟩;refine zPR (zmv O (aC O O (by omega)) (za O ?_));refine zNR (zmv O (bf O O (by omega)) (za O ?_));refine a6 (aa (aq ?_));have hS117:SPm (.slice pv n cv) l0 w0 u117:=⟨_,hou117,(eF l113 (i2) (j2+1) (by omega) (by omega)).trans hp113,((hk113.tr0 (drw _)).tr hcu116).tr hcu117⟩
    refine aX [0,1,10,11] (λq vs w'=>∃i j:Nat,vs=[.slice pv n cv,.int .i64 a,.int .i64 i,.int .i64 j]/\j+2<=i+q/\a+1<=i/\i<=b/\a<=j/\j<b/\SPm (.slice pv n cv) l0 w0 w') (n+2) ?_ ?_
    ·exact⟨i2+1,j2,(au O (au O (au O (au (bL (by omega)) bO)))),by omega,by omega,by omega,by omega,by omega,hS117⟩
    ·rintro q vs J w4 ⟨i,j,rfl,hq,h1a,h1b,h1c,h1d,h1⟩;refine aq (dY [0,1,10,11] (λvs w'=>∃i2:Nat,vs=[.slice pv n cv,.int .i64 a,.int .i64 i2,.int .i64 j]/\i<=i2/\i2<=b/\SPm (.slice pv n cv) l0 w0 w') ?_ ?_)
     ·refine aq (aX [0,1,10,11] (λq2 vs w'=>∃i2:Nat,vs=[.slice pv n cv,.int .i64 a,.int .i64 i2,.int .i64 j]/\b+1<=i2+q2/\i<=i2/\i2<=b/\SPm (.slice pv n cv) l0 w0 w') (n+1) ?_ ?_)
      ·exact⟨i,rfl,by omega,aM _,by omega,h1⟩
      ·rintro q2 vs2 J2 w2 ⟨i2,rfl,hq2,hi2,hi2b,h2⟩;refine aa (aa ?_);obtain⟨l118,ho118,hp118,hk118⟩:=id h2;have hl118:l118.length=n:=hp118.length_eq.trans hn;refine aH bx (.pure 0 (.pure 1 (.pure 2 (.pure 3 (.pure 4 (.pure 5 (.pure 6 (.read 7 (.pure 8 (.pure 9 (.pure 10 (.read 11 (.eff 12 [] (.pure 13 .nil)))))))))))))) (by kernel_rfl) ?_;refine ym O (ym O ?_);by_cases hij:i2<=j
       ·refine yp O (λ_=>bG (fN O O) (congrArg Value.bool (decide_eq_true ((by omega))))) ?_;refine ym O (ym O (ym O (yex O (aS (i2) aZ I25 O (ho118.sl) O O (by first|rfl|omega) (by omega)) ?_)));rintro _ ⟨b119,o119,rfl,he119,hb119⟩;refine aG O O O bu O O ((ho118.sl.at he119 (getD_some (d:=0) (by omega))).c0 O) ?_;refine ym O (ym O (yex O (aS (a) aZ I25 O (ho118.sl) O O (by first|rfl|omega) (by omega)) ?_));rintro _ ⟨b120,o120,rfl,he120,hb120⟩;refine aG O O O bu O O ((ho118.sl.at he120 (getD_some (d:=0) (by omega))).c0 O) ?_;refine ycl O qG (eR (l118.getD (i2) 0) (l118.getD (a) 0) _) ?_;rintro _ v121 ⟨rfl,hv121⟩;refine⟨trivial,?_⟩;refine yp O (λ_=>(aN O)) ?_;refine az ?_;have hcv121:Chg [] w2 v121:=by rw[hv121];exact Chg.heap O
        have hS121:SPm (.slice pv n cv) l0 w0 v121:=SPm.chg0 ⟨l118,ho118,hp118,hk118⟩ hcv121;refine aA O (λhls=>?_) (λhls=>?_)
        ·refine zKN (aq (ae (zmv O (aC O O (by omega)) (za O ?_))));refine bA (ax (aj ?_));have hob5:∃z,q2=z+1:=⟨q2-1,by omega⟩
         obtain⟨q2,rfl⟩:=hob5;refine aT (q2) (bq (by omega) ?_);exact⟨i2+1,rfl,by omega,by omega,by omega,hS121⟩
        ·refine zxx ?_;exact⟨i2,rfl,hi2,hi2b,hS121⟩
       ·refine yp O (λ_=>bG (fN O O) (congrArg Value.bool (decide_eq_false ((by omega))))) ?_;refine ym O (yno O (yno O (yno O (cA O O O (yno O (yno O (yno O (cA O O O (iY O O O (yp O (λ_=>(aK O)) ?_))))))))));refine az (aI (rfl) (zxx ?_));exact⟨i2,rfl,hi2,hi2b,h2.chg0 (drw _)⟩
     ·rintro vs2 J2 w2 ⟨i2,rfl,hi2,hi2b,h2⟩;refine dY [0,1,10,11] (λvs w'=>∃j2:Nat,vs=[.slice pv n cv,.int .i64 a,.int .i64 i2,.int .i64 j2]/\j2<=j/\a<=j2/\SPm (.slice pv n cv) l0 w0 w') ?_ ?_
      ·refine aq (aX [0,1,10,11] (λq2 vs w'=>∃j2:Nat,vs=[.slice pv n cv,.int .i64 a,.int .i64 i2,.int .i64 j2]/\j2+1<=q2/\j2<=j/\a<=j2/\SPm (.slice pv n cv) l0 w0 w') (j+1) ?_ ?_)
       ·exact⟨j,rfl,by omega,aM _,by omega,h2⟩
       ·rintro q2 vs3 J3 w3 ⟨j2,rfl,hq2,hj2,hj2a,h3⟩;refine aa (aa ?_);obtain⟨l122,ho122,hp122,hk122⟩:=id h3;have hl122:l122.length=n:=hp122.length_eq.trans hn;refine aH bx (.pure 0 (.pure 1 (.pure 2 (.pure 3 (.pure 4 (.pure 5 (.pure 6 (.read 7 (.pure 8 (.pure 9 (.pure 10 (.read 11 (.eff 12 [] (.pure 13 (.pure 14 .nil))))))))))))))) (by kernel_rfl) ?_;refine ym O (ym O ?_);by_cases hij:i2<=j2
        ·refine yp O (λ_=>bG (fN O O) (congrArg Value.bool (decide_eq_true ((by omega))))) ?_;refine ym O (ym O (ym O (yex O (aS (j2) aZ I25 O (ho122.sl) O O (by first|rfl|omega) (by omega)) ?_)));rintro _ ⟨b123,o123,rfl,he123,hb123⟩;refine aG O O O bu O O ((ho122.sl.at he123 (getD_some (d:=0) (by omega))).c0 O) ?_;refine ym O (ym O (yex O (aS (a) aZ I25 O (ho122.sl) O O (by first|rfl|omega) (by omega)) ?_));rintro _ ⟨b124,o124,rfl,he124,hb124⟩;refine aG O O O bu O O ((ho122.sl.at he124 (getD_some (d:=0) (by omega))).c0 O) ?_;refine ycl O qG (eR (l122.getD (j2) 0) (l122.getD (a) 0) _) ?_;rintro _ v125 ⟨rfl,hv125⟩;refine⟨trivial,?_⟩;refine yp O (λ_=>(cz O)) ?_;refine yp O (λ_=>(aN O)) ?_;refine az ?_;have hcv125:Chg [] w3 v125:=by rw[hv125];exact Chg.heap O
         have hS125:SPm (.slice pv n cv) l0 w0 v125:=SPm.chg0 ⟨l122,ho122,hp122,hk122⟩ hcv125;refine bX O (λhls=>?_) (λhls=>?_)
         ·refine zKN (aq (ae (zmv O (bf O O (by omega)) (za O ?_))));refine bA (ax (aj ?_));have hob6:∃z,j2=z+1:=⟨j2-1,by omega⟩
          obtain⟨j2,rfl⟩:=hob6;have hob7:∃z,q2=z+1:=⟨q2-1,by omega⟩
          obtain⟨q2,rfl⟩:=hob7;refine aT (q2) (bq (by omega) ?_);exact⟨j2,(au O (au O (au O (au (bL (by omega)) bO)))),by omega,by omega,by omega,hS125⟩
         ·refine zxx ?_;exact⟨j2,rfl,hj2,hj2a,hS125⟩
        ·refine yp O (λ_=>bG (fN O O) (congrArg Value.bool (decide_eq_false ((by omega))))) ?_;refine ym O (yno O (yno O (yno O (cA O O O (yno O (yno O (yno O (cA O O O (iY O O O (yno O (yp O (λ_=>(aK O)) ?_)))))))))));refine az (aI (rfl) (zxx ?_));exact⟨j2,rfl,hj2,hj2a,h3.chg0 (drw _)⟩
      ·rintro vs3 J3 w3 ⟨j2,rfl,hj2,hj2a,h3⟩;refine aa (zSR (zmm O (a7 O (dk O O) ?_)));refine a6 (aA O (λhgt2=>?_) (λhgt2=>?_))
       ·refine aO (an (jt O (an (aE (aj ?_)))));refine aa ?_;obtain⟨l126,ho126,hp126,hk126⟩:=id h3;have hl126:l126.length=n:=hp126.length_eq.trans hn;refine aH bx (.pure 0 (.pure 1 (.pure 2 (.pure 3 (.pure 4 (.pure 5 (.pure 6 (.read 7 (.pure 8 (.pure 9 (.pure 10 (.read 11 (.pure 12 (.eff 13 [] (.pure 14 (.eff 15 [] .nil)))))))))))))))) (by kernel_rfl) ?_;refine ym O (ym O (ym O (ym O (ym O (ym O (yex O (aS (a) aZ I25 O (ho126.sl) O O (by first|rfl|omega) (by omega)) ?_))))));rintro _ ⟨b127,o127,rfl,he127,hb127⟩;refine aG O O O bu O O ((ho126.sl.at he127 (getD_some (d:=0) (by omega))).c0 O) ?_;refine ym O (ym O (yex O (aS (j2) aZ I25 O (ho126.sl) O O (by first|rfl|omega) (by omega)) ?_));rintro _ ⟨b128,o128,rfl,he128,hb128⟩;refine aG O O O bu O O ((ho126.sl.at he128 (getD_some (d:=0) (by omega))).c0 O) ?_;refine yex O (aS (j2) aZ I25 O (ho126.sl) O O (by first|rfl|omega) (by omega)) ?_;rintro _ ⟨b129,o129,rfl,he129,hb129⟩;refine dx O (bU (a:=l126.getD (a) 0) I25 O (ho126.mod0 (drw _)) O (he129) O O (by omega)) ?_;rintro u129 ⟨hou129,hcu129,hsu129⟩;refine⟨trivial,?_⟩;refine yex O (aS (a) aZ I25 O (hou129.sl) O O (by first|rfl|omega) (by simp;omega)) ?_;rintro _ ⟨b130,o130,rfl,he130,hb130⟩;refine dx O (bU (a:=l126.getD (j2) 0) I25 O (hou129) O (he130) O O (by simp;omega)) ?_;rintro u130 ⟨hou130,hcu130,hsu130⟩;refine⟨trivial,?_⟩;refine zPR (zma O (za O (a6 (zrf ?_))));have hS130:SPm (.slice pv n cv) l0 w0 u130:=⟨_,hou130,(eF l126 (j2) (a) (by omega) (by omega)).trans hp126,((hk126.tr0 (drw _)).tr hcu129).tr hcu130⟩
        exact⟨⟨j2,false,rfl,by omega,by omega⟩,hS130⟩
       ·refine zKN (aa ?_);have hob8:∃z,q=z+1:=⟨q-1,by omega⟩
        obtain⟨q,rfl⟩:=hob8;have hob9:∃z,j2=z+1:=⟨j2-1,by omega⟩
        obtain⟨j2,rfl⟩:=hob9;obtain⟨l131,ho131,hp131,hk131⟩:=id h3;have hl131:l131.length=n:=hp131.length_eq.trans hn;refine aH bx (.pure 0 (.pure 1 (.pure 2 (.pure 3 (.pure 4 (.pure 5 (.pure 6 (.read 7 (.pure 8 (.pure 9 (.pure 10 (.read 11 (.pure 12 (.eff 13 [] (.pure 14 (.eff 15 [] .nil)))))))))))))))) (by kernel_rfl) ?_;refine ym O (ym O (ym O (ym O (ym O (ym O (yex O (aS (j2+1) aZ I25 O (ho131.sl) O O (by first|rfl|omega) (by omega)) ?_))))));rintro _ ⟨b132,o132,rfl,he132,hb132⟩;refine aG O O O bu O O ((ho131.sl.at he132 (getD_some (d:=0) (by omega))).c0 O) ?_;refine ym O (ym O (yex O (aS (i2) aZ I25 O (ho131.sl) O O (by first|rfl|omega) (by omega)) ?_));rintro _ ⟨b133,o133,rfl,he133,hb133⟩;refine aG O O O bu O O ((ho131.sl.at he133 (getD_some (d:=0) (by omega))).c0 O) ?_;refine yex O (aS (i2) aZ I25 O (ho131.sl) O O (by first|rfl|omega) (by omega)) ?_;rintro _ ⟨b134,o134,rfl,he134,hb134⟩;refine dx O (bU (a:=l131.getD (j2+1) 0) I25 O (ho131.mod0 (drw _)) O (he134) O O (by omega)) ?_;rintro u134 ⟨hou134,hcu134,hsu134⟩;refine⟨trivial,?_⟩;refine yex O (aS (j2+1) aZ I25 O (hou134.sl) O O (by first|rfl|omega) (by simp;omega)) ?_;rintro _ ⟨b135,o135,rfl,he135,hb135⟩;refine dx O (bU (a:=l131.getD (i2) 0) I25 O (hou134) O (he135) O O (by simp;omega)) ?_;rintro u135 ⟨hou135,hcu135,hsu135⟩;refine⟨trivial,?_⟩;refine zPR (zmv O (aC O O (by omega)) (za O ?_));refine a6 (ae (zmv O (bf O O (by omega)) (za O ?_)));refine bA (ax (aj ?_));have hS135:SPm (.slice pv n cv) l0 w0 u135:=⟨_,hou135,(eF l131 (i2) (j2+1) (by omega) (by omega)).trans hp131,((hk131.tr0 (drw _)).tr hcu134).tr hcu135⟩
        refine aT (q) (bq (by omega) ?_);exact⟨i2+1,j2,(au O (au O (au O (au (bL (by omega)) bO)))),by omega,by omega,by omega,by omega,by omega,hS135⟩
theorem pdqP_ok{pv:Option Addr}{n cv:Nat}{l0:List UInt32}{w0:World}(hn:l0.length=n)(hm:n<=1000):∀(d:Nat) (w:World) (a b lim:Nat),b-a=d->a<=b->b<=n->lim<=100->SPm (.slice pv n cv) l0 w0 w ->
  Ret Tryz.prog 174 #[.slice pv n cv,.int .i64 a,.int .i64 b,.int .i64 lim] w λ_ w'=>SPm (.slice pv n cv) l0 w0 w':=by
 intro d
 induction d using Nat.strongRecOn with
 | _ d ih =>
  intro w a b lim hd hab hbn hlim h;refine enter [] Tryz.func174 O O (al O) (zSR (za O (zNR (za O (a6 (aq (aX [0,1,2,3,8,9] (λq vs w'=>∃(a b lim:Nat) (t8 t9:Bool),vs=[.slice pv n cv,.int .i64 a,.int .i64 b,.int .i64 lim,.bool t8,.bool t9]/\b+1<=a+q/\b<=a+d/\a<=b/\b<=n/\lim<=100/\SPm (.slice pv n cv) l0 w0 w') (d+1) ?_ ?_)))))))
  ·exact⟨a,b,lim,true,true,rfl,by omega,by omega,hab,hbn,hlim,h⟩
  ·rintro q vs J w1 ⟨a,b,lim,t8,t9,rfl,hq,hd2,hab,hbn,hlim,h1⟩;refine aq (zSR (zmm O (a7 O (bf O O (by omega)) (za O ?_))));refine a6 (aa (zSR (zmv O (fN O O) (a6 ?_))));have hob1:∃m:Nat,m=b-a:=⟨_,rfl⟩
   obtain⟨m,hme⟩:=hob1;have hmi:(b:Int)-(a:Int)=(m:Int):=by omega
   rw[hmi];refine aA O (λh12=>?_) (λh12=>?_)
   ·refine zSR (zmm O (zm O (ag O C215 (insP_ok h1 hn hm a b hab hbn) ?_)));rintro _ w2 h2;refine a6 (bC (aL (aR (aL (aR (cV ?_))))));exact h2
   ·refine zKN (aa (zSR (zmv O (dy O O) ?_)));refine a6 (aA O (λhl0=>?_) (λhl0=>?_))
    ·refine zSR (zmm O (zm O (ag O C216 (heap_ok h1 hn hm a b (by omega) hbn) ?_)));rintro _ w2 h2;refine a6 (bC (aL (aR (aL (aR (cV ?_))))));exact h2
    ·refine zKN ?_;have hob2:∃z,q=z+1:=⟨q-1,by omega⟩
     obtain⟨q,rfl⟩:=hob2;refine dY [0,1,2,3,8,9,10] (λvs w'=>∃lim:Nat,vs=[.slice pv n cv,.int .i64 a,.int .i64 b,.int .i64 lim,.bool t8,.bool t9,.int .i64 m]/\lim<=100/\SPm (.slice pv n cv) l0 w0 w') ?_ ?_
     ·refine zSR (zmv O (cz O) (a6 (bX O (λhb=>?_) (λhb=>?_))))
      ·refine zSR (zmm O (zm O (ag O C217 (HZ h1 hn hm a b (by omega) hbn) ?_)));rintro _ w2 h2;refine a6 (ae (zmv O (bf O O (by omega)) (za O ?_)));refine a6 ?_;have hob3:∃z,lim=z+1:=⟨lim-1,by omega⟩
       obtain⟨lim,rfl⟩:=hob3;exact⟨lim,au rfl (au O (au O (au (bL (by omega)) (au O (au O (au O bO)))))),by omega,h2⟩
      ·refine zKN ?_;exact⟨lim,rfl,hlim,h1⟩
     ·rintro vs2 J2 w2 ⟨lim,rfl,hlim,h2⟩;refine zSR (zmm O (zm O (ag O C218 (Hb h2 hn hm a b (by omega) hbn) ?_)));rintro _ w3 ⟨⟨p,hint,rfl,hp1,hp2,hh1,hh2⟩,h3⟩;refine zm O (zx O (zx O (zaa O (a6 (dY [0,1,2,3,8,9,10,11,12] (λvs w'=>∃(p:Nat) (hint:Int),vs=[.slice pv n cv,.int .i64 a,.int .i64 b,.int .i64 lim,.bool t8,.bool t9,.int .i64 m,.int .i64 p,.int .i64 hint]/\a<=p/\p<b/\SPm (.slice pv n cv) l0 w0 w') ?_ ?_)))))
      ·refine zSR (zmv O (dy O O) ?_);refine a6 (aA O (λhdec=>?_) (λhdec=>?_))
       ·refine zSR (zmm O (zm O (ag O C219 (revR_ok h3 hn hm a b (by omega) hbn) ?_)));rintro _ w4 h4;refine zNR (zmv O (bf O O (by omega)) (zmm O (a7 O (bf O O (by omega)) (a7 O (bf O O (by omega)) (za O ?_)))));refine a6 (ae (za O (a6 ?_)));exact⟨b-1-(p-a),1,au rfl (au O (au O (au O (au O (au O (au O (au (bL (by omega)) (au O bO)))))))),by omega,by omega,h4⟩
       ·refine zKN ?_;exact⟨p,hint,rfl,hp1,hp2,h3⟩
      ·rintro vs3 J3 w4 ⟨p,hint,rfl,hp1,hp2,h4⟩;refine dY [0,1,2,3,8,9,10,11] (λvs w'=>∃t8 t9:Bool,vs=[.slice pv n cv,.int .i64 a,.int .i64 b,.int .i64 lim,.bool t8,.bool t9,.int .i64 m,.int .i64 p]/\SPm (.slice pv n cv) l0 w0 w') ?_ ?_
       ·refine zSR (zmm O ?_);rcases Bool.eq_false_or_eq_true t8 with rfl|rfl
        ·refine ah O (zmv O (aN O) (zm O ?_));rcases Bool.eq_false_or_eq_true t9 with rfl|rfl
         ·refine ah O (zm O (ah O (a7 O (dy O O) (a7 O (aN O) (a6 (aA O (λhinc=>?_) (λhinc=>?_)))))))
          ·refine zSR (zmm O (zm O (ag O C220 (Hh h4 hn hm a b (by omega) hbn) ?_)));rintro _ w5 ⟨⟨t,rfl⟩,h5⟩;refine a6 (bX O (λht=>?_) (λht=>?_))
           ·refine bC (aL (aR (aL (aR (cV ?_)))));exact h5
           ·refine zKN ?_;exact⟨_,_,rfl,h5⟩
          ·refine zKN ?_;exact⟨_,_,rfl,h4⟩
         ·refine aw O O (aw O O (a7 O (aK O) (a6 (aI (rfl) (zKN ?_)))));exact⟨_,_,rfl,h4⟩
        ·refine aw O O (a7 O (aK O) (zm O (aw O O (aw O O (a7 O (aK O) (a6 (aI (rfl) (zKN ?_))))))));exact⟨_,_,rfl,h4⟩
       ·rintro vs4 J4 w5 ⟨t8,t9,rfl,h5⟩;refine dY [0,1,2,3,10,11] (λvs w'=>vs=[.slice pv n cv,.int .i64 a,.int .i64 b,.int .i64 lim,.int .i64 m,.int .i64 p]/\SPm (.slice pv n cv) l0 w0 w') ?_ ?_
        ·refine aa ?_;obtain⟨l136,ho136,hp136,hk136⟩:=id h5;have hl136:l136.length=n:=hp136.length_eq.trans hn;refine aH bx (.pure 0 (.pure 1 (.pure 2 (.pure 3 (.pure 4 (.pure 5 (.pure 6 (.read 7 (.pure 8 (.pure 9 (.pure 10 (.read 11 (.eff 12 [] (.pure 13 (.pure 14 .nil))))))))))))))) (by kernel_rfl) ?_;refine ym O ?_;by_cases ha0:0<a
         ·refine yp O (λ_=>bG (dk O O) (congrArg Value.bool (decide_eq_true ((by omega))))) ?_;refine ym O (ym O (ym O (yp O (λ_=>(bf O O (by omega))) ?_)));refine yex O (aS (a-1) aZ I25 O (ho136.sl) O O (by first|rfl|omega) (by omega)) ?_;rintro _ ⟨b137,o137,rfl,he137,hb137⟩;refine aG O O O bu O O ((ho136.sl.at he137 (getD_some (d:=0) (by omega))).c0 O) ?_;refine ym O (ym O (yex O (aS (p) aZ I25 O (ho136.sl) O O (by first|rfl|omega) (by omega)) ?_));rintro _ ⟨b138,o138,rfl,he138,hb138⟩;refine aG O O O bu O O ((ho136.sl.at he138 (getD_some (d:=0) (by omega))).c0 O) ?_;refine ycl O qG (eR (l136.getD (a-1) 0) (l136.getD (p) 0) _) ?_;rintro _ v139 ⟨rfl,hv139⟩;refine⟨trivial,?_⟩;refine yp O (λ_=>(cz O)) ?_;refine yp O (λ_=>(aN O)) ?_;refine az ?_;have hcv139:Chg [] w5 v139:=by rw[hv139];exact Chg.heap O
          have hS139:SPm (.slice pv n cv) l0 w0 v139:=SPm.chg0 ⟨l136,ho136,hp136,hk136⟩ hcv139;refine bX O (λhls=>?_) (λhls=>?_)
          ·refine zSR (zmm O (zmm O (ag O C222 (Hi hS139 hn hm a b p (by omega) hbn hp1 hp2) ?_)));rintro _ w6 ⟨⟨c,rfl,hc1,hc2⟩,h6⟩;refine za O (zNR (zma O (a6 (aO (an (aE (aj (aT (q) (bq (by omega) ?_)))))))));exact⟨c,b,lim,t8,t9,rfl,by omega,by omega,by omega,hbn,hlim,h6⟩
          ·refine zKN ?_;exact⟨rfl,hS139⟩
         ·refine yp O (λ_=>bG (dk O O) (congrArg Value.bool (decide_eq_false ((by omega))))) ?_;refine ym O (yno O (yno O (yno O (yno O (cA O O O (yno O (yno O (yno O (cA O O O (iY O O O (yno O (yp O (λ_=>(aK O)) ?_))))))))))));refine az (aI (rfl) (zKN ?_));exact⟨rfl,h5.chg0 (drw _)⟩
        ·rintro vs5 J5 w6 ⟨rfl,h6⟩;refine zSR (zmm O (zmm O (ag O C223 (Hg h6 hn hm a b p (by omega) hbn hp1 hp2) ?_)));rintro _ w7 ⟨⟨c,t,rfl,hc1,hc2⟩,h7⟩;refine zm O (zx O (zx O (zaa O (zNR (zma O (zNR (zmm O (a7 O (bf O O (by omega)) (zmm O (a7 O (bf O O (by omega)) (zaa O ?_)))))))))));refine zNR (zmv O (lG O O (by omega)) (za O ?_));refine zNR (zmm O (a7 O (bK O O) (a6 (aA O (λhlr=>?_) (λhlr=>?_)))))
         ·refine zSR (zmm O (a7 O (fC O O) (za O ?_)));refine zNR (zmm O (zmm O (ag O C174 (ih (c-a) (by omega) _ a c lim O hc1 (by omega) hlim h7) ?_)));rintro _ w8 h8;refine a6 (ae (zmv O (aC O O (by omega)) (za O ?_)));refine bA (ax (aj (aT (q) (bq (by omega) ?_))));exact⟨c+1,b,lim,_,t,rfl,by omega,by omega,by omega,hbn,hlim,h8⟩
         ·refine zSR (zmm O (a7 O (fC O O) (za O ?_)));refine zNR (zmm O (a7 O (aC O O (by omega)) (zmm O ?_)));refine ag O C174 (ih (b-(c+1)) (by omega) _ (c+1) b lim O (by omega) hbn hlim h7) ?_;rintro _ w8 h8;refine a6 (ae (zma O (bA (ax (aj (aT (q) (bq (by omega) ?_)))))));exact⟨a,c,lim,_,t,rfl,by omega,by omega,hc1,by omega,hlim,h8⟩
theorem yK{pv:Option Addr}{n cv:Nat}{l0:List UInt32}{w:World}(ho:Own w (.slice pv n cv) l0)(hn:l0.length=n)(hm:n<=1000) :
  Ret Tryz.prog 115 #[.slice pv n cv] w λ_ w'=>SPm (.slice pv n cv) l0 w w':=by
 by_cases h0:n=0
 ·subst hn;refine(FU _ l0 w ho (by omega)).mono ?_;rintro r w' ⟨h1,h2⟩;exact⟨nE l0,h1,qa _,h2⟩
 ·have h64:(dm (n:Int)).toNat=n:=by rw[dR,mK (show n<18446744073709551616 by omega)]
  refine enter [] Tryz.func115 O O (al O) (zSR (zmv O (aB O aZ) (za O (a6 (ae (zmm O (zmv O (dc O uU3 pD) (ag O C132 (BO (dm n) _ (by omega) (by omega)) ?_))))))));rintro _ w1 ⟨⟨k,rfl,hk,_⟩,rfl⟩;refine ag O C174 (pdqP_ok hn hm n _ 0 n k O (by omega) (aM _) (by omega) (SPm.start ho)) ?_;rintro _ w2 h2;refine bA (fV ?_);exact h2
def Rch(V:UInt32->Bs)(rs:List UInt32)(x:UInt32):Prop:=∃r∈rs,∃d pg m,isT V d r pg m/\x∈pg
def Std(s:TP)(rs:List UInt32):Prop:=∀r∈rs,∃d pg m,isT s.V d r pg m/\(∀x∈pg,s.P.now.written x=true)/\pg.Nodup/\d<=40
theorem Rch.cls{V:UInt32->Bs}{rs:List UInt32}{f:UInt32->Bool}(h:∀x,f x=true↔Rch V rs x)(q:List UInt32):ClS V f q:=λx _ hfx d pg' m' ht' y hy=>by
 obtain⟨r,hr,d1,pg1,m1,h1,h2⟩:=(h x).1 hfx;obtain⟨d2,pg2,m2,h3,h4⟩:=zX h1 x h2
 have:=ir ht' h3
 subst this;exact(h y).2 ⟨r,hr,d1,pg1,m1,h1,h4 y hy⟩
theorem Rch.more{V:UInt32->Bs}{rs:List UInt32}{f f':UInt32->Bool}{r:UInt32}{d:Nat}{pg:List UInt32}{m:List Pr}(h:∀x,f x=true↔Rch V rs x)(ht:isT V d r pg m)(hf:∀x,f' x=(f x||pg.elem x)):∀x,f' x=true↔Rch V (rs++[r]) x:=λx=>by
 rw[hf,Bool.or_eq_true_iff,h x]
 constructor
 ·rintro(⟨r2,hr2,q⟩|g)
  ·exact⟨r2,cL _ hr2,q⟩
  ·exact⟨r,by simp,d,pg,m,ht,by simpa using g⟩
 ·rintro⟨r2,hr2,d2,pg2,m2,h2,hx⟩;rcases List.mem_append.1 hr2 with g|g
  ·exact .inl ⟨r2,g,d2,pg2,m2,h2,hx⟩
  ·rw[gh] at g;subst g;rw[ir h2 ht] at hx;exact .inr (by simpa using hx)
theorem DR{sn dn:List (Bs×UInt32)}(h:(snV dn).Perm (snV sn))(p:Bs×UInt32):p∈dn↔p∈sn:=by
 have key:∀{a b:List (Bs×UInt32)},(∀q,q∈snV a->q∈snV b)->p∈a->p∈b:=λhh hp=>by
  obtain⟨q,hq,e⟩:=List.mem_map.1 (hh _ (List.mem_map.2 ⟨p,hp,rfl⟩));have e1:=congrArg Prod.fst e;have e2:=congrArg Prod.snd e;have e1:q.1=p.1:=e1;have e2:Value.int .u32 q.2.toNat=.int .u32 p.2.toNat:=e2;have e2:q.2=p.2:=UInt32.toNat_inj.1 (by injection e2 with _ e3;omega)
  have:q=p:=Prod.ext e1 e2
  rw[<-this];exact hq
 exact⟨key (λq=>h.subset (a:=q)),key (λq=>h.symm.subset (a:=q))⟩
theorem vO(c:TC)(w:World)(s:TP)(sb mr:Nat)(v1 v2 v3:Value)(root:UInt32)(sn:List (Bs×UInt32))(h:c.pg w s)(hB:Blk w sb [c.pv,v1,v2,v3])(hM:MapAt w mr (snV sn))(hT:Std s (root::sn.map (·.2))) :
  Ret Tryz.prog 79 #[.pointer (some ⟨sb,0,none⟩),.int .u32 root.toNat,.map (some mr)] w λr w'=>(∃(qb:Nat) (f:PgF),r=.tuple #[.map (some qb),.int .i64 0]/\SetAt w' qb f/\(∀x,f x=true↔Rch s.V (root::sn.map (·.2)) x)/\w.heap.size<=qb)/\c.pg w' s/\Chg [] w w':=by
 have hFl:=h.lt;have hw0:=(PS.now h).1;have hmr:=hM.lt;have hsb:=hB.lt;obtain⟨d0,pg0,m0,ht0,hwr0,hnd0,hd0⟩:=hT root cM;refine enter [6,7] Tryz.func79 O O (al O) (zSR (zaa O (zNR (aY O (nR UInt32) ?_))));rintro _ w1 ⟨qb,rfl,hnq,hM1,hc1,hl1⟩;refine za O (a6 (aa (zSR (zm O (zn O O (a7 O (a8 dC O I24 O O) ?_))))));have hk1:=hc1.1;have hqF:qb∉c.F/\c.w0.heap.size<=qb:=⟨λhh=>by have:=hFl _ hh;omega,by omega⟩
 have hqn:∀x∈c.F,x∉[qb]:=λx hx hh=>by simp at hh;subst hh;exact hqF.1 hx
 have hB1:=hB.chg0 hc1;refine a7 O (aD ma O O (hB1.c O)) (zmm O (ag O C66 (EC c qb s hqF d0 w1 root pg0 m0 ko (h.chg0 hc1) (SetAt.nil hM1) ht0 hwr0 hd0 hnd0 (ClS.none _ _)) ?_));rintro _ w2 ⟨rfl,f2,hS2,hf2,hp2,hc2⟩;refine za O (zNR (zmv O (bV O O) (a6 ?_)));have hr2:∀x,f2 x=true↔Rch s.V [root] x:=Rch.more (rs:=[]) (f:=ko) (λx=>⟨λhh=>(by cases hh),λ⟨r,hr,_⟩=>(by simp at hr)⟩) ht0 hf2;have hc02:Chg [] w w2:=hc1.t1 hc2 hnq;have hk2:=hc2.1;refine aJ O (λh=>h O) ?_;refine zKN (aa (zSR (zm O ?_)));have hM2:=hM.mod hc02 (by simp);refine dO O (oN fO O hM2) ?_;rintro w3 ⟨hit,hc3,hs3⟩;refine a6 (aq (aX [0,8,25] (λn vs w'=>∃(left:List (Bs×Value)) (dn:List (Bs×UInt32)) (f:PgF),vs=[.pointer (some ⟨sb,0,none⟩),.map (some qb),.pointer (some ⟨w2.heap.size,0,none⟩)]/\left.length=n/\IterAt w' w2.heap.size mr (snV sn) left/\(snV dn++left).Perm (snV sn)/\SetAt w' qb f/\(∀x,f x=true↔Rch s.V (root::dn.map (·.2)) x)/\c.pg w' s/\Chg [] w w') (sn.length) ?_ ?_))
 ·exact⟨snV sn,[],f2,rfl,jG _,hit,.refl _,hS2.chg0 hc3,hr2,hp2.chg0 hc3,hc02.tr hc3⟩
 ·rintro n vs J w4 ⟨left,dn,f4,rfl,hln,hit4,hpm4,hS4,hr4,hp4,hc4⟩;refine aa (ae ?_);have hnl:dn.length+n=sn.length:=by have:=hpm4.length_eq;rw[aF,jG,jG,hln] at this;exact this
  refine m9 O (hit4) O ?_ ?_
  ·rintro h0;refine zx O (a6 (aa (aI (rfl) (aO (an (an (aE (aj (zSR (zma O (za O (a6 (zrf ?_)))))))))))));subst h0;rw[cE] at hpm4;refine⟨⟨qb,f4,rfl,hS4,λx=>?_,hnq⟩,hp4,hc4⟩;rw[hr4 x]
   constructor
   ·rintro⟨r,hr,q⟩;refine⟨r,?_,q⟩;rcases List.mem_cons.1 hr with rfl|hr
    ·exact cM
    ·have hob1:=List.mem_map.1 hr;obtain⟨p,hp,rfl⟩:=hob1;exact bN _ (List.mem_map.2 ⟨p,(DR hpm4 p).1 hp,rfl⟩)
   ·rintro⟨r,hr,q⟩;refine⟨r,?_,q⟩;rcases List.mem_cons.1 hr with rfl|hr
    ·exact cM
    ·have hob2:=List.mem_map.1 hr;obtain⟨p,hp,rfl⟩:=hob2;exact bN _ (List.mem_map.2 ⟨p,(DR hpm4 p).2 hp,rfl⟩)
  ·rintro a k v b' w5 hsp hit5 hcur hc5 hs5;refine zx O (a6 (aa (aW (rfl) (zKN (aq (aa (ae ?_)))))));obtain⟨n,rfl⟩:∃z,n=z+1:=⟨n-1,by have:=congrArg List.length hsp;simp only[aF,cg] at this;omega⟩
   have hkv:(k,v)∈snV sn:=hpm4.subset (by rw[hsp];simp);have hob3:=List.mem_map.1 hkv;obtain⟨p,hpm,hpe⟩:=hob3;have hv:v=.int .u32 p.2.toNat:=(congrArg Prod.snd hpe).symm;have hkp:k=p.1:=(congrArg Prod.fst hpe).symm;subst hv hkp;refine a7 O (oP O hcur) (zx O (za O (zNR (zm O (zn O O (a7 O (a8 dC O I24 O O) ?_))))));have hqi:w2.heap.size∉c.F:=λhh=>by have:=hFl _ hh;omega
   have hc45:Chg [] w w5:=hc4.t1 hc5 (by have:=hc02.1;omega);have hB5:=hB.chg0 hc45;refine a7 O (aD ma O O (hB5.c O)) (zmm O ?_);have hp5:c.pg w5 s:=h.chg0 hc45;have hS5:SetAt w5 qb f4:=hS4.mod hc5 (by simp;omega);have hob4:=hT p.2 (bN _ (List.mem_map.2 ⟨p,hpm,rfl⟩));obtain⟨d,pg,m,ht,hwr,hnd,hd⟩:=hob4;refine ag O C66 (EC c qb s hqF d w5 p.2 pg m f4 hp5 hS5 ht hwr hd hnd (Rch.cls hr4 pg)) ?_;rintro _ w6 ⟨rfl,f6,hS6,hf6,hp6,hc6⟩;refine za O (zNR (zmv O (bV O O) (a6 ?_)));have hr6:=Rch.more hr4 ht hf6;refine aJ O (λh=>h O) ?_;refine bQ (ax (aj (aT (n) (bq (by omega) ?_))));refine⟨a++b',dn++[p],f6,rfl,by have:=congrArg List.length hsp;simp only[aF,cg] at this ⊢;omega,hit5.mod hc6 (by simp;omega) (by simp;omega),?_,hS6,?_,hp6,hc45.t1 hc6 hnq⟩
   ·refine List.Perm.trans ?_ hpm4;rw[hsp];unfold snV;rw[gi,bP];refine pW _ ?_;exact(List.perm_middle (l₁:=a) (l₂:=b')).symm
   ·rw[gi];exact hr6
end Go.Proofs.YtpbfapbajmdlkaaGreat
namespace Go.Proofs.YtpbfapbajmdlkaaGreat
open Go Go.Sac Go.RowKit Go.Maps Go.Sort
set_option maxRecDepth 100000 in
set_option maxHeartbeats 1000000 in
theorem xu {H : Type} (F : Fence) (n : Nat) (h10 : F.fn 189) (hro : F.round = none) (hn : 1 ≤ n) (l Bm b nn : Nat) (D0 : DataW H) {R : Value → Option (DataW H × List MemPlace)} (J : List Int → World → Prop)
    (hY : ∀ pre x W, J pre W → pre.length < Maps.size D0 → YieldAt F (n - 1) Tryz.prog l #[(kQ .u32) x] W fun e W' => e = .returned (.bool true) ∧ J (pre ++ [x]) W' ∧ KeepsWalks W W')
    (W : World) (hJ : AbidesFrom W.heap.size J) (hm : W.cell? ⟨Bm, 0, none⟩ = some (.map (some b))) (hown : W.ownsMap Tryz.prog 25 R b nn D0) (h0 : J [] W) :
    CallsIn F n Tryz.prog 189 #[.func (.yield l) #[] #[], .pointer (some ⟨Bm, 0, none⟩)] W fun e W' => (∃ v, e = .returned v) ∧ ∃ ss : List Int, ss.Perm (intKeys D0) ∧ J ss W' := by
  refine callsIn_of_wp Tryz.func189 rfl h10 ?_ hro
  simp only [Tryz.ntmps189, List.size_toArray, List.length_cons, List.length_nil, Nat.reduceAdd, Nat.reduceSub, Array.replicate_succ, Array.replicate_zero, List.push_toArray, List.append_toArray, List.nil_append, List.cons_append]
  gi_wp2_with (first
    | (gi_at_range; refine wpListIn_range_own _ rfl _ 164 rfl 25 4 (int_keyed bu) eH _ b nn _ rfl hown ?_; intro w0 hrg0 hg0 hs0)
    | gi_in)
  go_frame
  gi_loopw [3] (fun _ wr => ∃ (left : Lit → Bool) (cnt : Nat) (ss : List Int), wr.ranges Tryz.prog 25 R b W.heap.size nn D0 left cnt ∧ ss.length + cnt ≤ Maps.size D0 ∧ Came .u32 D0 left ss ∧ J ss wr)
    (fun _ wr => wr.rangeLeft b W.heap.size)
  case atStart =>
    exact ⟨_, _, [], hrg0, by simp, Came.start .u32 D0, hJ [] W w0 none h0 hg0 (fun r e => by cases e)⟩
  case round =>
    obtain ⟨left, cnt, ss, hrg, hcs, hC, hJs⟩ := hrel
    gi_wp2_with (first
      | (gi_at_next; refine wpListIn_next_ranges _ rfl _ rfl 25 (int_keyed bu) R (kQ .u32) id (fun key kl hk => by obtain ⟨x, hx, _⟩ := Maps.keyOf_int_inv bu hk; exact ⟨x, hx⟩) (fun v _ _ => ⟨v, rfl⟩) b W.heap.size nn _ _ _ rfl hrg ?_ ?_)
      | gi_in)
    ·
      intro hc0 hl0
      gi_wp2
      go_end0
      exact ⟨⟨_, rfl⟩, ss, hC.perm hown (int_keyed bu) bu hl0, hJs⟩
    ·
      intro x c kl yd yp w2 cnt2 hkey hlk hv hat hrg2 hlt hg2 hs2 hen
      obtain ⟨x', ex, rfl, _⟩ := Maps.keyOf_int_inv bu hkey
      obtain rfl : x = x' := Bh ex
      have hJ2 : J ss w2 := hJ ss wr w2 (some W.heap.size) hJs hg2 (fun r e => by cases e; exact ⟨Nat.le_refl _, hrg.iter_walk⟩)
      obtain ⟨fn, tmps, assign, body, hy, hR⟩ := hY ss x w2 hJ2 (by omega)
      clear hs2
      gi_wp2
      refine hR.mono ?_
      rintro e W3 ⟨rfl, hJ3, hk3⟩
      gi_wp2
      have hrg3 := hrg2.of_walks hk3
      go_roundw
      case rel => exact ⟨_, cnt2, ss ++ [x], hrg3, by simp; omega, hC.step hlk hat, hJ3⟩
      case measure => rw [hrg3.left_eq, hrg.left_eq]; exact hlt
theorem wy {H : Type} (F : Fence) (n : Nat) (h10 : F.fn 189) (hro : F.round = none) (hn : 1 ≤ n) (Bm b nn : Nat) (D0 : DataW H) {R : Value → Option (DataW H × List MemPlace)} (w : World) (hBm : Bm < w.heap.size)
    (hm : w.cell? ⟨Bm, 0, none⟩ = some (.map (some b))) (hown : w.ownsMap Tryz.prog 25 R b nn D0) :
    SeqGives F n Tryz.prog 189 #[.pointer (some ⟨Bm, 0, none⟩)] (kQ .u32) (fun ss => ss.Perm (intKeys D0)) (Maps.size D0) w := fun l J W hW hJ hY h0 => by
  have hown' : W.ownsMap Tryz.prog 25 R b nn D0 := by
    have hbl := hown.lt
    obtain ⟨es, clock, hb, Ft, hs, hD⟩ := hown
    exact ⟨es, clock, (hW.block b hbl).trans hb, Ft, hs, hD⟩
  exact xu F n h10 hro hn l Bm b nn D0 J hY W hJ ((hW.cell (p := ⟨Bm, 0, none⟩) hBm).trans hm) hown' h0
end Go.Proofs.YtpbfapbajmdlkaaGreat
namespace Go.Proofs.YtpbfapbajmdlkaaGreat
open Go Go.Sac Go.Maps
set_option maxRecDepth 100000
set_option maxHeartbeats 4000000
theorem Iw(w:World)(r:Nat) :
  Ret Tryz.prog 133 #[.map (some r)] w λv w'=>∃q,v=.func (.func 189) #[] #[.pointer (some ⟨q,0,none⟩)]/\Blk w' q [.map (some r)]/\w.heap.size<=q/\Chg [] w w':=by
 refine enter [2] Tryz.func133 O O (al O) (zSR (aY O (cZ (l:=[.map (some r)]) O O) ?_));rintro _ w1 ⟨q,rfl,hq,hB,hc,hl⟩;refine za O (zNR (a7 O (DH O) (za O (a6 (zrf ?_)))));exact⟨q,rfl,hB,hq,hc⟩
theorem BM(w:World)(q r:Nat)(f:PgF)(n:Nat)(hn:n<=1000)(hB:Blk w q [.map (some r)])(hm:SetAt w r f)(hf:∀x,f x=true->x.toNat<n) :
  Ret Tryz.prog 114 #[.func (.func 189) #[] #[.pointer (some ⟨q,0,none⟩)]] w λv w'=>∃l:List UInt32,Own w' v l/\l.Nodup/\(∀x,x∈l↔f x=true)/\l.length<=n/\Chg [] w w'/\In v [] w.heap.size:=by
 obtain⟨m,hm,hg⟩:=hm;have hnd:(m.map (·.1)).Nodup:=by obtain⟨es,cl,_,_,hn,_⟩:=hm;exact hn
 have hmem:∀x,x∈m.map (·.1)↔f x=true:=λx=>by
  have h1:=hg x
  constructor
  ·intro hx;by_cases hfx:f x=true
   ·exact hfx
   ·rw[if_neg hfx] at h1;have hob1:=List.mem_map.1 hx;obtain⟨p,hp,rfl⟩:=hob1
    have:=(fo hnd).2 (show(p.1,p.2)∈m from hp)
    rw[this] at h1;cases h1
  ·intro hfx;rw[if_pos hfx] at h1;exact List.mem_map.2 ⟨_,(fo hnd).1 h1,rfl⟩
 have hsort:∀l:List UInt32,l.Perm (m.map (·.1))->nE l=zN f n:=λl hl =>
  As (by omega) (hl.nodup_iff.2 hnd) (λx=>by rw[hl.mem_iff];exact hmem x) hf
 have hlen:∀l:List UInt32,l.Perm (m.map (·.1))->l.length<=n:=λl hl=>by
  rw[<-rl,hsort l hl];exact tI f n
 have hml:m.length<=n:=by have:=hlen _ (.refl _);simpa using this
 obtain⟨D0,hown,hperm,hsz⟩:=pH bu hm (by unfold maxLen;omega);have hseq:SeqGives Fence.wide 3 Tryz.prog 189 #[.pointer (some ⟨q,0,none⟩)] (kQ .u32) (λss=>ss.Perm (intKeys D0)) (Maps.size D0) w :=
  wy Fence.wide _ trivial rfl (by omega) q r m.length D0 w hB.lt (hB.c O) hown
 have cC:=ot Fence.wide 5 trivial trivial rfl (by omega) 189 #[.pointer (some ⟨q,0,none⟩)] trivial (enters_of Tryz.func189 (by kernel_rfl) O) _ _ (by rw[hsz];unfold maxLen;omega) (by rw[hsz];omega) _ hseq;refine Calls.mono (callsIn_wide.1 cC) ?_;rintro e w' ⟨v,ss,rfl,hS,hrow,hnil,hb⟩;have hp2:ss.Perm ((m.map (·.1)).map λp=>(p.toNat:Int)):=by rw[fH];exact hS.trans hperm
 have hob2:=rG hp2;obtain⟨l,hl,rfl⟩:=hob2;rw[dr,fH] at hrow;have hob3:=tK (l:=l) hrow;obtain⟨h1,h2⟩:=hob3;exact⟨v,rfl,l,h1,hl.nodup_iff.2 hnd,λx=>by rw[hl.mem_iff];exact hmem x,hlen l hl,⟨hb.size,λb hb' _=>hb.block b hb',hb.os,hb.output⟩,h2⟩
theorem Dn(w:World)(q r:Nat)(f:PgF)(n:Nat)(hn:n<=1000)(hB:Blk w q [.map (some r)])(hm:SetAt w r f)(hf:∀x,f x=true->x.toNat<n) :
  Ret Tryz.prog 67 #[.func (.func 189) #[] #[.pointer (some ⟨q,0,none⟩)]] w λv w'=>∃l:List UInt32,Own w' v l/\l.Nodup/\(∀x,x∈l↔f x=true)/\l.length<=n/\Chg [] w w'/\In v [] w.heap.size:=by
 refine enter [2] Tryz.func67 O O (al O) (zSR (za O (zNR (zm O (ag O C114 (BM w q r f n hn hB hm hf) ?_)))));rintro v1 w1 ⟨l,ho1,hnd1,hm1,hl1,hc1,hi1⟩;have hob4:=ho1.form rfl;obtain⟨pv,cv,rfl⟩:=hob4;refine za O (zNR (zm O (ag O C115 (yK ho1 O (by omega)) ?_)));rintro _ w2 ⟨l2,ho2,hp2,hc2⟩;refine zNR (zma O (a6 (zrf ?_)));exact⟨l2,ho2,hp2.nodup_iff.2 hnd1,λx=>by rw[hp2.mem_iff];exact hm1 x,by rw[hp2.length_eq];exact hl1,hc1.t0 hc2 (λx hx=>hi1.ge x hx),hi1⟩
theorem wT(w:World)(R:PR)(b:Nat)(k:List UInt8)(P:Pg)(h:PagerAt w R b k P)(n:Nat)(hn:n<=1000)(hf:∀x,P.now.used x=true->x.toNat<n) :
  Ret Tryz.prog 80 #[.pointer (some ⟨R.pb,0,none⟩)] w λv w'=>∃l:List UInt32,Own w' v l/\l.Nodup/\(∀x,x∈l↔P.now.used x=true)/\l.length<=n/\Chg [] w w'/\In v [] w.heap.size:=by
 refine enter [2] Tryz.func80 O O (al O) (zSR (za O (zNR (zm O (zn O O (a7 O (a8 dw O gf O O) (a7 O (a8 eL O kC O O) (a7 O (aD eH O O (h.a 2 (by decide) O)) ?_))))))));refine ag O C133 (Iw w R.u) ?_;rintro _ w1 ⟨q,rfl,hB,hq,hc1⟩;refine ag O C67 (Dn w1 q R.u _ n hn hB (h.2.1.chg0 hc1) hf) ?_;rintro v2 w2 ⟨l,ho2,hnd,hm,hl,hc2,hi2⟩;refine za O (a6 (zrf ?_));exact⟨l,ho2,hnd,hm,hl,hc1.tr hc2,hi2.mono (λx hx=>.inl hx) hc1.1⟩
end Go.Proofs.YtpbfapbajmdlkaaGreat
namespace Go.Proofs.YtpbfapbajmdlkaaGreat
open Go Go.Sac
set_option maxRecDepth 100000
set_option maxHeartbeats 4000000
structure Frg(s s':TP)(L:List UInt32)(g:UInt32->Bool):Prop where
 used:∀x,s'.P.now.used x=(s.P.now.used x && !(L.elem x&&g x))
 writ:∀x,s'.P.now.written x=(s.P.now.written x && !(L.elem x&&g x))
 kept:s'.P.kept=s.P.kept
 v:s'.V=s.V
 k:s'.k=s.k
section
variable {c:TC}{w w':World}{s s1 s':TP}{L:List UInt32}{g:UInt32->Bool}
theorem Frg.nil(s:TP)(g:UInt32->Bool):Frg s s [] g:=⟨λx=>by simp,λx=>by simp,rfl,rfl,rfl⟩
theorem Frg.free(h:c.pg w s)(hf:Frg s1 s L g)(x:UInt32)(hx:x∉L)(hu:s1.P.now.used x=true)(hg:g x=true) :
  Ret Tryz.prog 128 #[c.pv,.int .u32 x.toNat] w λ_ w'=>(∃s',c.pg w' s'/\Frg s1 s' (L++[x]) g)/\Chg c.F w w':=by
 have hu2:s.P.now.used x=true:=by
  have e:L.elem x=false:=by simpa using hx
  rw[hf.used,hu,e];rfl
 refine(wF h x hu2).mono ?_;rintro v w' ⟨_,hS,hc⟩;refine⟨⟨⟨s.k,s.ds,{ s.P with now:={ s.P.now with used:=eS s.P.now.used x,written:=eS s.P.now.written x } },s.V⟩,hS,⟨λy=>?_,λy=>?_,hf.kept,hf.v,hf.k⟩⟩,hc⟩
 ·show eS s.P.now.used x y=_;unfold eS;rw[hf.used];by_cases e:y=x
  ·subst e;simp[hg]
  ·simp[e]
 ·show eS s.P.now.written x y=_;unfold eS;rw[hf.writ];by_cases e:y=x
  ·subst e;simp[hg]
  ·simp[e]
theorem Frg.skip(hf:Frg s1 s L g){x:UInt32}(hg:g x=false):Frg s1 s (L++[x]) g:=by
 refine⟨λy=>?_,λy=>?_,hf.kept,hf.v,hf.k⟩
 ·rw[hf.used];by_cases e:y=x
  ·subst e;simp[hg]
  ·simp[e]
 ·rw[hf.writ];by_cases e:y=x
  ·subst e;simp[hg]
  ·simp[e]
theorem Std.writ{rs:List UInt32}(h:Std s rs){x:UInt32}(hx:Rch s.V rs x):s.P.now.written x=true:=by
 obtain⟨r,hr,d,pg,m,h1,h2⟩:=hx;obtain⟨d2,pg2,m2,h3,h4,_⟩:=h r hr;rw[ir h1 h3] at h2;exact h4 x h2
end
structure Cmt(c c':TC)(w':World)(s s':TP)(root:UInt32)(sn:List (Bs×UInt32)):Prop where
 at_:c'.pg w' s'
 c:c'={ c with R:={ c.R with u:=c'.R.u,r:=c'.R.r,ku:=c'.R.ku,kr:=c'.R.kr } }
 v:s'.V=s.V
 rt:s'.P.now.root=root
 txt:∃l,l.Perm sn/\s'.P.now.txt=gY l
 used:∀x,s'.P.now.used x=true↔Rch s.V (root::sn.map (·.2)) x
 writ:∀x,Rch s.V (root::sn.map (·.2)) x->s'.P.now.written x=true
 com:Com s'
 st:s'.P.kept.st=s'.P.now
 pend:s'.ds.pend=[]
 k:s'.k=s.k+1
theorem tj(c:TC)(w:World)(s:TP)(sb mr:Nat)(v1 v2 v3:Value)(root:UInt32)(sn:List (Bs×UInt32))(h:c.pg w s)(hB:Blk w sb [c.pv,v1,v2,v3])(hM:MapAt w mr (snV sn))(hT:Std s (root::sn.map (·.2)))(hbF:sb∉c.F/\c.w0.heap.size<=sb)(hmF:mr∉c.F/\mr≠sb)(hl:sn.length<=12)(h10:∀p∈sn,p.1.length<=10)(hk:s.k+1<=40000) :
  Ret Tryz.prog 75 #[.pointer (some ⟨sb,0,none⟩),.int .u32 root.toNat,.map (some mr)] w λr w'=>r=.int .i64 0/\(∃(c':TC) (s':TP),Cmt c c' w' s s' root sn/\(∀x∈c'.F,x∈c.F∨w.heap.size<=x))/\Blk w' sb [c.pv,.int .u32 root.toNat,.map (some mr),v3]/\MapAt w' mr (snV sn)/\Chg (sb::c.F) w w':=by
 have hFl:=h.lt;have hmr:=hM.lt;have hsb:=hB.lt;have hn4:=h.n4;refine enter [6] Tryz.func75 O O (al O) (zSR (za O (zNR (zmm O (zm O (ag O C79 (vO c w s sb mr v1 v2 v3 root sn h hB hM hT) ?_))))));rintro _ w1 ⟨⟨qb,f,rfl,hS1,hf,hqn⟩,hp1,hc1⟩;refine zm O (zx O (zx O (zaa O (a6 (aa (zSR (zmv O (bV O O) (a6 (aJ O (λh=>h O) ?_)))))))));refine zKN (aa (zSR (zm O (zn O O (a7 O (a8 dC O I24 O O) ?_)))));have hB1:=hB.chg0 hc1;have hM1:=hM.mod hc1 (by simp);refine a7 O (aD ma O O (hB1.c O)) (ag O C80 (wT w1 c.R c.b c.key s.P hp1.2.1 c.n (by omega) (λx hx=>hp1.2.2.2.1.ok.used x hx)) ?_);rintro v2' w2 ⟨l,ho2,hnd,hm,hll,hc2,hi2⟩;have hob1:=ho2.form (n:=l.length) rfl;obtain⟨pl,cl,rfl⟩:=hob1;refine a7 O (aB O aZ) (zm O (a6 (aq ?_)));have hc02:=hc1.tr hc2;have hqF:qb∉c.F:=λhh=>by have:=hFl _ hh;omega
 have hlF:∀x∈ay (.slice pl l.length cl),x∉c.F:=λx hx hh=>by have:=hi2.ge x hx;have:=hFl x hh;have:=hc1.1;omega
 have hB2:=hB1.chg0 hc2;have hM2:=hM1.mod hc2 (by simp);have hS2:=hS1.chg0 hc2;have hfu:∀x,f x=true->s.P.now.used x=true:=λx hx=>h.wu (hT.writ ((hf x).1 hx));refine aX [0,1,2,7,29,30,31] (λn vs w'=>∃(i:Nat) (s':TP),vs=[.pointer (some ⟨sb,0,none⟩),.int .u32 root.toNat,.map (some mr),.map (some qb),.slice pl l.length cl,.int .i64 l.length,.int .i64 i]/\i+n=l.length/\c.pg w' s'/\Frg s s' (l.take i) (λx => !f x)/\Chg c.F w2 w') (l.length) ?_ ?_
 ·exact⟨0,s,rfl,by omega,hp1.chg0 hc2,Frg.nil _ _,Chg.refl' _ _⟩
 ·rintro n vs J w3 ⟨i,s3,rfl,hin,hp3,hf3,hc3⟩;refine zSR (a7 O (bK O O) ?_);refine a6 (aa ?_);have hB3:=hB2.chg hc3 hbF.1;refine aA O (λhlt=>?_) (λhlt=>?_)
  ·refine zKN (aa (aq (aa (ae ?_))));have hob2:∃z,n=z+1:=⟨n-1,by omega⟩
   obtain⟨n,rfl⟩:=hob2;have hob3:∃a,l[i]?=some a:=⟨l[i]'(by omega),bM _⟩
   obtain⟨x,hx⟩:=hob3;have htk:l.take (i+1)=l.take i++[x]:=by rw[gU,hx];rfl
   have hnx:x∉l.take i:=by
    have:=hnd.sublist (oI (i+1) l)
    rw[htk,kh] at this;exact λhh=>this.2.2 x hh x (by simp) O
   have hxu:=(hm x).1 (j1 hx);have hl3:=ho2.mod hc3 hlF;have hS3:SetAt w3 qb f:=hS2.mod hc3 hqF;obtain⟨st,hst,hsl⟩:=hS3;refine bD O (aS (i) aZ I25 O (hl3.sl) O O (by first|rfl|omega) (by omega)) ?_;rintro _ ⟨bi,oi,rfl,hei,hbi⟩;refine a7 O (aD bu O O (((hl3.sl.at hei hx).c0 O))) (za O (zNR (zmm O ?_)));have hlook:(cB x st).getD (.bool false)=.bool (f x):=by
    rw[SetAt.look hsl]
   refine a7 O (bG (fk (k:=x) rj (du bu) I4 O O O hst) hlook) ?_;refine a7 O (cz O) (a6 (bX O (λhfx=>?_) (λhfx=>?_)))
   ·refine ae (zm O (zn O O (a7 O (a8 dC O I24 O O) ?_)));refine a7 O (aD ma O O (hB3.c O)) (zm O (ag O C128 (hf3.free hp3 x hnx hxu hfx) ?_));rintro _ w4 ⟨⟨s4,hp4,hf4⟩,hc4⟩;refine bA (ax (aj (ae (a7 O (aC O O (by omega)) (zm O ?_)))));refine a6 (aT (n) (bq (by omega) ?_));exact⟨i+1,s4,rfl,by omega,hp4,by rw[htk];exact hf4,hc3.tr hc4⟩
   ·refine bQ (ax (aj (ae (a7 O (aC O O (by omega)) (zm O ?_)))));refine a6 (aT (n) (bq (by omega) ?_));exact⟨i+1,s3,rfl,by omega,hp3,by rw[htk];exact hf3.skip hfx,hc3⟩
  ·refine aO (an (an (aE (aj (zSR (zm O ?_))))));have hil:i=l.length:=by omega
   subst hil;rw[cX] at hf3;have hus:∀x,s3.P.now.used x=f x:=λx=>by
    rw[hf3.used];cases hfx:f x with
    | true => rw [hfu x hfx]; simp
    | false =>
     cases hux:s.P.now.used x with
     | false => rfl
     | true =>
      have:l.elem x=true:=by simpa using (hm x).2 hux
      rw[this];rfl
   have hws:∀x,f x=true->s3.P.now.written x=true:=λx hx=>by
    rw[hf3.writ,hT.writ ((hf x).1 hx)];simp[hx]
   have hM3:MapAt w3 mr (snV sn):=hM2.mod hc3 hmF.1;refine a7 O (bW dC I143 O (zs:=[.pointer none,.int .u32 0,.map none,.bool false]) O O (bR O O O (al O) (eb (cs':=[.pointer none,.int .u32 0,.map (some mr),.bool false]) O))) ?_;refine aY O (cZ (l:=[.pointer none,.int .u32 0,.map (some mr),.bool false]) O O) ?_;rintro _ w4 ⟨nb,rfl,hnn,hN4,hc4,hl4⟩;refine za O (a6 (aa (aa ?_)));have hB4:=hB3.chg0 hc4;have hM4:MapAt w4 mr (snV sn):=hM3.mod hc4 (by simp);refine aH bx (.pure 0 (.pure 1 (.pure 2 (.read 3 (.pure 4 (.pure 5 (.eff 6 [3] (.eff 7 [] (.pure 8 .nil))))))))) (by kernel_rfl) ?_;refine ym O (yn O (yp O (λ_=>(a8 dC O I24 O O)) ?_));refine aG O O O ma O O (hB4.c O) (ym O (ym O (ycl O C71 ((E5 _ nb mr _ _ _ sn (hN4.chg0 (drw _)) (hM4.mod (drw _) (by simp)) hl h10 :)) ?_)));rintro _ w5 ⟨ml,hml,rfl,hc5⟩;have hc5:Chg [] w4 w5:=(drw w4).tr hc5;refine⟨⟨(hB4.chg0 hc5).c rfl,trivial⟩,?_⟩;have hp5:c.pg w5 s3:=(hp3.chg0 hc4).chg0 hc5;have hmz:(gY ml).length<=200:=by
    have:=kO ml (λq hq=>h10 q (hml.subset hq))
    have:=hml.length_eq
    omega
   refine ycl O C70 ((wL hp5 (by rw[hf3.k];exact hk) root (gY ml) hmz (λx hx=>hws x (by rw[<-hus];unfold Pg.fresh at hx;exact(Bool.and_eq_true_iff.1 hx).1)) :)) ?_;rintro _ w6 ⟨rfl,⟨u,r',ku,kr,ds',hR6,hS6,hpd,_⟩,hc6⟩;refine⟨trivial,?_⟩;refine ya O (zPR (zmv O (bV O O) (a6 (aJ O (λh=>h O) ?_))));refine zKR (zmm O (zmm O (zn O O (a7 O (a8 dC O I25 O O) ?_))));have hc6:Chg c.F w5 w6:=hc6;have hB6:=((hB4.chg0 hc5).chg hc6 hbF.1)
   have hM6:MapAt w6 mr (snV sn):=(hM4.mod hc5 (by simp)).mod hc6 hmF.1;refine aQ O (bJ I25 O O (hB6) O O ((by decide:1<4)) O (rfl)) ?_;rintro w7 ⟨hB7,hc7,hs7⟩;refine zn O O (a7 O (a8 dC O oD O O) (aQ O (bJ oD O O (hB7) O O ((by decide:2<4)) O (rfl)) ?_));rintro w8 ⟨hB8,hc8,hs8⟩;refine zNR (za O (a6 (zrf ?_)));have hsz:w.heap.size<=w5.heap.size:=by have:=hc02.1;have:=hc3.1;have:=hc4.1;have:=hc5.1;omega
   have hsbn:∀x∈PF ({ c.R with u:=u,r:=r',ku:=ku,kr:=kr }:PR)++DF c.b c.kv c.r,x∉[sb]:=λx hx hh=>by
    simp at hh;subst hh;rcases List.mem_append.1 hx with g|g
    ·rcases hR6 x g with q|q
     ·exact hbF.1 (cL _ q)
     ·omega
    ·exact hbF.1 (cf _ g)
   have hge:∀x∈[sb],c.w0.heap.size<=x:=λx hx=>by simp at hx;subst hx;exact hbF.2
   have hS8:=(hS6.chg hc7 hsbn hge).chg hc8 hsbn hge;have hSV:s3.V=s.V:=hf3.v;refine⟨rfl,⟨{ c with R:={ c.R with u:=u,r:=r',ku:=ku,kr:=kr } },⟨s3.k+1,ds',{ s3.P with now:=(eo s3.P root (gY ml)).st,kept:=eo s3.P root (gY ml),at_:=(s3.P.at_+1) % 2 },s3.V⟩,⟨hS8,rfl,hSV,rfl,⟨ml,hml,rfl⟩,λx=>?_,λx hx=>hws x ((hf x).2 hx),⟨λx=>rfl,λx=>rfl,λx hx=>?_⟩,rfl,hpd,by show s3.k+1=_;rw[hf3.k]⟩,λx hx=>?_⟩,hB8,?_,?_⟩
   ·show s3.P.now.used x=true↔_;rw[hus];exact hf x
   ·exact hp5.wu hx
   ·rcases List.mem_append.1 hx with g|g
    ·rcases hR6 x g with q|q
     ·exact .inl (cL _ q)
     ·exact .inr (by omega)
    ·exact .inl (cf _ g)
   ·exact(hM6.mod hc7 (by simp;exact hmF.2)).mod hc8 (by simp;exact hmF.2)
   ·have m1:Chg (sb::c.F) w w3:=(hc02.tr0' (hc3.mono (λx hx _=>bN _ hx)))
    have m2:Chg (sb::c.F) w5 w6:=hc6.mono (λx hx _=>bN _ hx);have m3:Chg (sb::c.F) w6 w7:=hc7.mono (λx hx _=>by simp at hx;subst hx;exact cM);have m4:Chg (sb::c.F) w7 w8:=hc8.mono (λx hx _=>by simp at hx;subst hx;exact cM);exact((((m1.tr0 hc4).tr0 hc5).tr m2).tr m3).tr m4
abbrev Sx:=Bs×UInt32×List Pr
def eG(sx:List Sx):List (Bs×UInt32):=sx.map λp=>(p.1,p.2.1)
def xj(sx:List Sx):List UInt32:=sx.map (·.2.1)
theorem uy(sx:List Sx):(eG sx).map (·.2)=xj sx:=by unfold eG xj;rw[fH];rfl
def Tre(s:TP)(r:UInt32)(m:List Pr):Prop:=m.length<=1000/\∃d pg,isT s.V d r pg m/\(∀x∈pg,s.P.now.written x=true)/\pg.Nodup
theorem pf{V:UInt32->Bs}{d:Nat}{id:UInt32}{pg:List UInt32}{m:List Pr}(h:isT V d id pg m)(hm:m.length<=1000):d<=10/\pg.length<=2*m.length+1:=by
 cases m with
 | nil =>
  cases d with
  | zero => have := h.1; exact ⟨by decide, by rw [this]; simp⟩
  | succ d =>
   obtain⟨ks,ts,h1,_,_,h4,_,h6⟩:=h;have h2:=wA h1;cases ts with
   | nil => simp at h2
   | cons t ts =>
    have:=(h6 t cM).2
    rw[fT] at h4;exact absurd (List.append_eq_nil_iff.1 h4.symm).1 this
 | cons p m =>
  have h1:=B3 h;have h2:=E8 h (by simp);refine⟨Nat.le_of_not_lt (λhd=>?_),by omega⟩;have h3:2 ^ 12<=2 ^ (d+1):=mN (by decide) (by omega);have h4:(2:Nat) ^ 12=4096:=rfl;omega
structure StoreAt(c:TC)(w:World)(s:TP)(sb mr:Nat)(root:UInt32)(m:List Pr)(sx:List Sx):Prop where
 pg:c.pg w s
 blk:Blk w sb [c.pv,.int .u32 root.toNat,.map (some mr),.bool false]
 map:MapAt w mr (snV (eG sx))
 sF:sb∉c.F/\c.w0.heap.size<=sb
 mF:mr∉c.F/\mr≠sb/\c.w0.heap.size<=mr
 live:Tre s root m
 olds:∀p∈sx,Tre s p.2.1 p.2.2
 names:∀p∈sx,p.1.length<=10
 few:sx.length<=4
 used:∀x,s.P.now.used x=true↔Rch s.V (root::xj sx) x
 com:Com s
 st:s.P.kept.st=s.P.now
 pend:c.n=300->s.ds.pend=[]
 rt:s.P.now.root=root
 txt:∃l,l.Perm (eG sx)/\s.P.now.txt=gY l
def xm(m:List Pr)(sx:List Sx):Nat:=2*m.length+1+(sx.map λp=>2*p.2.2.length+1).sum
theorem room_ge{P:Pg}{n:Nat}(hn:n<=400)(L:List UInt32)(h:∀x,P.free x=false->x∈L):n<=fQ P n+L.length:=by
 have hsub:∀i∈List.range n,i∈(List.range n).filter (λi=>P.free (UInt32.ofNat i))++L.map (·.toNat):=λi hi=>by
  rw[fX,uI];cases hf:P.free (UInt32.ofNat i) with
  | true => exact .inl ⟨hi, rfl⟩
  | false =>
   refine .inr (List.mem_map.2 ⟨_,h _ hf,?_⟩);rw[uH] at hi;rw[fL];omega
 have:=mz _ _ List.nodup_range hsub
 rw[List.length_range,aF,dr] at this;exact this
theorem Rch.list{s:TP}{root:UInt32}{m:List Pr}:∀{sx:List Sx},Tre s root m->(∀p∈sx,Tre s p.2.1 p.2.2)->∃L:List UInt32,(∀x,Rch s.V (root::xj sx) x->x∈L)/\L.length<=xm m sx
 | [], h, _ => by
  obtain⟨hm,d,pg,ht,_,_⟩:=h;refine⟨pg,λx ⟨r,hr,d2,pg2,m2,h1,h2⟩=>?_,?_⟩
  ·have hr:r=root:=by simpa [xj] using hr
   subst hr;rw[ir h1 ht] at h2;exact h2
  ·have:=(pf ht hm).2
   unfold xm
   simpa using this
 | p :: sx, h, ho => by
  obtain⟨L,h1,h2⟩:=Rch.list (sx:=sx) h (λq hq=>ho q (bN _ hq));obtain⟨hm,d,pg,ht,_,_⟩:=ho p cM;refine⟨L++pg,λx ⟨r,hr,d2,pg2,m2,g1,g2⟩=>?_,?_⟩
  ·rcases List.mem_cons.1 hr with rfl|hr
   ·exact cL _ (h1 x ⟨_,cM,d2,pg2,m2,g1,g2⟩)
   ·rcases List.mem_cons.1 hr with e|hr
    ·have e:r=p.2.1:=e;subst e;rw[ir g1 ht] at g2;exact cf _ g2
    ·exact cL _ (h1 x ⟨r,bN _ hr,d2,pg2,m2,g1,g2⟩)
  ·have:=(pf ht hm).2
   rw[aF];unfold xm at h2 ⊢;rw[eV,List.sum_cons];omega
section
variable {c:TC}{w w':World}{s s0 s':TP}{sb mr d:Nat}{root id:UInt32}{m m':List Pr}{sx:List Sx}{pg:List UInt32}
theorem Tre.std(h:Tre s root m):∃d pg m,isT s.V d root pg m/\(∀x∈pg,s.P.now.written x=true)/\pg.Nodup/\d<=40:=by
 obtain⟨hm,d,pg,h1,h2,h3⟩:=h
 have:=(pf h1 hm).1
 exact⟨d,pg,m,h1,h2,h3,by omega⟩
theorem Tre.std_all(h:Tre s root m)(ho:∀p∈sx,Tre s p.2.1 p.2.2):Std s (root::(eG sx).map (·.2)):=λr hr=>by
 rw[uy] at hr;rcases List.mem_cons.1 hr with rfl|hr
 ·exact h.std
 ·obtain⟨p,hp,rfl⟩:=List.mem_map.1 hr;exact(ho p hp).std
theorem Edt.tre(h:Edt c w s0 s id d pg m')(ht:Tre s0 root m):Tre s root m:=by
 obtain⟨hm,d,pg,h1,h2,h3⟩:=ht;exact⟨hm,d,pg,iW h1 (λx hx=>(h.old x (h2 x hx)).2),λx hx=>(h.old x (h2 x hx)).1,h3⟩
theorem Edt.room(h:Edt c w s0 s id d pg m')(h0:Com s0)(hn:c.n<=400)(L:List UInt32)(hL:∀x,s0.P.now.used x=true->x∈L)(hm:m'.length<=1000):c.n<=fQ s.P c.n+L.length+(2*m'.length+1):=by
 have h1:=room_ge (P:=s.P) hn (L++pg) (λx hx=>by
  unfold Pg.free at hx;have hx:s.P.now.used x=true∨s.P.kept.used x=true:=by
   cases hu:s.P.now.used x with
   | true => exact .inl rfl
   | false => rw [hu] at hx; exact .inr (by simpa using hx)
  rcases hx with g|g
  ·rcases h.used x g with q|q
   ·exact cL _ (hL x q)
   ·exact cf _ q
  ·rw[h.kept,h0.1] at g;exact cL _ (hL x g))
 have h2:=(pf h.tr.tree hm).2;rw[aF] at h1;omega
end
theorem Edt.chg0{c:TC}{w w':World}{s0 s:TP}{id:UInt32}{d:Nat}{pg:List UInt32}{m:List Pr}(h:Edt c w s0 s id d pg m)(hm:Chg [] w w'):Edt c w' s0 s id d pg m:=⟨h.tr.chg0 hm,h.kept,h.old,h.used⟩
theorem StoreAt.commit{c c':TC}{w w':World}{s s':TP}{sb mr:Nat}{root:UInt32}{m:List Pr}{sx:List Sx}(hc:Cmt c c' w' s s' root (eG sx))(hf:∀x∈c'.F,x∈c.F∨w.heap.size<=x)(hB:Blk w' sb [c.pv,.int .u32 root.toNat,.map (some mr),.bool false])(hM:MapAt w' mr (snV (eG sx)))(hs:sb<w.heap.size/\sb∉c.F/\c.w0.heap.size<=sb)(hm:mr<w.heap.size/\mr∉c.F/\mr≠sb/\c.w0.heap.size<=mr)(hl:Tre s root m)(ho:∀p∈sx,Tre s p.2.1 p.2.2)(hn:∀p∈sx,p.1.length<=10)(h4:sx.length<=4):StoreAt c' w' s' sb mr root m sx:=by
 have e0:c'.w0=c.w0:=by rw[hc.c]
 have e1:c'.pv=c.pv:=by rw[hc.c]
 have hmv:∀{r:UInt32} {m:List Pr},r∈root::xj sx->Tre s r m->Tre s' r m:=λhr ⟨q,d,pg,h1,h2,h3⟩=>by
  refine⟨q,d,pg,by rw[hc.v];exact h1,λx hx=>hc.writ x ?_,h3⟩;rw[uy];exact⟨_,hr,d,pg,_,h1,hx⟩
 refine⟨hc.at_,by rw[e1];exact hB,hM,⟨λhh=>?_,by rw[e0];exact hs.2.2⟩,⟨λhh=>?_,hm.2.2.1,by rw[e0];exact hm.2.2.2⟩,hmv cM hl,λp hp=>hmv (bN _ (List.mem_map.2 ⟨p,hp,rfl⟩)) (ho p hp),hn,h4,λx=>?_,hc.com,hc.st,λ_=>hc.pend,hc.rt,hc.txt⟩
 ·rcases hf _ hh with q|q
  ·exact hs.2.1 q
  ·omega
 ·rcases hf _ hh with q|q
  ·exact hm.2.1 q
  ·omega
 ·rw[hc.used,hc.v,uy]
def lI(m:List Pr)(l:List Wr):List Pr:=l.foldl updW m
theorem Al{m:List Pr}(a:Wr)(hs:ec m):(updW m a).length<=m.length+1:=by
 unfold updW
 split
 ·have:(kz m a.k).length<=m.length:=uL _ _
  omega
 ·exact y8 _ hs
theorem HO{c:TC}{w:World}{s:TP}{sb:Nat}{v1 v2 v3:Value}(h:c.pg w s)(hB:Blk w sb [c.pv,v1,v2,v3])(e:Int)(he:e≠61) :
  Ret Tryz.prog 74 #[.pointer (some ⟨sb,0,none⟩),.int .i64 e] w λr w'=>r=.int .i64 e/\(∃c':TC,c'.pg w' ⟨s.k,s.ds,{ s.P with now:=s.P.kept.st },s.V⟩/\(∃u r,c'={ c with R:={ c.R with u:=u,r:=r } })/\∀x∈c'.F,x∈c.F∨w.heap.size<=x)/\Chg c.F w w':=by
 have hlt:=h.lt;have hge:=h.ge;have hk1:=(PS.now h).1;refine enter [4] Tryz.func74 O O (al O) (zSR (za O (a6 (aa (zSR (zmv O (dy O O) (a6 (aJ O (he) (zKR (zm O (zn O O (a7 O (a8 dC O I24 O O) (a7 O (aD ma O O (hB.c O)) (ag O C129 (Undo_ok w c.R c.b c.key h.2.2.2.2 s.P h.2.1) ?_))))))))))))));rintro _ w1 ⟨u,r,hu,hr,hP,hc⟩;refine zNR (zma O (a6 (zrf ?_)));have hd:=h.1.1.chg hc (λx hx hh=>by simp at hh;subst hh;exact PS.apart h c.R.pb (by simp[PF]) hx);have hc2:Chg c.F w w1:=zS c.R c.b c.kv c.r hc (by simp[PF]);have hx:∀x∈PF ({ c.R with u:=u,r:=r }:PR),x∈PF c.R∨w.heap.size<=x:=λx hx=>by
  simp only[PF,bZ,dD,or_false] at hx ⊢;rcases hx with rfl|rfl|rfl|rfl|rfl|rfl
  ·exact .inl (.inl O)
  ·exact .inr hu
  ·exact .inr hr
  ·exact .inl (.inr (.inr (.inr (.inl O))))
  ·exact .inl (.inr (.inr (.inr (.inr (.inl O)))))
  ·exact .inl (.inr (.inr (.inr (.inr (.inr O)))))
 refine⟨rfl,⟨{ c with R:={ c.R with u:=u,r:=r } },⟨⟨hd,h.1.2.1.t0 hc2 hge,h.1.2.2⟩,hP,λx hxx=>?_,h.2.2.2.1.undo,h.2.2.2.2⟩,⟨u,r,rfl⟩,λx hxx=>?_⟩,hc2⟩
 ·rcases hx x hxx with g|g
  ·exact h.2.2.1 x g
  ·exact⟨by show c.w0.heap.size<=x;omega,λhh=>by have:=hlt _ (cf _ hh);omega⟩
 ·rcases List.mem_append.1 hxx with g|g
  ·exact(hx x g).imp (λq=>cL _ q) (λq=>q)
  ·exact .inl (cf _ g)
theorem StoreAt.undone{c c':TC}{w w3 w4:World}{s s3:TP}{sb mr d:Nat}{root id:UInt32}{m m':List Pr}{sx:List Sx}{pg:List UInt32}(h:StoreAt c w s sb mr root m sx)(hE:Edt c w3 s s3 id d pg m')(h3:c.n<300)(hp:c'.pg w4 ⟨s3.k,s3.ds,{ s3.P with now:=s3.P.kept.st },s3.V⟩)(e0:c'.w0=c.w0)(e1:c'.pv=c.pv)(e2:c'.n=c.n)(hF:∀x∈c'.F,x∈c.F∨w3.heap.size<=x)
  (hB:Blk w4 sb [c.pv,.int .u32 root.toNat,.map (some mr),.bool false]) (hM:MapAt w4 mr (snV (eG sx))) (ks:sb<w3.heap.size) (km:mr<w3.heap.size):StoreAt c' w4 ⟨s3.k,s3.ds,{ s3.P with now:=s3.P.kept.st },s3.V⟩ sb mr root m sx:=by
 have hst:s3.P.kept.st=s.P.now:=by rw[hE.kept];exact h.st
 have hmv:∀{r:UInt32} {m:List Pr},Tre s r m->Tre ⟨s3.k,s3.ds,{ s3.P with now:=s3.P.kept.st },s3.V⟩ r m:=λ⟨q,d,pg,h1,h2,h3⟩ =>
  ⟨q,d,pg,iW h1 (λx hx=>(hE.old x (h2 x hx)).2),λx hx=>(congrArg (λz=>z.written x) hst).trans (h2 x hx),h3⟩
 have hall:∀r∈root::xj sx,∃m,Tre s r m:=λr hr=>by
  rcases List.mem_cons.1 hr with rfl|hr
  ·exact⟨_,h.live⟩
  ·have hob1:=List.mem_map.1 hr;obtain⟨p,hp,rfl⟩:=hob1;exact⟨_,h.olds p hp⟩
 refine⟨hp,by rw[e1];exact hB,hM,⟨λhh=>?_,by rw[e0];exact h.sF.2⟩,⟨λhh=>?_,h.mF.2.1,by rw[e0];exact h.mF.2.2⟩,hmv h.live,λp hp=>hmv (h.olds p hp),h.names,h.few,λx=>?_,⟨λx=>rfl,λx=>rfl,λx hx=>?_⟩,rfl,λq=>by omega,(congrArg Pst.root hst).trans h.rt,?_⟩
 ·rcases hF _ hh with q|q
  ·exact h.sF.1 q
  ·omega
 ·rcases hF _ hh with q|q
  ·exact h.mF.1 q
  ·omega
 ·refine(Eq.to_iff (congrArg (λz:Pst=>z.used x=true) hst)).trans ((h.used x).trans ?_)
  constructor
  ·rintro⟨r,hr,d2,pg2,m2,h1,h2⟩;have hob2:=hall r hr;obtain⟨_,_,d4,pg4,h4,h5,_⟩:=hob2;rw[ir h1 h4] at h2;exact⟨r,hr,d4,pg4,_,iW h4 (λx hx=>(hE.old x (h5 x hx)).2),h2⟩
  ·rintro⟨r,hr,d2,pg2,m2,h1,h2⟩;have hob3:=hall r hr;obtain⟨_,_,d4,pg4,h4,h5,_⟩:=hob3;rw[ir h1 (iW h4 (λx hx=>(hE.old x (h5 x hx)).2))] at h2;exact⟨r,hr,d4,pg4,_,h4,h2⟩
 ·have hx:s3.P.kept.st.written x=true:=hx;show s3.P.kept.st.used x=true;rw[hst] at hx ⊢;exact h.com.2.2 x hx
 ·have hob4:=h.txt;obtain⟨l,h1,h2⟩:=hob4;exact⟨l,h1,(congrArg Pst.txt hst).trans h2⟩
def DoE(m:List Pr)(l:List Wr)(R:Prop)(e:Int)(M:List Pr):Prop:=(e=0/\M=lI m l)∨(e=70/\M=m/\R)
theorem Do_ok(c:TC)(w:World)(s:TP)(sb mr:Nat)(root:UInt32)(m:List Pr)(sx:List Sx)(lv:Value)(l:List Wr)(h:StoreAt c w s sb mr root m sx)(hl:Sl w lv l)(hlF:∀x∈ay lv,x∉c.F)(hb:isB l=true)(hm:m.length+l.length<=900)(hk:s.k+24*l.length+1<=40000)(hr:300<=c.n->xm m sx+2*(m.length+l.length)+30<=c.n) :
  Ret Tryz.prog 32 #[.pointer (some ⟨sb,0,none⟩),lv] w λr w'=>(∃(e:Int) (M:List Pr),r=.int .i64 e/\DoE m l (c.n<xm m sx+2*(m.length+l.length)+30) e M/\∃(c':TC) (s':TP) (id:UInt32),StoreAt c' w' s' sb mr id M sx/\c'={ c with R:={ c.R with u:=c'.R.u,r:=c'.R.r,ku:=c'.R.ku,kr:=c'.R.kr } }/\(∀x∈c'.F,x∈c.F∨w.heap.size<=x)/\s'.k<=s.k+24*l.length+1)/\Chg (sb::c.F) w w':=by
 have hob5:=hl.form rfl;obtain⟨pl,cl,rfl⟩:=hob5;have hl40:l.length<=40:=by unfold isB at hb;exact of_decide_eq_true (Bool.and_eq_true_iff.1 hb).2
 have hgood:∀a∈l,a.good=true:=by
  unfold isB at hb;exact List.all_eq_true.1 (Bool.and_eq_true_iff.1 (Bool.and_eq_true_iff.1 hb).1).1
 have hob6:=Rch.list h.live h.olds;obtain⟨L,hL1,hL2⟩:=hob6;have hn4:=h.pg.n4;refine enter [4] Tryz.func32 O O (al O) (zSR (za O (a6 (aa (aq (zSR (zm O (zn O O (a7 O (a8 dC O I4 O O) (a7 O (aD uU4 O O (h.blk.c O)) (za O (a6 (aI (rfl) (zSR (zm O (ag O C72 (wz w _ l hl (by omega)) ?_))))))))))))))));rintro _ w1 ⟨rfl,hc1⟩;rw[hb];refine a7 O (cz O) (za O (a6 (aI (rfl) (bQ (ax (aj (zSR (zm O (zn O O (a7 O (a8 dC O I25 O O) ?_))))))))));have hB1:=h.blk.chg0 hc1;have hsw:=h.blk.lt;have hmw:=h.map.lt;refine a7 O (aD bu O O (hB1.c O)) (za O (a6 (aa (zSR (zmv O (aB O nJ) (zm O (a6 (aq ?_))))))));have hob7:=h.live;obtain⟨hm0,d0,pg0,ht0,hw0,hn0⟩:=hob7;have hE0:Edt c w1 s s root d0 pg0 m:=⟨⟨h.pg.chg0 hc1,ht0,hw0,hn0⟩,rfl,λx hx=>⟨hx,rfl⟩,λx hx=>.inl hx⟩
 refine aX [0,5,23,24,25] (λn vs w'=>∃(i:Nat) (s':TP) (id:UInt32) (d:Nat) (pg:List UInt32),vs=[.pointer (some ⟨sb,0,none⟩),.int .u32 id.toNat,.slice pl l.length cl,.int .i64 l.length,.int .i64 i]/\i+n=l.length/\Edt c w' s s' id d pg (lI m (l.take i))/\(lI m (l.take i)).length<=m.length+i/\s'.k<=s.k+24*i/\Chg c.F w1 w') (l.length) ?_ ?_
 ·exact⟨0,s,root,d0,pg0,rfl,by omega,hE0,aM _,by omega,Chg.refl' _ _⟩
 ·rintro n vs J w3 ⟨i,s3,id,d,pg,rfl,hin,hE3,hml,hk3,hc3⟩;refine zSR (a7 O (bK O O) ?_);refine a6 (aa ?_);have hB3:=hB1.chg hc3 h.sF.1;have hl3:=(hl.mod0 hc1).mod hc3 hlF;refine aA O (λhlt=>?_) (λhlt=>?_)
  ·refine zKN (aa (aq (aa (ae ?_))));have hob8:∃z,n=z+1:=⟨n-1,by omega⟩
   obtain⟨n,rfl⟩:=hob8;have hob9:∃a,l[i]?=some a:=⟨l[i]'(by omega),bM _⟩
   obtain⟨a,ha⟩:=hob9;have hag:=hgood a (j1 ha);have hup:lI m (l.take (i+1))=updW (lI m (l.take i)) a:=by
    unfold lI;rw[gU,ha];simp
   have hsrt:=(jg hE3.tr.tree).2;have hd10:=pf hE3.tr.tree (by omega);have hroom:=hE3.room h.com hn4.2 L (λx hx=>hL1 x ((h.used x).1 hx)) (by omega);refine bD O (aS (i) nJ I66 O (hl3) O O (by first|rfl|omega) (by omega)) ?_;rintro _ ⟨bi,oi,rfl,hei,hbi⟩;refine a7 O (cK mW O I66 O (hl3.at hei ha) O) (aY O (dt (l:=[str [],str [],.bool false]) I66 O O) ?_);rintro _ w4 ⟨ab,rfl,hn4',hA4,hc4,hl4'⟩;refine aQ O (cH (l:=[str a.k,str a.v,.bool a.d]) I66 O O (hA4) O (rfl) (aM 3) (Flat.cell a) (rfl)) ?_;rintro w5 ⟨hA5,hc5,hs5⟩;refine zNR (zmm O ?_);have hA5:Blk w5 ab (Flat.enc a):=hA5;have hc35:Chg [] w3 w5:=hc4.t1 hc5 hn4';have hB5:=hB3.chg0 hc35;refine a7 O (Gj (Flat.enc a) mW O I66 O hA5 O O) (ag O C73 (Gx c w5 s s3 id d pg _ a sb _ _ _ (hE3.chg0 hc35) h.com hB5 h.sF.1 hag (by omega) (by omega)) ?_);rintro _ w6 ⟨⟨id6,d6,pg6,s6,er,m6,rfl,hWE,hE6,hk6,hd6⟩,hc6⟩;refine zm O (zx O (zx O (zaa O (a6 (aa (zSR (zmv O (bV O O) (a6 ?_))))))));rcases hWE with⟨rfl,rfl⟩|⟨rfl,rfl,hro⟩
   rotate_left
   ·refine bI O (by decide) ?_;refine zSR (zmm O ?_);have hB6:=hB5.chg hc6 h.sF.1;have hM6:MapAt w6 mr (snV (eG sx)):=(((h.map.mod hc1 (by simp)).mod hc3 h.mF.1).mod hc35 (by simp)).mod hc6 h.mF.1;refine ag O C74 ((HO hE6.tr.at_ hB6 70 (by decide) :)) ?_;rintro _ w7 ⟨rfl,⟨c7,hp7,hc7c,hF7⟩,hc7⟩;refine za O (a6 (bC (aL (aR (aL (aL (aR (aL (cV ?_)))))))));have hsm:c.n<xm m sx+2*(m.length+l.length)+30:=by omega
    have h16:Chg c.F w1 w6:=(hc3.tr0 hc35).tr hc6;have k16:w.heap.size<=w6.heap.size:=by have:=hc1.1;have:=h16.1;omega
    refine⟨⟨70,m,rfl,.inr ⟨rfl,rfl,hsm⟩,c7,_,root,h.undone hE6 (by omega) hp7 (by obtain⟨u,r,rfl⟩:=hc7c;rfl) (by obtain⟨u,r,rfl⟩:=hc7c;rfl) (by obtain⟨u,r,rfl⟩:=hc7c;rfl) hF7 (hB6.chg hc7 h.sF.1) (hM6.mod hc7 h.mF.1) (by omega) (by omega),by obtain⟨u,r,rfl⟩:=hc7c;rfl,λx hx=>(hF7 x hx).imp (λq=>q) (λq=>by omega),by show s6.k<=_;omega⟩,?_⟩;exact hc1.tr0' ((h16.tr hc7).mono (λx hx _=>bN _ hx))
   refine aJ O (λh=>h O) ?_;refine zKN (ae (zma O (bA (ax (aj (ae (a7 O (aC O O (by omega)) (zm O ?_))))))));refine a6 (aT (n) (bq (by omega) ?_));exact⟨i+1,s6,id6,d6,pg6,rfl,by omega,by rw[hup];exact hE6,by rw[hup];have:=Al (m:=lI m (l.take i)) a hsrt;omega,by omega,(hc3.tr0 hc35).tr hc6⟩
  ·refine aO (an (an (aE (aj (zSR (zmm O (zm O (zn O O (a7 O (a8 dC O oD O O) ?_)))))))));have hil:i=l.length:=by omega
   subst hil;rw[cX] at hE3 hml;have hM3:MapAt w3 mr (snV (eG sx)):=(h.map.mod hc1 (by simp)).mod hc3 h.mF.1;have hlv:Tre s3 id (lI m l):=⟨by omega,d,pg,hE3.tr.tree,hE3.tr.wr,hE3.tr.nd⟩
   have hol:∀p∈sx,Tre s3 p.2.1 p.2.2:=λp hp=>hE3.tre (h.olds p hp);refine a7 O (aD fO O O (hB3.c O)) (ag O C75 ((tj c w3 s3 sb mr _ _ _ id (eG sx) hE3.tr.at_ hB3 hM3 (hlv.std_all hol) h.sF ⟨h.mF.1,h.mF.2.1⟩ (by unfold eG;rw[dr];have:=h.few;omega) (λp hp=>by obtain⟨q,hq,rfl⟩:=List.mem_map.1 hp;exact h.names q hq) (by omega) :)) ?_);rintro _ w4 ⟨rfl,⟨c',s',hC,hcf⟩,hB4,hM4,hc4⟩;refine za O (a6 (zrf ?_));have k13:w.heap.size<=w3.heap.size:=by have:=hc1.1;have:=hc3.1;omega
   refine⟨⟨0,_,rfl,.inl ⟨rfl,rfl⟩,c',s',id,StoreAt.commit (w:=w3) hC hcf hB4 hM4 ⟨by omega,h.sF⟩ ⟨by omega,h.mF⟩ hlv hol h.names h.few,hC.c,λx hx=>(hcf x hx).imp (λq=>q) (λq=>by omega),by rw[hC.k];omega⟩,?_⟩;exact(hc1.tr0' (hc3.mono (λx hx _=>bN _ hx))).tr hc4
end Go.Proofs.YtpbfapbajmdlkaaGreat
namespace Go.Proofs.YtpbfapbajmdlkaaGreat
open Go Go.Sac Go.Maps
set_option maxRecDepth 100000
set_option maxHeartbeats 4000000
theorem Ix(w:World)(r:Nat) :
  Ret Tryz.prog 68 #[.map (some r)] w λv w'=>∃q,v=.func (.func 116) #[] #[.pointer (some ⟨q,0,none⟩)]/\Blk w' q [.map (some r)]/\w.heap.size<=q/\Chg [] w w':=by
 refine enter [2] Tryz.func68 O O (al O) (zSR (aY O (cZ (l:=[.map (some r)]) O O) ?_));rintro _ w1 ⟨q,rfl,hq,hB,hc,hl⟩;refine za O (zNR (a7 O (DH O) (za O (a6 (zrf ?_)))));exact⟨q,rfl,hB,hq,hc⟩
theorem BN(w:World)(q r:Nat)(f:PgF)(n:Nat)(hn:n<=1000)(hB:Blk w q [.map (some r)])(hm:SetAt w r f)(hf:∀x,f x=true->x.toNat<n) :
  Ret Tryz.prog 114 #[.func (.func 116) #[] #[.pointer (some ⟨q,0,none⟩)]] w λv w'=>∃l:List UInt32,Own w' v l/\l.Nodup/\(∀x,x∈l↔f x=true)/\l.length<=n/\Chg [] w w'/\In v [] w.heap.size:=by
 obtain⟨m,hm,hg⟩:=hm;have hnd:(m.map (·.1)).Nodup:=by obtain⟨es,cl,_,_,hn,_⟩:=hm;exact hn
 have hmem:∀x,x∈m.map (·.1)↔f x=true:=λx=>by
  have h1:=hg x
  constructor
  ·intro hx;by_cases hfx:f x=true
   ·exact hfx
   ·rw[if_neg hfx] at h1;have hob1:=List.mem_map.1 hx;obtain⟨p,hp,rfl⟩:=hob1
    have:=(fo hnd).2 (show(p.1,p.2)∈m from hp)
    rw[this] at h1;cases h1
  ·intro hfx;rw[if_pos hfx] at h1;exact List.mem_map.2 ⟨_,(fo hnd).1 h1,rfl⟩
 have hsort:∀l:List UInt32,l.Perm (m.map (·.1))->nE l=zN f n:=λl hl =>
  As (by omega) (hl.nodup_iff.2 hnd) (λx=>by rw[hl.mem_iff];exact hmem x) hf
 have hlen:∀l:List UInt32,l.Perm (m.map (·.1))->l.length<=n:=λl hl=>by
  rw[<-rl,hsort l hl];exact tI f n
 have hml:m.length<=n:=by have:=hlen _ (.refl _);simpa using this
 obtain⟨D0,hown,hperm,hsz⟩:=pH bu hm (by unfold maxLen;omega);have hseq:SeqGives Fence.wide 3 Tryz.prog 116 #[.pointer (some ⟨q,0,none⟩)] (kQ .u32) (λss=>ss.Perm (intKeys D0)) (Maps.size D0) w :=
  wx Fence.wide _ trivial rfl (by omega) q r m.length D0 w hB.lt (hB.c O) hown
 have cC:=ot Fence.wide 5 trivial trivial rfl (by omega) 116 #[.pointer (some ⟨q,0,none⟩)] trivial (enters_of Tryz.func116 (by kernel_rfl) O) _ _ (by rw[hsz];unfold maxLen;omega) (by rw[hsz];omega) _ hseq;refine Calls.mono (callsIn_wide.1 cC) ?_;rintro e w' ⟨v,ss,rfl,hS,hrow,hnil,hb⟩;have hp2:ss.Perm ((m.map (·.1)).map λp=>(p.toNat:Int)):=by rw[fH];exact hS.trans hperm
 have hob2:=rG hp2;obtain⟨l,hl,rfl⟩:=hob2;rw[dr,fH] at hrow;have hob3:=tK (l:=l) hrow;obtain⟨h1,h2⟩:=hob3;exact⟨v,rfl,l,h1,hl.nodup_iff.2 hnd,λx=>by rw[hl.mem_iff];exact hmem x,hlen l hl,⟨hb.size,λb hb' _=>hb.block b hb',hb.os,hb.output⟩,h2⟩
theorem Dp(w:World)(q r:Nat)(f:PgF)(n:Nat)(hn:n<=1000)(hB:Blk w q [.map (some r)])(hm:SetAt w r f)(hf:∀x,f x=true->x.toNat<n) :
  Ret Tryz.prog 67 #[.func (.func 116) #[] #[.pointer (some ⟨q,0,none⟩)]] w λv w'=>∃l:List UInt32,Own w' v l/\l.Nodup/\(∀x,x∈l↔f x=true)/\l.length<=n/\Chg [] w w'/\In v [] w.heap.size:=by
 refine enter [2] Tryz.func67 O O (al O) (zSR (za O (zNR (zm O (ag O C114 (BN w q r f n hn hB hm hf) ?_)))));rintro v1 w1 ⟨l,ho1,hnd1,hm1,hl1,hc1,hi1⟩;have hob4:=ho1.form rfl;obtain⟨pv,cv,rfl⟩:=hob4;refine za O (zNR (zm O (ag O C115 (yK ho1 O (by omega)) ?_)));rintro _ w2 ⟨l2,ho2,hp2,hc2⟩;refine zNR (zma O (a6 (zrf ?_)));exact⟨l2,ho2,hp2.nodup_iff.2 hnd1,λx=>by rw[hp2.mem_iff];exact hm1 x,by rw[hp2.length_eq];exact hl1,hc1.t0 hc2 (λx hx=>hi1.ge x hx),hi1⟩
end Go.Proofs.YtpbfapbajmdlkaaGreat
namespace Go.Proofs.YtpbfapbajmdlkaaGreat
open Go Go.Sac
set_option maxRecDepth 100000
set_option maxHeartbeats 4000000
section
variable {c:TC}{w w':World}{s:TP}{sb mr:Nat}{root:UInt32}{m:List Pr}{sx:List Sx}
theorem StoreAt.chg0(h:StoreAt c w s sb mr root m sx)(hc:Chg [] w w'):StoreAt c w' s sb mr root m sx :=
 ⟨h.pg.chg0 hc,h.blk.chg0 hc,h.map.mod hc (by simp),h.sF,h.mF,h.live,h.olds,h.names,h.few,h.used,h.com,h.st,h.pend,h.rt,h.txt⟩
theorem Tre.tr(ht:Tre s root m)(h:c.pg w s):∃d pg,TR c w s root d pg m/\d<=40/\m.length<=1000:=by
 obtain⟨hm,d,pg,h1,h2,h3⟩:=ht
 have:=(pf h1 hm).1
 exact⟨d,pg,⟨h,h1,h2,h3⟩,by omega,hm⟩
theorem Tre.sort(ht:Tre s root m):ec m:=by obtain⟨_,d,pg,h1,_,_⟩:=ht;exact(jg h1).2
theorem SGet_ok(h:StoreAt c w s sb mr root m sx)(key v:Bs)(b:Bool)(hv:(lW m key).getD []=v)(hb:fA m key=b) :
  Ret Tryz.prog 47 #[.pointer (some ⟨sb,0,none⟩),str key] w λr w'=>r=.tuple #[str v,.bool b]/\Chg [] w w':=by
 obtain⟨d,pg,ht,hd,hm⟩:=h.live.tr h.pg;refine enter [4,5] Tryz.func47 O O (al O) (zSR (zaa O (a6 (aa (aH bx (.pure 0 (.pure 1 (.pure 2 (.read 3 (.pure 4 (.pure 5 (.pure 6 (.read 7 (.pure 8 (.eff 9 [] (.pure 10 (.pure 11 (.pure 12 (.pure 13 (.pure 14 (.pure 15 (.pure 16 .nil))))))))))))))))) (by kernel_rfl) ?_)))));refine ym O (yn O (yp O (λ_=>(a8 dC O I24 O O)) ?_));refine aG O O O ma O O (h.blk.c O) (ym O (yn O (yp O (λ_=>(a8 dC O I25 O O)) ?_)));refine aG O O O bu O O (h.blk.c O) (ym O (ycl O C23 ((get9 (ht.chg0 (drw _)) key v b hv hb hd :)) ?_));rintro _ w1 ⟨rfl,_,hc1⟩;refine⟨trivial,?_⟩;refine ym O (yx O (yx O (yx O (ya O (ya O (ya O (az (aa (zSR (zmv O (bV O O) (a6 ?_)))))))))));have hc1:Chg [] w w1:=(drw w).tr hc1;refine aJ O (λh=>h O) ?_;refine zKR (zmm O (zaa O (a6 (zrf ?_))));exact⟨rfl,hc1⟩
theorem SLen_ok(h:StoreAt c w s sb mr root m sx) :
  Ret Tryz.prog 39 #[.pointer (some ⟨sb,0,none⟩)] w λr w'=>r=.int .i64 m.length/\Chg [] w w':=by
 have hob1:=h.live.tr h.pg;obtain⟨d,pg,ht,hd,hm⟩:=hob1;refine enter [2] Tryz.func39 O O (al O) (zSR (za O (a6 (aa (aH bx (.pure 0 (.pure 1 (.pure 2 (.read 3 (.pure 4 (.pure 5 (.pure 6 (.read 7 (.eff 8 [] (.pure 9 (.pure 10 (.pure 11 (.pure 12 (.pure 13 .nil)))))))))))))) (by kernel_rfl) ?_)))));refine ym O (yn O (yp O (λ_=>(a8 dC O I24 O O)) ?_));refine aG O O O ma O O (h.blk.c O) (ym O (yn O (yp O (λ_=>(a8 dC O I25 O O)) ?_)));refine aG O O O bu O O (h.blk.c O) (ycl O C27 ((len9 (ht.chg0 (drw _)) hd (by omega) :)) ?_);rintro _ w1 ⟨rfl,_,hc1⟩;refine⟨trivial,?_⟩;refine ym O (yx O (yx O (ya O (ya O (zPR (zma O (a6 (zrf ?_))))))));have hc1:Chg [] w w1:=(drw w).tr hc1;exact⟨rfl,hc1⟩
theorem Io(h:StoreAt c w s sb mr root m sx)(lo hi:Bs)(most:Nat)(hm1:most<=1000) :
  Ret Tryz.prog 43 #[.pointer (some ⟨sb,0,none⟩),str lo,str hi,.int .i64 most] w λr w'=>Own w' r (vG m lo hi most)/\In r [] w.heap.size/\Chg [] w w':=by
 have hob2:=h.live.tr h.pg;obtain⟨d,pg,ht,hd,hm⟩:=hob2;refine enter [8] Tryz.func43 O O (al O) (zSR (za O (a6 (aa (aH bx (.pure 0 (.pure 1 (.pure 2 (.read 3 (.pure 4 (.pure 5 (.pure 6 (.read 7 (.pure 8 (.pure 9 (.pure 10 (.eff 11 [] (.pure 12 (.pure 13 (.pure 14 (.pure 15 (.pure 16 .nil))))))))))))))))) (by kernel_rfl) ?_)))));refine ym O (yn O (yp O (λ_=>(a8 dC O I24 O O)) ?_));refine aG O O O ma O O (h.blk.c O) (ym O (yn O (yp O (λ_=>(a8 dC O I25 O O)) ?_)));refine aG O O O bu O O (h.blk.c O) (ym O (ym O (ym O (ycl O C21 ((scan9 (ht.chg0 (drw _)) lo hi most hm1 hd (by omega) :)) ?_))));rintro _ w1 ⟨⟨ov,rfl,ho,hi1⟩,_,hc1⟩;refine⟨trivial,?_⟩;refine ym O (yx O (yx O (ya O (ya O (zPR (zma O (a6 (zrf ?_))))))));have hc1:Chg [] w w1:=(drw w).tr hc1;exact⟨ho,hi1,hc1⟩
theorem GP{p:Sx}(h:StoreAt c w s sb mr root m sx)(hp:p∈sx):cB p.1 (snV (eG sx))=some (.int .u32 p.2.1.toNat):=by
 refine(fo h.map.nodup).2 ?_;unfold snV eG;rw[fH];exact List.mem_map.2 ⟨p,hp,rfl⟩
theorem sn_no{nm:Bs}(h:StoreAt c w s sb mr root m sx)(hp:∀p∈sx,p.1≠nm):cB nm (snV (eG sx))=none:=by
 cases hg:cB nm (snV (eG sx)) with
 | none => rfl
 | some v =>
  have:=(fo h.map.nodup).1 hg
  unfold snV eG at this;rw[fH] at this;have hob3:=List.mem_map.1 this;obtain⟨p,hp1,e⟩:=hob3;exact absurd (congrArg Prod.fst e) (hp p hp1)
theorem FV(h:StoreAt c w s sb mr root m sx)(p:Sx)(hp:p∈sx)(key v:Bs)(b:Bool)(hv:(lW p.2.2 key).getD []=v)(hb:fA p.2.2 key=b) :
  Ret Tryz.prog 34 #[.pointer (some ⟨sb,0,none⟩),str p.1,str key] w λr w'=>r=.tuple #[str v,.bool b,.int .i64 0]/\Chg [] w w':=by
 have hob4:=(h.olds p hp).tr h.pg;obtain⟨d,pg,ht,hd,hm⟩:=hob4;have hlook:Value.tuple #[(cB p.1 (snV (eG sx))).getD (.int .u32 0),.bool (cB p.1 (snV (eG sx))).isSome]=.tuple #[.int .u32 p.2.1.toNat,.bool true]:=by rw[GP h hp];rfl
 refine enter [6,7,8] Tryz.func34 O O (al O) (zSR (zaa O (za O (zNR (zm O (zn O O (a7 O (a8 dC O oD O O) (a7 O (aD fO O O (h.blk.c O)) (zmv O (bG (jF (k:=p.1) fO (gO uU9) I25 O O O h.map) hlook) ?_)))))))));refine zm O (zx O (zx O (zaa O (a6 (aa (zSR (zmv O (cz O) (a6 (aI (rfl) (zKR (zm O (zn O O (a7 O (a8 dC O I24 O O) (a7 O (aD ma O O (h.blk.c O)) (zmm O (ag O C23 (get9 ht key v b hv hb hd) ?_))))))))))))))));rintro _ w1 ⟨rfl,_,hc1⟩;refine zx O (zx O (zx O (zaa O (za O (a6 (zrf ?_))))));exact⟨rfl,hc1⟩
theorem FW(h:StoreAt c w s sb mr root m sx)(nm key:Bs)(hp:∀p∈sx,p.1≠nm) :
  Ret Tryz.prog 34 #[.pointer (some ⟨sb,0,none⟩),str nm,str key] w λr w'=>r=.tuple #[str [],.bool false,.int .i64 100]/\w=w':=by
 have hlook:Value.tuple #[(cB nm (snV (eG sx))).getD (.int .u32 0),.bool (cB nm (snV (eG sx))).isSome]=.tuple #[.int .u32 0,.bool false]:=by rw[sn_no h hp];rfl
 refine enter [6,7,8] Tryz.func34 O O (al O) (zSR (zaa O (za O (zNR (zm O (zn O O (a7 O (a8 dC O oD O O) (a7 O (aD fO O O (h.blk.c O)) (zmv O (bG (jF (k:=nm) fO (gO uU9) I25 O O O h.map) hlook) ?_)))))))));refine zm O (zx O (zx O (zaa O (a6 (aa (zSR (zmv O (cz O) (a6 (aW (rfl) (zSR (zaa O (za O (a6 (zrt ?_))))))))))))));exact⟨rfl,rfl⟩
theorem Iq(h:StoreAt c w s sb mr root m sx) :
  Ret Tryz.prog 38 #[.pointer (some ⟨sb,0,none⟩)] w λr w'=>(∃(av bv:Value) (la lb:List UInt32),r=.tuple #[av,bv]/\Own w' av la/\Own w' bv lb/\la.length=lb.length/\la.length<=xm m sx/\0<la.length/\la.length<=c.n)/\Chg [] w w':=by
 have hn4:=h.pg.n4;have hob6:=Rch.list h.live h.olds;obtain⟨L,hL1,hL2⟩:=hob6;refine enter [2,3] Tryz.func38 O O (al O) (zSR (zaa O (a6 (aa (aH bx (.pure 0 (.pure 1 (.pure 2 (.pure 3 (.read 4 (.pure 5 (.pure 6 (.pure 7 (.read 8 (.eff 9 [] (.pure 10 (.pure 11 (.pure 12 (.pure 13 (.pure 14 .nil))))))))))))))) (by kernel_rfl) ?_)))));refine ym O (ym O (yn O (yp O (λ_=>(a8 dC O I25 O O)) ?_)));refine aG O O O bu O O (h.blk.c O) (ym O (yn O (yp O (λ_=>(a8 dC O oD O O)) ?_)));refine aG O O O fO O O (h.blk.c O) (ycl O C79 ((vO c _ s sb mr _ _ _ root (eG sx) (h.pg.chg0 (drw _)) (h.blk.chg0 (drw _)) (h.map.mod (drw _) (by simp)) (h.live.std_all h.olds) :)) ?_);rintro _ w1 ⟨⟨qb,f,rfl,hS1,hf,hqn⟩,hp1,hc1⟩;refine⟨trivial,?_⟩;refine ym O (yx O (yx O (ya O (ya O (zPR (zm O (zn O O (a7 O (a8 dC O I24 O O) ?_))))))));have hc1:Chg [] w w1:=(drw w).tr hc1;have hB1:=h.blk.chg0 hc1;refine a7 O (aD ma O O (hB1.c O)) (ag O C80 (wT w1 c.R c.b c.key s.P hp1.2.1 c.n (by omega) (λx hx=>hp1.2.2.2.1.ok.used x hx)) ?_);rintro av w2 ⟨la,hoa,hna,hma,hln,hc2,hia⟩;refine zm O (ag O C68 (Ix _ qb) ?_);rintro _ w3 ⟨q,rfl,hB3,hq3,hc3⟩;have hu:∀x,f x=true↔s.P.now.used x=true:=λx=>by rw[hf x,h.used x,uy]
 refine ag O C67 (Dp w3 q qb f c.n (by omega) hB3 ((hS1.chg0 hc2).chg0 hc3) (λx hx=>hp1.2.2.2.1.ok.used x ((hu x).1 hx))) ?_;rintro bv w4 ⟨lb,hob,hnb,hmb,_,hc4,hib⟩;refine zaa O (a6 (zrf ?_));have hperm:la.Perm lb:=(zf hna hnb).2 (λx=>by rw[hma x,hmb x,hu x]);refine⟨⟨av,bv,la,lb,rfl,hoa.mod0 (hc3.tr hc4),hob,hperm.length_eq,?_,List.length_pos_of_mem ((hma root).2 ((h.used root).2 ?_)),by omega⟩,hc1.tr (hc2.tr (hc3.tr hc4))⟩
 rotate_left
 ·have hob7:=h.live;obtain⟨_,d,pg,ht,_,_⟩:=hob7;have hob8:=B2 ht;obtain⟨q,hq⟩:=hob8;exact⟨root,cM,d,pg,m,ht,by rw[hq];simp⟩
 have:=mz la L hna (λx hx=>hL1 x ((h.used x).1 ((hma x).1 hx)))
 omega
end
def okC(ch:UInt8):Bool:=(decide (ch≥97)&&decide (ch<=122))||(decide (ch≥48)&&decide (ch<=57))
def pz(nm:Bs):Bool:=nm.all okC&&decide (1<=nm.length)&&decide (nm.length<=10)
theorem Fs(w:World)(nm:Bs)(hl:nm.length<=100000) :
  Ret Tryz.prog 76 #[str nm] w λv w'=>v=.bool (pz nm)/\w=w':=by
 refine enter [2] Tryz.func76 O O (al O) (zSR (za O (a6 (aa (zSR (zmv O (hU O uU9) (zm O (a6 (aq (aX [0,6,7] (λn vs w'=>∃i:Nat,vs=[str nm,.int .i64 nm.length,.int .i64 i]/\i+n=nm.length/\(nm.take i).all okC=true/\w=w') (nm.length) ?_ ?_))))))))))
 ·exact⟨0,rfl,by omega,rfl,rfl⟩
 ·rintro n vs J w1 ⟨i,rfl,hin,hall,rfl⟩;refine zSR (a7 O (bK O O) ?_);refine a6 (aa (aA O (λhlt=>?_) (λhlt=>?_)))
  ·refine zKN (aa (aq (zSR (zma O (zNR (zmm O ?_))))));have hob1:∃z,n=z+1:=⟨n-1,by omega⟩
   obtain⟨n,rfl⟩:=hob1;have hob2:∃a,nm[i]?=some a:=⟨nm[i]'(by omega),bM _⟩
   obtain⟨ch,hch⟩:=hob2;have hno:okC ch=false->pz nm=false:=λh=>by
    unfold pz;rw[List.all_eq_false.2 ⟨ch,j1 hch,by simp[h]⟩];rfl
   have hall2:okC ch=true->(nm.take (i+1)).all okC=true:=λh=>by
    rw[gU,hch,BU,hall];simp[h]
   refine a7 O (mT (l:=nm) (b:=ch) uU9 O O (uR _) (by rw[jk];exact hch)) ?_;refine za O (zNR (zm O ?_));by_cases h1:ch≥97
   ·refine a7 O (bG (oO (b:=97) O O) (congrArg Value.bool (decide_eq_true (h1)))) ?_;refine zm O (ah O (zm O (ah O ?_)));by_cases h2:ch<=122
    ·refine a7 O (bG (uw (b:=122) O O) (congrArg Value.bool (decide_eq_true (h2)))) ?_;refine a7 O (aN O) (zm O (aw O O (aw O O (aw O O (aw O O (aw O O (aw O O (a7 O (aN O) (a7 O (cz O) (a6 ?_))))))))));have hg:okC ch=true:=by unfold okC;rw[decide_eq_true h1,decide_eq_true h2];rfl
     refine aI (rfl) ?_;refine bQ (ax (aj (ae (a7 O (aC O O (by omega)) (zm O ?_)))));refine a6 (aT (n) (bq (by omega) ?_));exact⟨i+1,rfl,by omega,hall2 hg,rfl⟩
    ·refine a7 O (bG (uw (b:=122) O O) (congrArg Value.bool (decide_eq_false (h2)))) ?_;refine a7 O (aN O) (zm O (ah O (zm O (ah O ?_))));have hno2:(decide (ch≥97)&&decide (ch<=122))=false:=by rw[decide_eq_false h2,Bool.and_false]
     by_cases h3:ch≥48
     ·refine a7 O (bG (oO (b:=48) O O) (congrArg Value.bool (decide_eq_true (h3)))) ?_;refine ah O (zm O (ah O (zm O (ah O (a7 O (uw (b:=57) O O) (ah O (a7 O (aN O) (a7 O (aK O) (a7 O (cz O) ?_)))))))));refine a6 (bX O (λh4=>?_) (λh4=>?_))
      ·refine zSR (za O (a6 (bC (aR (aL (aL (aR (aL (cV ?_)))))))));have h4:¬ch<=57:=by simpa using h4
       have hg:okC ch=false:=by unfold okC;rw[decide_eq_false h4,hno2];simp
       exact⟨congrArg Value.bool (hno hg).symm,rfl⟩
      ·refine bQ (ax (aj (ae (a7 O (aC O O (by omega)) (zm O ?_)))));refine a6 ?_;have h4:ch<=57:=by simpa using h4
       have hg:okC ch=true:=by unfold okC;rw[decide_eq_true h3,decide_eq_true h4];simp
       refine aT (n) (bq (by omega) ?_);exact⟨i+1,rfl,by omega,hall2 hg,rfl⟩
     ·refine a7 O (bG (oO (b:=48) O O) (congrArg Value.bool (decide_eq_false (h3)))) ?_;refine ah O (zm O (aw O O (aw O O (ah O (a7 O (aK O) (a7 O (aK O) (a7 O (cz O) (a6 ?_))))))));have hg:okC ch=false:=by unfold okC;rw[decide_eq_false h3,hno2];simp
      refine aW (rfl) ?_;refine zSR (za O (a6 (bC (aR (aL (aL (aR (aL (cV ?_)))))))));exact⟨congrArg Value.bool (hno hg).symm,rfl⟩
   ·refine a7 O (bG (oO (b:=97) O O) (congrArg Value.bool (decide_eq_false (h1)))) ?_;refine zm O (aw O O (aw O O (a7 O (aK O) (zm O (ah O (zm O (ah O ?_)))))));have hno2:(decide (ch≥97)&&decide (ch<=122))=false:=by rw[decide_eq_false h1,Bool.false_and]
    by_cases h3:ch≥48
    ·refine a7 O (bG (oO (b:=48) O O) (congrArg Value.bool (decide_eq_true (h3)))) ?_;refine ah O (zm O (ah O (zm O (ah O (a7 O (uw (b:=57) O O) (ah O (a7 O (aN O) (a7 O (aK O) (a7 O (cz O) ?_)))))))));refine a6 (bX O (λh4=>?_) (λh4=>?_))
     ·refine zSR (za O (a6 (bC (aR (aL (aL (aR (aL (cV ?_)))))))));have h4:¬ch<=57:=by simpa using h4
      have hg:okC ch=false:=by unfold okC;rw[decide_eq_false h4,hno2];simp
      exact⟨congrArg Value.bool (hno hg).symm,rfl⟩
     ·refine bQ (ax (aj (ae (a7 O (aC O O (by omega)) (zm O ?_)))));refine a6 ?_;have h4:ch<=57:=by simpa using h4
      have hg:okC ch=true:=by unfold okC;rw[decide_eq_true h3,decide_eq_true h4];simp
      refine aT (n) (bq (by omega) ?_);exact⟨i+1,rfl,by omega,hall2 hg,rfl⟩
    ·refine a7 O (bG (oO (b:=48) O O) (congrArg Value.bool (decide_eq_false (h3)))) ?_;refine ah O (zm O (aw O O (aw O O (ah O (a7 O (aK O) (a7 O (aK O) (a7 O (cz O) (a6 ?_))))))));have hg:okC ch=false:=by unfold okC;rw[decide_eq_false h3,hno2];simp
     refine aW (rfl) ?_;refine zSR (za O (a6 (bC (aR (aL (aL (aR (aL (cV ?_)))))))));exact⟨congrArg Value.bool (hno hg).symm,rfl⟩
  ·refine aO (an (an (aE (aj (zSR (zmv O (hU O uU9) ?_))))));have hil:i=nm.length:=by omega
   subst hil;rw[cX] at hall;have hres:∀g:Bool,g=(decide (1<=nm.length)&&decide (nm.length<=10))->Value.bool g=Value.bool (pz nm):=λg h=>by
    rw[h];unfold pz;rw[hall,j4]
   by_cases h1:1<=nm.length
   ·refine a7 O (bG (fC O O) (bT (by omega))) ?_;refine zm O (ah O (zm O (ah O (a7 O (hU O uU9) (ah O (a7 O (fN O O) (a7 O (aN O) (za O (a6 (zrf ?_))))))))));refine⟨hres _ ?_,rfl⟩;rw[decide_eq_true h1,j4,qI,decide_eq_true_iff,decide_eq_true_iff];omega
   ·refine a7 O (bG (fC O O) (bF (by omega))) ?_;refine zm O (aw O O (aw O O (aw O O (a7 O (aK O) (za O (a6 (zrf ?_)))))));exact⟨hres _ (by rw[decide_eq_false h1];rfl),rfl⟩
theorem rT(w:World)(nm:Bs)(b:Bool)(hb:pz nm=b)(hl:nm.length<=100000) :
  Ret Tryz.prog 76 #[str nm] w λv w'=>v=.bool b/\w=w':=by
 subst hb;exact Fs w nm hl
def qx(nm:Bs):List Sx->List Sx
 | [] => []
 | p :: l => if nm = p.1 then l else p :: qx nm l
theorem DS(nm:Bs):∀sx:List Sx,snV (eG (qx nm sx))=kx nm (snV (eG sx))
 | [] => rfl
 | p :: l => by
  show snV (eG (if nm=p.1 then l else p::qx nm l))=if nm=p.1 then snV (eG l) else (p.1,.int .u32 p.2.1.toNat)::kx nm (snV (eG l))
  by_cases h:nm=p.1
  ·rw[if_pos h,if_pos h]
  ·rw[if_neg h,if_neg h,<-DS nm l];rfl
theorem zA(p:Sx):∀sx:List Sx,(∀q∈sx,q.1≠p.1)->snV (eG (sx++[p]))=dU p.1 (.int .u32 p.2.1.toNat) (snV (eG sx))
 | [], _ => rfl
 | q :: l, h => by
  show(q.1,Value.int .u32 q.2.1.toNat)::snV (eG (l++[p]))=if p.1=q.1 then _ else (q.1,.int .u32 q.2.1.toNat)::dU p.1 _ (snV (eG l))
  rw[if_neg (λe=>h q cM e.symm),zA p l (λq hq=>h q (bN _ hq))]
theorem wJ{nm:Bs}:∀{sx:List Sx} {p:Sx},p∈qx nm sx->p∈sx
 | [], p, h => h
 | q :: l, p, h => by
  unfold qx at h
  split at h
  ·exact bN _ h
  ·rcases List.mem_cons.1 h with rfl|h
   ·exact cM
   ·exact bN _ (wJ h)
theorem Bu(nm:Bs):∀sx:List Sx,(qx nm sx).length<=sx.length
 | [] => aM _
 | q :: l => by
  unfold qx
  have:=Bu nm l
  split
  ·simp
  ·simp only[cg];omega
theorem yP(w:World)(r:Nat)(m:List (Bs×Value))(hm:MapAt w r m) :
  Ret Tryz.prog 77 #[.map (some r)] w λv w'=>∃q,v=.map (some q)/\MapAt w' q m/\Chg [] w w'/\w.heap.size<=q :=
 yF Tryz.cloneB w r m hm
def Aft(c:TC)(w w':World)(s:TP)(sb:Nat)(root:UInt32)(m:List Pr)(sx:List Sx):Prop :=
 ∃(c':TC) (s':TP) (mr:Nat),StoreAt c' w' s' sb mr root m sx/\c'={ c with R:={ c.R with u:=c'.R.u,r:=c'.R.r,ku:=c'.R.ku,kr:=c'.R.kr } }/\(∀x∈c'.F,x∈c.F∨w.heap.size<=x)/\s'.k<=s.k+1/\w.heap.size<=mr
section
variable {c:TC}{w w':World}{s:TP}{sb mr:Nat}{root:UInt32}{m:List Pr}{sx:List Sx}
theorem E7(h:StoreAt c w s sb mr root m sx)(nm:Bs)(b:Bool)(hb:b=decide (∃p∈sx,p.1=nm)):∃v:Value,Value.tuple #[(cB nm (snV (eG sx))).getD (.int .u32 0),.bool (cB nm (snV (eG sx))).isSome]=.tuple #[v,.bool b]:=by
 by_cases hp:∃p∈sx,p.1=nm
 ·rw[decide_eq_true hp] at hb;obtain⟨p,hp,rfl⟩:=hp;rw[GP h hp,hb];exact⟨_,rfl⟩
 ·rw[decide_eq_false hp] at hb;rw[sn_no h (λp hp' e=>hp ⟨p,hp',e⟩),hb];exact⟨_,rfl⟩
theorem Dq(h:StoreAt c w s sb mr root m sx)(nm:Bs)(hl:nm.length<=100000)(hn:pz nm=true)(hp:∃p∈sx,p.1=nm) :
  Ret Tryz.prog 33 #[.pointer (some ⟨sb,0,none⟩),str nm] w λr w'=>r=.int .i64 101/\w=w':=by
 have hob1:=E7 h nm true (decide_eq_true hp).symm;obtain⟨v,hv⟩:=hob1;refine enter [4] Tryz.func33 O O (al O) (zSR (za O (zNR (zm O (zn O O (a7 O (a8 dC O oD O O) (a7 O (aD fO O O (h.blk.c O)) (zmv O (bG (jF (k:=nm) fO (gO uU9) I25 O O O h.map) hv) ?_))))))));refine zm O (zx O (zx O (zaa O (a6 (aa (aq (zSR (zm O (zn O O (a7 O (a8 dC O I4 O O) (a7 O (aD uU4 O O (h.blk.c O)) (za O (a6 (aI (rfl) (zSR (zm O (ag O C76 (rT w nm true hn hl) ?_)))))))))))))))));rintro _ w1 ⟨rfl,rfl⟩;refine a7 O (cz O) (za O (a6 (aI (rfl) (zSR (zma O (a6 (aW (rfl) (zSR (za O (a6 (zrb ?_)))))))))));exact⟨rfl,rfl⟩
theorem Snap_ok(h:StoreAt c w s sb mr root m sx)(nm:Bs)(hn:pz nm=true)(hp:¬∃p∈sx,p.1=nm)(h4:sx.length<4)(hk:s.k+1<=40000) :
  Ret Tryz.prog 33 #[.pointer (some ⟨sb,0,none⟩),str nm] w λr w'=>r=.int .i64 0/\Aft c w w' s sb root m (sx++[(nm,root,m)])/\Chg (sb::c.F) w w':=by
 have h10:nm.length<=10:=by unfold pz at hn;exact of_decide_eq_true (Bool.and_eq_true_iff.1 hn).2
 have hob3:=E7 h nm false (decide_eq_false hp).symm;obtain⟨v,hv⟩:=hob3;have hsl:(snV (eG sx)).length=sx.length:=by rw[jG];exact dr ..
 have hF:=h.pg.lt;have hsw:=h.blk.lt;have hmw:=h.map.lt;have hw0:=(PS.now h.pg).1;refine enter [4] Tryz.func33 O O (al O) (zSR (za O (zNR (zm O (zn O O (a7 O (a8 dC O oD O O) (a7 O (aD fO O O (h.blk.c O)) (zmv O (bG (jF (k:=nm) fO (gO uU9) I25 O O O h.map) hv) ?_))))))));refine zm O (zx O (zx O (zaa O (a6 (aa (aq (zSR (zm O (zn O O (a7 O (a8 dC O I4 O O) (a7 O (aD uU4 O O (h.blk.c O)) (za O (a6 (aI (rfl) (zSR (zm O (ag O C76 (rT w nm true hn (by omega)) ?_)))))))))))))))));rintro _ w1 ⟨rfl,rfl⟩;refine a7 O (cz O) (za O (a6 (aI (rfl) (zSR (zma O (a6 (aI (rfl) (zSR (zm O (zn O O (a7 O (a8 dC O oD O O) (a7 O (aD fO O O (h.blk.c O)) (a7 O (bG (xM fO O h.map) (congrArg (λn:Nat=>Value.int .i64 n) hsl)) ?_)))))))))))));refine a7 O (fC O O) (za O (a6 (aJ O (by omega) ?_)));refine bQ (ax (aj (zSR (zm O (zn O O (a7 O (a8 dC O oD O O) ?_))))));refine a7 O (aD fO O O (h.blk.c O)) (ag O C77 (yP _ mr _ h.map) ?_);rintro _ w2 ⟨q,rfl,hQ2,hc2,hqw⟩;refine za O (zNR (zmm O (zm O (zn O O (a7 O (a8 dC O I25 O O) ?_)))));have hB2:=h.blk.chg0 hc2;refine a7 O (aD bu O O (hB2.c O)) (aQ O (gz (k:=nm) fO (gO uU9) O O O hQ2) ?_);rintro w3 ⟨hQ3,hc3,hs3⟩;refine zNR (zmm O (zn O O (a7 O (a8 dC O I25 O O) ?_)));have hQ3:MapAt w3 q (snV (eG (sx++[(nm,root,m)]))):=by rw[zA (nm,root,m) sx (λp hp' e=>hp ⟨p,hp',e⟩)];exact hQ3
 have hqF:q∉c.F:=λhh=>by have:=hF _ hh;omega
 have hqs:q≠sb:=by omega
 have hB3:=hB2.chg hc3 (by simp;omega);have hp3:c.pg w3 s:=(h.pg.chg0 hc2).chg hc3 (λx hx hh=>by simp at hh;subst hh;exact hqF hx) (λx hx=>by simp at hx;subst hx;omega);have hol:∀p∈sx++[((nm,root,m):Sx)],Tre s p.2.1 p.2.2:=λp hp'=>by
  rcases List.mem_append.1 hp' with g|g
  ·exact h.olds p g
  ·rw[gh] at g;subst g;exact h.live
 have hnm:∀p∈sx++[((nm,root,m):Sx)],p.1.length<=10:=λp hp'=>by
  rcases List.mem_append.1 hp' with g|g
  ·exact h.names p g
  ·rw[gh] at g;subst g;exact h10
 have hle:(sx++[((nm,root,m):Sx)]).length<=4:=by rw[aF,gB];omega
 refine a7 O (aD bu O O (hB3.c O)) (zm O (ag O C75 ((tj c w3 s sb q _ _ _ root (eG (sx++[(nm,root,m)])) hp3 hB3 hQ3 (h.live.std_all hol) h.sF ⟨hqF,hqs⟩ (by unfold eG;rw[dr];omega) (λp hp'=>by obtain⟨z,hz,rfl⟩:=List.mem_map.1 hp';exact hnm z hz) hk :)) ?_));rintro _ w4 ⟨rfl,⟨c',s',hC,hcf⟩,hB4,hM4,hc4⟩;refine za O (a6 (zrf ?_));have k13:w.heap.size<=w3.heap.size:=by have:=hc2.1;omega
 have hqw3:=hQ3.lt;have hc03:Chg [] w w3:=hc2.t1 hc3 hqw;refine⟨rfl,⟨c',s',q,StoreAt.commit (w:=w3) hC hcf hB4 hM4 ⟨by omega,h.sF⟩ ⟨hqw3,hqF,hqs,by omega⟩ h.live hol hnm hle,hC.c,λx hx=>(hcf x hx).imp (λq=>q) (λq=>by omega),by rw[hC.k];omega,hqw⟩,hc03.tr0' hc4⟩
theorem G3(h:StoreAt c w s sb mr root m sx)(nm:Bs)(hl:nm.length<=100000)(hn:pz nm=true)(hp:¬∃p∈sx,p.1=nm) :
  Ret Tryz.prog 36 #[.pointer (some ⟨sb,0,none⟩),str nm] w λr w'=>r=.int .i64 100/\w=w':=by
 have hob4:=E7 h nm false (decide_eq_false hp).symm;obtain⟨v,hv⟩:=hob4;refine enter [4] Tryz.func36 O O (al O) (zSR (za O (zNR (zm O (zn O O (a7 O (a8 dC O oD O O) (a7 O (aD fO O O (h.blk.c O)) (zmv O (bG (jF (k:=nm) fO (gO uU9) I25 O O O h.map) hv) ?_))))))));refine zm O (zx O (zx O (zaa O (a6 (aa (aq (zSR (zm O (zn O O (a7 O (a8 dC O I4 O O) (a7 O (aD uU4 O O (h.blk.c O)) (za O (a6 (aI (rfl) (zSR (zm O (ag O C76 (rT w nm true hn hl) ?_)))))))))))))))));rintro _ w1 ⟨rfl,rfl⟩;refine a7 O (cz O) (za O (a6 (aI (rfl) (zSR (zmv O (cz O) (za O (a6 (aW (rfl) (zSR (za O (a6 (zrb ?_))))))))))));exact⟨rfl,rfl⟩
theorem Drop_ok(h:StoreAt c w s sb mr root m sx)(nm:Bs)(hn:pz nm=true)(hp:∃p∈sx,p.1=nm)(hk:s.k+1<=40000) :
  Ret Tryz.prog 36 #[.pointer (some ⟨sb,0,none⟩),str nm] w λr w'=>r=.int .i64 0/\Aft c w w' s sb root m (qx nm sx)/\Chg (sb::c.F) w w':=by
 have h10:nm.length<=10:=by unfold pz at hn;exact of_decide_eq_true (Bool.and_eq_true_iff.1 hn).2
 have hob6:=E7 h nm true (decide_eq_true hp).symm;obtain⟨v,hv⟩:=hob6;have hF:=h.pg.lt;have hsw:=h.blk.lt;have hmw:=h.map.lt;have hw0:=(PS.now h.pg).1;refine enter [4] Tryz.func36 O O (al O) (zSR (za O (zNR (zm O (zn O O (a7 O (a8 dC O oD O O) (a7 O (aD fO O O (h.blk.c O)) (zmv O (bG (jF (k:=nm) fO (gO uU9) I25 O O O h.map) hv) ?_))))))));refine zm O (zx O (zx O (zaa O (a6 (aa (aq (zSR (zm O (zn O O (a7 O (a8 dC O I4 O O) (a7 O (aD uU4 O O (h.blk.c O)) (za O (a6 (aI (rfl) (zSR (zm O (ag O C76 (rT w nm true hn (by omega)) ?_)))))))))))))))));rintro _ w1 ⟨rfl,rfl⟩;refine a7 O (cz O) (za O (a6 (aI (rfl) (zSR (zmv O (cz O) (za O (a6 (aI (rfl) (bQ (ax (aj (zSR (zm O (zn O O (a7 O (a8 dC O oD O O) (a7 O (aD fO O O (h.blk.c O)) (ag O C77 (yP _ mr _ h.map) ?_)))))))))))))))));rintro _ w2 ⟨q,rfl,hQ2,hc2,hqw⟩;refine za O (zNR (zmm O (dO O (vc (k:=nm) fO (gO uU9) O O hQ2) ?_)));rintro w3 ⟨hQ3,hc3,hs3⟩;refine zNR (zmm O (zn O O (a7 O (a8 dC O I25 O O) ?_)));have hB2:=h.blk.chg0 hc2;have hQ3:MapAt w3 q (snV (eG (qx nm sx))):=by rw[DS];exact hQ3
 have hqF:q∉c.F:=λhh=>by have:=hF _ hh;omega
 have hqs:q≠sb:=by omega
 have hB3:=hB2.chg hc3 (by simp;omega);have hp3:c.pg w3 s:=(h.pg.chg0 hc2).chg hc3 (λx hx hh=>by simp at hh;subst hh;exact hqF hx) (λx hx=>by simp at hx;subst hx;omega);have hol:∀p∈qx nm sx,Tre s p.2.1 p.2.2:=λp hp'=>h.olds p (wJ hp');have hnm:∀p∈qx nm sx,p.1.length<=10:=λp hp'=>h.names p (wJ hp');have hle:(qx nm sx).length<=4:=by have:=Bu nm sx;have:=h.few;omega
 refine a7 O (aD bu O O (hB3.c O)) (zm O (ag O C75 ((tj c w3 s sb q _ _ _ root (eG (qx nm sx)) hp3 hB3 hQ3 (h.live.std_all hol) h.sF ⟨hqF,hqs⟩ (by unfold eG;rw[dr];omega) (λp hp'=>by obtain⟨z,hz,rfl⟩:=List.mem_map.1 hp';exact hnm z hz) hk :)) ?_));rintro _ w4 ⟨rfl,⟨c',s',hC,hcf⟩,hB4,hM4,hc4⟩;refine za O (a6 (zrf ?_));have k13:w.heap.size<=w3.heap.size:=by have:=hc2.1;omega
 have hqw3:=hQ3.lt;have hc03:Chg [] w w3:=hc2.t1 hc3 hqw;refine⟨rfl,⟨c',s',q,StoreAt.commit (w:=w3) hC hcf hB4 hM4 ⟨by omega,h.sF⟩ ⟨hqw3,hqF,hqs,by omega⟩ h.live hol hnm hle,hC.c,λx hx=>(hcf x hx).imp (λq=>q) (λq=>by omega),by rw[hC.k];omega,hqw⟩,hc03.tr0' hc4⟩
end
def FmtQ(w0:World)(b r n k:Nat)(kv:Value)(key:List UInt8)(w:World):Prop :=
 Ret Tryz.prog 55 #[.pointer (some ⟨b,0,none⟩),cy key] w λv w'=>∃(R:PR) (c:UInt64) (e:UInt32) (a:Nat) (ds:DSt),v=.tuple #[.pointer (some ⟨R.pb,0,none⟩),.int .i64 0]/\PS w0 w' b kv r R n k key ds (pgY c e a) V0/\Chg (DF b kv r) w w'/\∀x∈PF R,w.heap.size<=x
theorem EA(w0 w:World)(b r n k:Nat)(kv:Value)(key:List UInt8)(ds0:DSt)(hd:RunD w0 w b kv r ds0)(hf:∀w1,Chg [] w w1->FmtQ w0 b r n k kv key w1)(hn:4<=n/\n<=400)(hk0:k+3<=40000)(hkl:key.length=32) :
  Ret Tryz.prog 30 #[.pointer (some ⟨b,0,none⟩),cy key] w λv w'=>∃(c:TC) (s:TP) (sb mr:Nat) (id:UInt32),v=.tuple #[.pointer (some ⟨sb,0,none⟩),.int .i64 0]/\StoreAt c w' s sb mr id [] []/\c.w0=w0/\c.b=b/\c.kv=kv/\c.r=r/\c.n=n/\c.key=key/\s.k<=k+3/\Chg (DF b kv r) w w'/\w.heap.size<=sb/\w.heap.size<=mr/\∀x∈c.F,x∈DF b kv r∨w.heap.size<=x:=by
 have hDl:=hd.1.lt;have hDg:=hd.2.2;have hwz:=hd.2.1.1;refine enter [4,5] Tryz.func30 O O (al O) (zSR (cW (l:=key) O O ?_));rintro w1 kb hkn hK1 hc1 hl1;refine zaa O (zNR (zmv O (cF 32 gm O I63 O O (hK1) (hkl)) (ag O C55 ((hf w1 hc1 :)) ?_)));rintro _ w2 ⟨R,cq,eq,a,ds2,rfl,hS2,hc2,hR2⟩;refine zm O (zx O (zx O (zaa O (a6 (aa (zSR (zmv O (bV O O) (a6 (aJ O (λh=>h O) ?_)))))))));refine zKR (zm O ?_);have hroom:fQ (pgY cq eq a) n=n:=F1 (λx=>rfl);refine ag O C56 (FR ⟨w0,b,kv,r,R,n,key⟩ w2 ⟨k,ds2,pgY cq eq a,V0⟩ hS2 (by show k+1<=40000;omega)) ?_;rintro v3 w3 ⟨hr3,hc3⟩;have hge:=PS.ge hS2;have hlt2:=PS.lt hS2;rcases hr3 with⟨_,_,hno⟩|⟨id,s3,rfl,hp3,hx3,hk3,hit3⟩
 ·have hno:fQ (pgY cq eq a) n=0:=hno;omega
 ·refine zm O (zx O (zx O (zaa O (a6 (aa (zSR (zmv O (bV O O) (a6 (aJ O (λh=>h O) ?_)))))))));refine zKR (zmm O ?_);have hF3:=hp3.lt;refine aY O (nR (List UInt8)) ?_;rintro _ w4 ⟨mr,rfl,hmn,hM4,hc4,hl4⟩;refine a7 O (bW dC I143 O (zs:=[.pointer none,.int .u32 0,.map none,.bool false]) O O (bR O O O (al O) (bR O O O (al O) (bR O O O (al O) (eb (cs':=[.pointer (some ⟨R.pb,0,none⟩),.int .u32 id.toNat,.map (some mr),.bool false]) O))))) ?_;refine aY O (cZ (l:=[.pointer (some ⟨R.pb,0,none⟩),.int .u32 id.toNat,.map (some mr),.bool false]) O O) ?_;rintro _ w5 ⟨sb,rfl,hsn,hB5,hc5,hl5⟩;refine za O (a6 (aa (zSR (zmm O (zm O ?_)))));have hM5:MapAt w5 mr (snV []):=hM4.mod hc5 (by simp);refine ag O C71 (E5 w5 sb mr _ _ _ [] hB5 hM5 (by decide) (λp hp=>by simp at hp)) ?_;rintro _ w6 ⟨ml,hml,rfl,hc6⟩;have hp6:=((hp3.chg0 hc4).chg0 hc5).chg0 hc6;have hmz:(gY ml).length<=200:=by
   rw[List.perm_nil.1 hml];decide
  have hid:s3.P.now.written id=true:=(hx3.mem (by simp)).2;have hus:∀x,s3.P.now.used x=true↔x=id:=λx=>by
   rw[hx3.used];show([id].elem x||false)=true↔_;simp
  refine ag O C70 ((wL hp6 (by have:s3.k<=k+1:=hk3;omega) id (gY ml) hmz (λx hx=>by unfold Pg.fresh at hx;have:=(hus x).1 (Bool.and_eq_true_iff.1 hx).1;rw[this];exact hid) :)) ?_;rintro _ w7 ⟨rfl,⟨u,r',ku,kr,ds',hR7,hS7,hpd,_⟩,hc7⟩;refine za O (zNR (zmv O (bV O O) (a6 (aJ O (λh=>h O) ?_))));refine zKR (zma O (za O (a6 (zrf ?_))));have hc7:Chg (PF R++DF b kv r) w6 w7:=hc7;have hc36:Chg [] w3 w6:=hc4.tr (hc5.tr hc6);have hmF:mr∉PF R++DF b kv r:=λhh=>by have:=hF3 _ hh;omega
  have hsF:sb∉PF R++DF b kv r:=λhh=>by have:=hF3 _ hh;have:=hc4.1;omega
  have hge3:=hp3.ge;have k1:=hc1.1;have k2:=hc2.1;have k3:=hc3.1;have k4:=hc4.1;have k5:=hc5.1;have k6:=hc6.1;have hB7:=(hB5.chg0 hc6).chg hc7 hsF;have hM7:MapAt w7 mr (snV (eG [])):=(hM5.mod hc6 (by simp)).mod hc7 hmF;have hC:Cmt ⟨w0,b,kv,r,R,n,key⟩ { (⟨w0,b,kv,r,R,n,key⟩:TC) with R:={ R with u:=u,r:=r',ku:=ku,kr:=kr } } w7 s3 ⟨s3.k+1,ds',{ s3.P with now:=(eo s3.P id (gY ml)).st,kept:=eo s3.P id (gY ml),at_:=(s3.P.at_+1) % 2 },s3.V⟩ id (eG []):=by
   refine⟨hS7,rfl,rfl,rfl,⟨ml,hml,rfl⟩,λx=>?_,λx hx=>?_,⟨λx=>rfl,λx=>rfl,λx hx=>hp6.wu hx⟩,rfl,hpd,rfl⟩
   ·show s3.P.now.used x=true↔_;rw[hus x]
    constructor
    ·rintro rfl;exact⟨x,by simp[eG],0,[x],[],hit3,by simp⟩
    ·rintro⟨r2,hr2,d2,pg2,m2,h1,h2⟩;have hr2:r2=id:=by simpa [eG] using hr2
     subst hr2;rw[ir h1 hit3] at h2
     simpa using h2
   ·obtain⟨r2,hr2,d2,pg2,m2,h1,h2⟩:=hx;have hr2:r2=id:=by simpa [eG] using hr2
    subst hr2;rw[ir h1 hit3] at h2
    have:x=r2:=by simpa using h2
    rw[this];exact hid
  have hcf:∀x∈({ (⟨w0,b,kv,r,R,n,key⟩:TC) with R:={ R with u:=u,r:=r',ku:=ku,kr:=kr } }:TC).F,x∈(⟨w0,b,kv,r,R,n,key⟩:TC).F∨w6.heap.size<=x:=λx hx=>by
   rcases List.mem_append.1 hx with g|g
   ·rcases hR7 x g with q|q
    ·exact .inl (cL _ q)
    ·exact .inr q
   ·exact .inl (cf _ g)
  have hsb6:sb<w6.heap.size:=by omega
  have hmr6:mr<w6.heap.size:=by omega
  refine⟨_,_,sb,mr,id,rfl,StoreAt.commit (w:=w6) (m:=[]) (sx:=[]) hC hcf hB7 hM7 ⟨hsb6,hsF,by show w0.heap.size<=sb;omega⟩ ⟨hmr6,hmF,by omega,by show w0.heap.size<=mr;omega⟩ ⟨by decide,0,[id],hit3,λx hx=>by simp at hx;subst hx;exact hid,by simp⟩ (λp hp=>by simp at hp) (λp hp=>by simp at hp) (by decide),rfl,rfl,rfl,rfl,rfl,rfl,by show s3.k+1<=k+3;have:s3.k<=k+1:=hk3;omega,?_,by omega,by omega,λx hx=>?_⟩
  ·have hRn:∀x∈PF R++DF b kv r,x∈DF b kv r∨w.heap.size<=x:=λx hx=>by
    rcases List.mem_append.1 hx with g|g
    ·exact .inr (by have:=hR2 x g;omega)
    ·exact .inl g
   have m1:Chg (DF b kv r) w w2:=hc1.tr0' hc2;have m2:Chg (DF b kv r) w w3:=m1.trans hc3 (λx hx _=>hx) (λx hx hl=>by
    rcases hRn x hx with g|g
    ·exact g
    ·omega)
   exact(m2.tr0 hc36).trans hc7 (λx hx _=>hx) (λx hx hl=>by
    rcases hRn x hx with g|g
    ·exact g
    ·omega)
  ·rcases hcf x hx with g|g
   ·rcases List.mem_append.1 g with q|q
    ·exact .inr (by have:=hR2 x q;omega)
    ·exact .inl q
   ·exact .inr (by omega)
end Go.Proofs.YtpbfapbajmdlkaaGreat
