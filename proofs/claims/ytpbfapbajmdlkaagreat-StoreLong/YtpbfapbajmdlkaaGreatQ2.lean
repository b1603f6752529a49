/- Batch upon batch over the same keys: never a page more than there must be, on a small disk, too. It holds for every input; there are no conditions. -/
import Derived.Test.YtpbfapbajmdlkaaGreatQ1
import Derived.Test.YtpbfapbajmdlkaaGreatQ0
import Derived.Test.YtpbfapbajmdlkaaGreatSac1
import Derived.Test.YtpbfapbajmdlkaaGreatQFacts
namespace Go.Proofs.YtpbfapbajmdlkaaGreat
open Go Go.Sac
set_option maxRecDepth 100000
set_option maxHeartbeats 4000000
theorem He(s:Bs)(w:World):Ret Tryz.prog 151 #[str s] w fun v w'=>v=.bool (decide (m8 s))/\w=w':=by
 refine enter [2] Tryz.func151 rfl rfl (al rfl) (zSR (za rfl (zNR (zmv rfl (jc rfl uU9) ?_))));by_cases h1:1<=s.length
 ·refine a7 rfl (bJ (fH rfl rfl) (congrArg Value.bool (decide_eq_true (by omega)))) ?_;refine zm rfl (aj rfl (zm rfl (aj rfl (a7 rfl (jc rfl uU9) (aj rfl (a7 rfl (gd rfl rfl) (a7 rfl (aQ rfl) (za rfl (a8 (a6 (zrf ?_)))))))))));refine⟨congrArg Value.bool ?_,rfl⟩;rw[decide_eq_decide];unfold m8;omega
 ·refine a7 rfl (bJ (fH rfl rfl) (congrArg Value.bool (decide_eq_false (by omega)))) ?_;refine zm rfl (aD rfl rfl (aD rfl rfl (aD rfl rfl (a7 rfl (aN rfl) (za rfl (a8 (a6 (zrf ?_))))))));refine⟨congrArg Value.bool (decide_eq_false ?_).symm,rfl⟩;unfold m8;omega
theorem zu(s:Bs)(b:Bool)(h:decide (m8 s)=b)(w:World):Ret Tryz.prog 151 #[str s] w fun v w'=>v=.bool b/\w=w':=by
 subst h;exact He s w
theorem Ha{l:List Pr}{i:Nat}{a:Pr}(h:l[i]?=some a):cP (l.take (i+1))=cP (l.take i)+(a.1.length+a.2.length+4)/\cP (l.take (i+1))<=cP l:=by
 have hob1:=List.getElem?_eq_some_iff.1 h;obtain⟨hi,rfl⟩:=hob1;refine⟨qd hi,?_⟩
 have:=iX l (i+1)
 have h3:3<=cP (l.drop (i+1)):=by unfold cP;omega
 omega
theorem E6(w:World)(v:Value)(l:List Pr)(hs:Sl w v l)(hz:cP l<=100000) :
  Ret Tryz.prog 152 #[v] w fun r w'=>r=.int .i64 (cP l)/\Chg [] w w':=by
 have hll:=m7 l;have hob2:=hs.form rfl;obtain⟨p,cp,rfl⟩:=hob2;refine enter [2] Tryz.func152 rfl rfl (al rfl) (zSR (za rfl (zNR (za rfl (a8 (a6 (ae (zSR (zmv rfl (aA rfl dc) (zm rfl (a8 (a6 (aq (bf [3,6,7,8] (fun m vs w'=>∃i:Nat,vs=[.int .i64 (cP (l.take i)),.slice p l.length cp,.int .i64 l.length,.int .i64 i]/\i+m=l.length/\Chg [] w w') (l.length) ?_ ?_))))))))))))))
 ·exact⟨0,rfl,by omega,Chg.refl _⟩
 ·rintro m vs J w1 ⟨i,rfl,hi,hc1⟩;refine zSR (a7 rfl (bL rfl rfl) ?_);refine a8 (a6 (ae (az rfl (fun hlt=>?_) (fun hlt=>?_))))
  ·refine aw (a6 (ae (aq (ae (ag ?_)))));have hob3:∃q,m=q+1:=⟨m-1,by omega⟩
   obtain⟨m,rfl⟩:=hob3;have hob4:∃a,l[i]?=some a:=⟨_,bX (by omega)⟩
   obtain⟨a,ha⟩:=hob4;have hob5:=Ha ha;obtain⟨hz1,hz2⟩:=hob5;have hs1:=hs.mod0 hc1;refine bF rfl (aU (i) dc I49 rfl (hs1) rfl rfl (by first|rfl|omega) (by omega)) ?_;rintro _ ⟨bi,oi,rfl,hei,hbi⟩;refine a7 rfl (cM j1 rfl I49 rfl (hs1.at hei ha) rfl) (aY rfl (dk (l:=[str [],str []]) I49 rfl rfl) ?_);rintro _ w2 ⟨b2,rfl,hn2,hB2,hc2,hl2⟩;refine aP rfl (cF (l:=[str a.1,str a.2]) I49 rfl rfl hB2 rfl rfl (aM 2) (by simp[fD]) (cV rfl)) ?_;rintro w3 ⟨hB3,hc3,hs3⟩;refine a8 (a6 (ae (zSR (zmv rfl (dt rfl rfl) (a8 (a6 ?_))))));have hc13:=hc1.tr (hc2.t1 hc3 hn2);refine aI rfl (by omega) ?_;refine aw (a6 (ag (zmv rfl (aa j1 rfl I9 rfl rfl) ?_)));refine a7 rfl (aC uU9 rfl rfl (hB3.c rfl)) (a7 rfl (jc rfl uU9) (a7 rfl (kh rfl rfl) (a7 rfl (aa j1 rfl I9 rfl rfl) (a7 rfl (aC uU9 rfl rfl (hB3.c rfl)) (a7 rfl (jc rfl uU9) (a7 rfl (kh rfl rfl) (a7 rfl (aB rfl rfl (by omega)) (a7 rfl (aB rfl rfl (by omega)) (a7 rfl (aB rfl rfl (by omega)) (za rfl ?_))))))))));refine a8 (ay (a6 (ag (a7 rfl (aB rfl rfl (by omega)) (zm rfl ?_)))));refine a8 (a6 (aS (m) (bx (by omega) ?_)));refine⟨i+1,au (bH ?_) (au rfl (au rfl (au rfl bK))),by omega,hc13⟩;omega
  ·refine aO (an (an (aE (a6 (zSR (zmv rfl (kh rfl rfl) (za rfl ?_)))))));refine a8 (a6 (zrf ?_));have hil:i=l.length:=by omega
   subst hil;rw[cZ];exact⟨bH (by omega),hc1⟩
def LeafR(w:World)(l:List Pr)(r:Value)(w':World):Prop :=
 Chg [] w w'/\((¬fO l/\r=.tuple #[.slice none 0 0,.int .i64 90])∨(fO l/\480<cP l/\r=.tuple #[.slice none 0 0,.int .i64 11])∨(leafOk l/\∃bv,r=.tuple #[bv,.int .i64 0]/\Own w' bv (rB l)/\In bv [] w.heap.size))
theorem Ag{l:List Pr}{i:Nat}{a:Pr}(ha:l[i]?=some a)(h:fO (l.take i))(hp:nN a)(hk:∀j b,j+1=i->l[j]?=some b->ltB b.1 a.1=true):fO (l.take (i+1)):=by
 have hob6:=List.getElem?_eq_some_iff.1 ha;obtain⟨hi,rfl⟩:=hob6;rw[<-fG hi];refine⟨fun q hq=>?_,Eo h.2 (fun hl=>?_)⟩
 ·rcases List.mem_append.1 hq with hq|hq
  ·exact h.1 q hq
  ·rw[g8] at hq;subst hq;exact hp
 ·rw[bA,dR (by omega)] at hl;simp only[bA,dR (mA hi),pE];exact hk (i-1) _ (by omega) (bX (by omega))
theorem uf(w:World)(v:Value)(l:List Pr)(hs:Sl w v l)(hl:l.length<=400) :
  Ret Tryz.prog 96 #[v] w (LeafR w l):=by
 have hob7:=hs.form rfl;obtain⟨p,cp,rfl⟩:=hob7;refine enter [2,3] Tryz.func96 rfl rfl (al rfl) (zSR (zaa rfl (a8 (a6 (ae (zSR (zmv rfl (aA rfl dc) (zm rfl (a8 (a6 (aq (bf [0,9,10,11] (fun m vs w'=>∃i:Nat,vs=[.slice p l.length cp,.slice p l.length cp,.int .i64 l.length,.int .i64 i]/\i+m=l.length/\Chg [] w w'/\fO (l.take i)) (l.length) ?_ ?_))))))))))))
 ·exact⟨0,rfl,by omega,Chg.refl _,fun _ h=>by simp at h,Br⟩
 ·rintro m vs J w1 ⟨i,rfl,hi,hc1,hok⟩;refine zSR (a7 rfl (bL rfl rfl) ?_);refine a8 (a6 (ae (az rfl (fun hlt=>?_) (fun hlt=>?_))))
  ·refine aw (a6 (ae (aq (zSR (zm rfl ?_)))));have hob8:∃q,m=q+1:=⟨m-1,by omega⟩
   obtain⟨m,rfl⟩:=hob8;have hob9:∃a,l[i]?=some a:=⟨_,bX (by omega)⟩
   obtain⟨a,ha⟩:=hob9;have hmem:a∈l:=j5 ha;have hs1:=hs.mod0 hc1;refine bF rfl (aU (i) dc I49 rfl (hs1) rfl rfl (by first|rfl|omega) (by omega)) ?_;rintro _ ⟨bi,oi,rfl,hei,hbi⟩;refine a7 rfl (cM j1 rfl I49 rfl (hs1.at hei ha) rfl) (aY rfl (dk (l:=[str [],str []]) I49 rfl rfl) ?_);rintro _ w2 ⟨b2,rfl,hn2,hB2,hc2,hl2⟩;refine za rfl (aP rfl (cF (l:=[str a.1,str a.2]) I49 rfl rfl hB2 rfl rfl (aM 2) (by simp[fD]) (cV rfl)) ?_);rintro w3 ⟨hB3,hc3,hs3⟩;refine a8 (a6 (ae ?_));have hc13:=hc1.tr (hc2.t1 hc3 hn2);have hs3:=hs.mod0 hc13;by_cases hk:m8 a.1
   ·refine aG bz (.pure 0 (.read 1 (.eff 2 [] (.pure 3 (.pure 4 (.pure 5 (.read 6 (.pure 7 (.pure 8 (.pure 9 (.pure 10 (.pure 11 (.pure 12 (.pure 13 (.pure 14 (.pure 15 (.pure 16 (.pure 17 (.pure 18 (.read 19 (.pure 20 (.read 21 (.pure 22 (.pure 23 (.pure 24 .nil))))))))))))))))))))))))) (by kernel_rfl) ?_;refine yp rfl (fun _=>(aa j1 rfl I9 rfl rfl)) ?_;refine aH rfl rfl rfl uU9 rfl rfl (hB3.c rfl) (ycl rfl C151 (zu a.1 true (decide_eq_true hk) _) ?_);rintro _ _ ⟨rfl,rfl⟩;refine⟨trivial,?_⟩;refine yp rfl (fun _=>(cA rfl)) ?_;refine ym rfl (yp rfl (fun _=>(aa j1 rfl I9 rfl rfl)) ?_);refine aH rfl rfl rfl uU9 rfl rfl (hB3.c rfl) (yp rfl (fun _=>(jc rfl uU9)) ?_);by_cases hv:a.2.length<=150
    ·refine yp rfl (fun _=>bJ (dt rfl rfl) (congrArg Value.bool (decide_eq_false (by omega)))) ?_;refine yp rfl (fun _=>(aN rfl)) ?_;refine ym rfl (ym rfl ?_);by_cases hi0:i=0
     ·refine yp rfl (fun _=>bJ (dt rfl rfl) (congrArg Value.bool (decide_eq_false (by omega)))) ?_;refine ym rfl (yno rfl (yno rfl (yno rfl (yno rfl (yno rfl (cg rfl rfl rfl (yno rfl (cg rfl rfl rfl (yno rfl (yp rfl (fun _=>(aN rfl)) ?_))))))))));refine yp rfl (fun _=>(aN rfl)) ?_;refine aJ (a6 (aK (rfl) (aw (ay (a6 (ag (a7 rfl (aB rfl rfl (by omega)) (zm rfl ?_))))))));refine a8 (a6 (aS (m) (bx (by omega) ?_)));exact⟨i+1,rfl,by omega,hc13.tr (drw _),Ag ha hok ⟨hk,hv⟩ (fun j b hj=>by omega)⟩
     ·refine yp rfl (fun _=>bJ (dt rfl rfl) (congrArg Value.bool (decide_eq_true (by omega)))) ?_;refine ym rfl (ym rfl (ym rfl (yp rfl (fun _=>(bg rfl rfl (by omega))) ?_)));have hob10:∃c,l[i-1]?=some c:=⟨_,bX (by omega)⟩
      obtain⟨c,hc⟩:=hob10;refine yex rfl (aU (i-1) dc I49 rfl (hs3) rfl rfl (by first|rfl|omega) (by omega)) ?_;rintro _ ⟨bj,oj,rfl,hej,hbj⟩;refine yp rfl (fun _=>(aa j1 rfl I9 rfl rfl)) ?_;refine aH rfl rfl rfl uU9 rfl rfl (((hs3.at hej hc).c0 rfl:_=some (str c.1))) ?_;refine yp rfl (fun _=>(aa j1 rfl I9 rfl rfl)) ?_;refine aH rfl rfl rfl uU9 rfl rfl (hB3.c rfl) (yp rfl (fun _=>(uF rfl rfl)) ?_);refine yp rfl (fun _=>(aQ rfl)) ?_;refine yp rfl (fun _=>(aN rfl)) ?_;refine aJ (a6 (bU rfl (fun hlb=>?_) (fun hlb=>?_)))
      ·refine zSR (zaa rfl (a8 (a6 (bC (aZ (aR (aR (aZ (aR (dj ?_))))))))));refine⟨hc13.tr (drw _),.inl ⟨fun h=>?_,rfl⟩⟩;have hob11:=List.getElem?_eq_some_iff.1 hc;obtain⟨q1,q2⟩:=hob11;have hob12:=List.getElem?_eq_some_iff.1 ha;obtain⟨q3,q4⟩:=hob12
       have:=List.pairwise_iff_getElem.1 h.2 (i-1) i q1 q3 (by omega)
       rw[q2,q4] at this;rw[this] at hlb;cases hlb
      ·refine aw (ay (a6 (ag (a7 rfl (aB rfl rfl (by omega)) (zm rfl ?_)))));refine a8 (a6 (aS (m) (bx (by omega) ?_)));refine⟨i+1,rfl,by omega,hc13.tr (drw _),Ag ha hok ⟨hk,hv⟩ (fun j b hj hb=>?_)⟩
       have:j=i-1:=by omega
       subst this;rw[hc] at hb;cases hb
       simpa using hlb
    ·refine yp rfl (fun _=>bJ (dt rfl rfl) (congrArg Value.bool (decide_eq_true (by omega)))) ?_;refine yp rfl (fun _=>(aN rfl)) ?_;refine ym rfl (yno rfl (yno rfl (yno rfl (yno rfl (yno rfl (yno rfl (yno rfl (yno rfl (cg rfl rfl rfl (yno rfl (cg rfl rfl rfl (yno rfl (yno rfl (yp rfl (fun _=>(aQ rfl)) ?_))))))))))))));refine aJ (a6 (bh (rfl) (zSR (zaa rfl (a8 (a6 (bC (aZ (aR (aR (aZ (aR (dj ?_)))))))))))));exact⟨hc13.tr (drw _),.inl ⟨fun h=>hv (h.1 a hmem).2,rfl⟩⟩
   ·refine aG bz (.pure 0 (.read 1 (.eff 2 [] (.pure 3 (.pure 4 (.pure 5 (.read 6 (.pure 7 (.pure 8 (.pure 9 (.pure 10 (.pure 11 (.pure 12 (.pure 13 (.pure 14 (.pure 15 (.pure 16 (.pure 17 (.pure 18 (.read 19 (.pure 20 (.read 21 (.pure 22 (.pure 23 (.pure 24 .nil))))))))))))))))))))))))) (by kernel_rfl) ?_;refine yp rfl (fun _=>(aa j1 rfl I9 rfl rfl)) ?_;refine aH rfl rfl rfl uU9 rfl rfl (hB3.c rfl) (ycl rfl C151 (zu a.1 false (decide_eq_false hk) _) ?_);rintro _ _ ⟨rfl,rfl⟩;refine⟨trivial,?_⟩;refine yp rfl (fun _=>(cA rfl)) ?_;refine ym rfl (yno rfl (cg rfl rfl rfl (yno rfl (yno rfl (yp rfl (fun _=>(aQ rfl)) ?_)))));refine ym rfl (yno rfl (yno rfl (yno rfl (yno rfl (yno rfl (yno rfl (yno rfl (yno rfl (cg rfl rfl rfl (yno rfl (cg rfl rfl rfl (yno rfl (yno rfl (yp rfl (fun _=>(aQ rfl)) ?_))))))))))))));refine aJ (a6 (bh (rfl) (zSR (zaa rfl (a8 (a6 (bC (aZ (aR (aR (aZ (aR (dj ?_)))))))))))));exact⟨hc13.tr (drw _),.inl ⟨fun h=>hk (h.1 a hmem).1,rfl⟩⟩
  ·refine aO (an (an (aE (a6 (ae (zSR (zm rfl ?_)))))));have hil:i=l.length:=by omega
   subst hil;rw[cZ] at hok;have hz1:=(rA l hok.1).1;refine ah rfl C152 (E6 w1 _ l (hs.mod0 hc1) (by omega)) ?_;rintro _ w2 ⟨rfl,hc2⟩;refine a7 rfl (dt rfl rfl) (a8 (a6 ?_));have hc12:=hc1.tr hc2;refine az rfl (fun hz=>?_) (fun hz=>?_)
   ·refine zSR (zaa rfl (a8 (a6 (zrt ?_))));exact⟨hc12,.inr (.inl ⟨hok,by omega,rfl⟩)⟩
   ·refine zKR (aY rfl (oW [.int .u8 1] [(1:UInt8)] aW I5 rfl rfl rfl rfl rfl rfl (by decide) (by decide)) ?_);rintro _ w3 ⟨⟨b3,o3,c3,rfl⟩,ho3,hc3,hi3⟩;refine zmv rfl (aA rfl dc) (a7 rfl (cX rfl uU3 eo) ?_);have hu:(dh ((l.length:Nat):Int)).toNat=l.length:=by rw[dN,ea];omega
    refine ah rfl nw (gM _ _ (dh ((l.length:Nat):Int)) 2 w3 ho3 (by decide) (by decide)) ?_;rintro v4 w4 ⟨ho4,hc4,hi4⟩;refine za rfl (a8 (a6 (ae (zSR (zmv rfl (aA rfl dc) (zm rfl (a8 (a6 (aq ?_)))))))));rw[hu] at ho4;have hc14:Chg [] w w4:=(hc12.tr hc3).t0 hc4 (fun x hx=>by have:=hi3.ge x hx;have:=hc12.1;omega);have hi4':In v4 [] w.heap.size:=hi4.mono (fun x hx=>.inr (by have:=hi3.ge x hx;have:=hc12.1;omega)) (by have:=hc12.1;have:=hc3.1;omega);have hle:leafOk l:=⟨hok,by omega⟩
    refine bf [6,50,51,52] (fun m vs w'=>∃(i:Nat) (bv:Value),vs=[bv,.slice p l.length cp,.int .i64 l.length,.int .i64 i]/\i+m=l.length/\Chg [] w w'/\Own w' bv ((1:UInt8)::(be 2 l.length++(l.take i).flatMap prB))/\In bv [] w.heap.size) (l.length) ?_ ?_
    ·exact⟨0,v4,rfl,by omega,hc14,by simpa using ho4,hi4'⟩
    ·rintro m vs J w5 ⟨i,bv,rfl,hi,hc5,ho5,hi5⟩;refine zSR (a7 rfl (bL rfl rfl) ?_);refine a8 (a6 (ae ?_));have hs5:=hs.mod0 hc5;refine az rfl (fun hlt=>?_) (fun hlt=>?_)
     ·refine aw (a6 (ae (aq (ae (ag ?_)))));have hob13:∃q,m=q+1:=⟨m-1,by omega⟩
      obtain⟨m,rfl⟩:=hob13;have hob14:∃a,l[i]?=some a:=⟨_,bX (by omega)⟩
      obtain⟨a,ha⟩:=hob14;have hpa:=hok.1 a (j5 ha);refine bF rfl (aU (i) dc I49 rfl (hs5) rfl rfl (by first|rfl|omega) (by omega)) ?_;rintro _ ⟨bi,oi,rfl,hei,hbi⟩;refine a7 rfl (cM j1 rfl I49 rfl (hs5.at hei ha) rfl) (aY rfl (dk (l:=[str [],str []]) I49 rfl rfl) ?_);rintro _ w6 ⟨b6,rfl,hn6,hB6,hc6,hl6⟩;refine aP rfl (cF (l:=[str a.1,str a.2]) I49 rfl rfl hB6 rfl rfl (aM 2) (by simp[fD]) (cV rfl)) ?_;rintro w7 ⟨hB7,hc7,hs7⟩;refine a8 (a6 ?_);have hc57:=hc6.t1 hc7 hn6;have ho7:=ho5.mod0 hc57;have hb7:b6∉ax bv:=fun h=>by have:=ho5.sl.lt b6 h;omega
      have hlen:((1:UInt8)::(be 2 l.length++(l.take i).flatMap prB)).length<=480:=by
       have h1:=iX l i;have h2:=mS (l.take i);have h3:3<=cP (l.drop i):=by unfold cP;omega
       unfold rB at h2;rw[bY,aF,aL] at h2 ⊢;omega
      refine aG bz (.pure 0 (.pure 1 (.read 2 (.pure 4 (.read 5 (.eff 3 [5] (.eff 6 [] (.pure 7 .nil)))))))) (by kernel_rfl) ?_;refine ym rfl (yp rfl (fun _=>(aa j1 rfl I9 rfl rfl)) ?_);refine aH rfl rfl rfl uU9 rfl rfl (hB7.c rfl) (yp rfl (fun _=>(aa j1 rfl I9 rfl rfl)) ?_);refine aH rfl rfl rfl uU9 rfl rfl (hB7.c rfl) (ycl rfl HX (rR _ bv _ a.1 ho7 (by omega) (by omega)) ?_);rintro v8 w8 ⟨ho8,hc8,hi8⟩;have hc8:Chg (ax bv) w7 w8:=hc8;have hi8:In v8 (ax bv) w7.heap.size:=hi8;have hB8:=hB7.chg hc8 hb7;refine⟨⟨hB8.c rfl,trivial⟩,?_⟩;refine ycl rfl HX (rR _ v8 _ a.2 ho8 (by rw[aF,aF,aL];omega) (by omega)) ?_;rintro v9 w9 ⟨ho9,hc9,hi9⟩;refine⟨trivial,?_⟩;refine ya rfl (aJ (ay (a6 (ag (a7 rfl (aB rfl rfl (by omega)) (zm rfl ?_))))));refine a8 (a6 ?_);have k57:=hc57.1;have k5:=hc5.1;have k8:=hc8.1;have hin8:∀x∈ax v8,w.heap.size<=x:=fun x hx=>(hi8 x hx).elim (fun h=>hi5.ge x h) (fun h=>by omega);have hc59:Chg [] w w9:=((hc5.tr hc57).t0 hc8 (fun x hx=>hi5.ge x hx)).t0 hc9 hin8;refine aS (m) (bx (by omega) ?_);refine⟨i+1,v9,rfl,by omega,hc59,?_,fun x hx=>.inr ((hi9 x hx).elim (hin8 x) (fun h=>by omega))⟩;have hob15:=List.getElem?_eq_some_iff.1 ha;obtain⟨hil,rfl⟩:=hob15;rw[<-fG hil,nA]
      simpa [prB,txt] using ho9
     ·refine aO (an (an (aE (a6 (zSR (zma rfl (za rfl (a8 (a6 (zrf ?_))))))))));have hil:i=l.length:=by omega
      subst hil;rw[cZ] at ho5;exact⟨hc5,.inr (.inr ⟨hle,bv,rfl,ho5,hi5⟩)⟩
theorem qf(ks:List Bs)(i:Nat):db (ks.take i)<=db ks:=by have:=jy ks i;omega
theorem yh(w:World)(kv iv:Value)(ks:List Bs)(ids:List UInt32)(hs:Sl w kv ks)(hv:Sl w iv ids)(h:brOk ks ids) :
  Ret Tryz.prog 164 #[kv,iv] w fun r w'=>∃bv,r=.tuple #[bv,.int .i64 0]/\Own w' bv (brB ks ids)/\In bv [] w.heap.size/\Chg [] w w':=by
 obtain⟨hfk,hfi⟩:=h.few;obtain⟨hne,hlen,hok,hz⟩:=h;have hpos:0<ks.length:=List.length_pos_iff.2 hne;obtain⟨p,cp,rfl⟩:=hs.form rfl;obtain⟨pi,ci,rfl⟩:=hv.form rfl;unfold brZ at hz;refine enter [4,5] Tryz.func164 rfl rfl (al rfl) (zSR (zaa rfl (a8 (a6 (ae (zSR (zmv rfl (aA rfl cL) (a7 rfl (bJ (dB rfl rfl) (congrArg Value.bool (decide_eq_false (fun h=>by omega)))) ?_))))))));refine zm rfl (aj rfl (zm rfl (aj rfl (a7 rfl (aA rfl aX) (aj rfl (a7 rfl (bg rfl rfl (by omega)) (aj rfl (zm rfl (aj rfl (a7 rfl (aA rfl cL) (aj rfl (a7 rfl (bS rfl rfl) (a7 rfl (aN rfl) ?_)))))))))))));refine a8 (a6 (aK (congrArg Value.bool (decide_eq_false (fun h=>h (by omega)))) ?_));refine zKR (za rfl (a8 (a6 (ae (zSR (zmv rfl (aA rfl cL) (zm rfl ?_)))))));refine a8 (a6 (aq (bf [0,1,6,27,28,29] (fun m vs w'=>∃i:Nat,vs=[.slice p ks.length cp,.slice pi ids.length ci,.int .i64 (7+db (ks.take i)+4*i:Nat),.slice p ks.length cp,.int .i64 ks.length,.int .i64 i]/\i+m=ks.length/\Chg [] w w') (ks.length) ?_ ?_)))
 ·exact⟨0,rfl,by omega,Chg.refl _⟩
 ·rintro m vs J w1 ⟨i,rfl,hi,hc1⟩;refine zSR (a7 rfl (bL rfl rfl) ?_);refine a8 (a6 (ae (az rfl (fun hlt=>?_) (fun hlt=>?_))))
  ·refine aw (a6 (ae (aq (zSR (zm rfl ?_)))));have hob1:∃q,m=q+1:=⟨m-1,by omega⟩
   obtain⟨m,rfl⟩:=hob1;have hob2:∃a,ks[i]?=some a:=⟨_,bX (by omega)⟩
   obtain⟨a,ha⟩:=hob2;have hka:=hok.1 a (j5 ha);have hs1:=hs.mod0 hc1;have hup:db (ks.take (i+1))=db (ks.take i)+(a.length+2):=by
    have hob3:=List.getElem?_eq_some_iff.1 ha;obtain⟨q,rfl⟩:=hob3;exact ld q
   have hpt:=qf ks (i+1);refine bF rfl (aU (i) cL I9 rfl (hs1) rfl rfl (by first|rfl|omega) (by omega)) ?_;rintro _ ⟨bi,oi,rfl,hei,hbi⟩;refine a7 rfl (aC uU9 rfl rfl (((hs1.at hei ha).c0 rfl:_=some (str a)))) ?_;refine zaa rfl (a8 (a6 (ae (zSR (zm rfl (ah rfl C151 (zu a true (decide_eq_true hka) _) ?_))))));rintro _ _ ⟨rfl,rfl⟩;refine a7 rfl (cA rfl) (zm rfl (aj rfl (zm rfl (aj rfl ?_))));by_cases hi0:i=0
   ·refine a7 rfl (bJ (dt rfl rfl) (congrArg Value.bool (decide_eq_false (by omega)))) ?_;refine aj rfl (zm rfl (aD rfl rfl (aD rfl rfl (aD rfl rfl (aD rfl rfl (aD rfl rfl (aD rfl rfl (aD rfl rfl (aj rfl (a7 rfl (aN rfl) (a7 rfl (aN rfl) (a8 (a6 (aK (rfl) (aw (a6 (ag (zmm rfl (a7 rfl (jc rfl uU9) (a7 rfl (aB rfl rfl (by omega)) (a7 rfl (aB rfl rfl (by omega)) (a7 rfl (aB rfl rfl (by omega)) (a7 rfl (kh rfl rfl) (za rfl ?_))))))))))))))))))))))));refine a8 (ay (a6 (ag (a7 rfl (aB rfl rfl (by omega)) (zm rfl ?_)))));refine a8 (a6 (aS (m) (bx (by omega) ?_)));refine⟨i+1,au rfl (au rfl (au (bH ?_) (au rfl (au rfl (au rfl bK))))),by omega,hc1⟩;rw[hup];omega
   ·refine a7 rfl (bJ (dt rfl rfl) (congrArg Value.bool (decide_eq_true (by omega)))) ?_;refine aj rfl (zm rfl (aj rfl (zm rfl (aj rfl (zm rfl (aj rfl (a7 rfl (bg rfl rfl (by omega)) (aj rfl ?_))))))));have hob4:∃c,ks[i-1]?=some c:=⟨_,bX (by omega)⟩
    obtain⟨c,hc⟩:=hob4;have hca:ltB c a=true:=by
     have hob5:=List.getElem?_eq_some_iff.1 hc;obtain⟨q1,q2⟩:=hob5;have hob6:=List.getElem?_eq_some_iff.1 ha;obtain⟨q3,q4⟩:=hob6
     have:=List.pairwise_iff_getElem.1 hok.2 (i-1) i q1 q3 (by omega)
     rw[q2,q4] at this;exact this
    refine bF rfl (aU (i-1) cL I9 rfl (hs1) rfl rfl (by first|rfl|omega) (by omega)) ?_;rintro _ ⟨bj,oj,rfl,hej,hbj⟩;refine aj rfl (a7 rfl (aC uU9 rfl rfl (((hs1.at hej hc).c0 rfl:_=some (str c)))) ?_);refine aj rfl (zm rfl (aj rfl (a7 rfl (uF rfl rfl) (aj rfl (a7 rfl (aQ rfl) (a7 rfl (aN rfl) (a8 (a6 (aK (congrArg Value.bool (by rw[hca];rfl)) ?_)))))))));refine aw (a6 (ag (zmm rfl (a7 rfl (jc rfl uU9) (a7 rfl (aB rfl rfl (by omega)) (a7 rfl (aB rfl rfl (by omega)) (a7 rfl (aB rfl rfl (by omega)) (a7 rfl (kh rfl rfl) (za rfl ?_)))))))));refine a8 (ay (a6 (ag (a7 rfl (aB rfl rfl (by omega)) (zm rfl ?_)))));refine a8 (a6 (aS (m) (bx (by omega) ?_)));refine⟨i+1,au rfl (au rfl (au (bH ?_) (au rfl (au rfl (au rfl bK))))),by omega,hc1⟩;rw[hup];omega
  ·refine aO (an (an (aE (a6 (ae (zSR (zmv rfl (dt rfl rfl) ?_)))))));refine a8 (a6 ?_);have hil:i=ks.length:=by omega
   subst hil;rw[cZ];refine aI rfl (by omega) ?_;refine zKR (aY rfl (oW [.int .u8 2] [(2:UInt8)] aW I5 rfl rfl rfl rfl rfl rfl (by decide) (by decide)) ?_);rintro _ w3 ⟨⟨b3,o3,c3,rfl⟩,ho3,hc3,hi3⟩;refine zmv rfl (aA rfl cL) (a7 rfl (cX rfl uU3 eo) ?_);have hu:(dh ((ks.length:Nat):Int)).toNat=ks.length:=by rw[dN,ea];omega
   refine ah rfl nw (gM _ _ (dh ((ks.length:Nat):Int)) 2 w3 ho3 (by decide) (by decide)) ?_;rintro v4 w4 ⟨ho4,hc4,hi4⟩;refine za rfl (a8 (a6 (ae (zSR (zmv rfl (aA rfl cL) (zm rfl (a8 (a6 (aq ?_)))))))));rw[hu] at ho4;have hc14:Chg [] w w4:=(hc1.tr hc3).t0 hc4 (fun x hx=>by have:=hi3.ge x hx;have:=hc1.1;omega);have hi4':In v4 [] w.heap.size:=hi4.mono (fun x hx=>.inr (by have:=hi3.ge x hx;have:=hc1.1;omega)) (by have:=hc1.1;have:=hc3.1;omega);refine bf [1,9,65,66,67] (fun m vs w'=>∃(i:Nat) (X:Bs) (bv:Value),vs=[.slice pi ids.length ci,bv,.slice p ks.length cp,.int .i64 ks.length,.int .i64 i]/\i+m=ks.length/\Chg [] w w'/\X=(2:UInt8)::(be 2 ks.length++(ks.take i).flatMap txt)/\Own w' bv X/\In bv [] w.heap.size) (ks.length) ?_ ?_
   ·exact⟨0,_,v4,rfl,by omega,hc14,rfl,by simpa using ho4,hi4'⟩
   ·rintro m vs J w5 ⟨i,X,bv,rfl,hi,hc5,hX,ho5,hi5⟩;refine zSR (a7 rfl (bL rfl rfl) ?_);refine a8 (a6 (ae ?_));have hob7:=ho5.sl.form rfl;obtain⟨pb,cb,rfl⟩:=hob7;have hs5:=hs.mod0 hc5;have hfl:=iZ txt _ gV (ks.take i);have hpt:((ks.take i).map fun k=>k.length+2).sum<=db ks:=qf ks i;refine az rfl (fun hlt=>?_) (fun hlt=>?_)
    ·refine aw (a6 (ae (aq (ae (ag ?_)))));have hob8:∃q,m=q+1:=⟨m-1,by omega⟩
     obtain⟨m,rfl⟩:=hob8;have hob9:∃a,ks[i]?=some a:=⟨_,bX (by omega)⟩
     obtain⟨a,ha⟩:=hob9;have hka:=hok.1 a (j5 ha);refine bF rfl (aU (i) cL I9 rfl (hs5) rfl rfl (by first|rfl|omega) (by omega)) ?_;rintro _ ⟨bi,oi,rfl,hei,hbi⟩;refine a7 rfl (aC uU9 rfl rfl (((hs5.at hei ha).c0 rfl:_=some (str a)))) ?_;refine za rfl (a8 (a6 (ag (zmm rfl (ah rfl HX (rR _ _ _ a ho5 (by rw[hX,bY,aF,aL];omega) (by omega)) ?_)))));rintro v8 w8 ⟨ho8,hc8,hi8⟩;refine za rfl (a8 (ay (a6 (ag (a7 rfl (aB rfl rfl (by omega)) (zm rfl ?_))))));refine a8 (a6 ?_);have k5:=hc5.1;have hin8:∀x∈ax v8,w.heap.size<=x:=fun x hx=>(hi8 x hx).elim (fun h=>hi5.ge x h) (fun h=>by omega);refine aS (m) (bx (by omega) ?_);refine⟨i+1,_,v8,rfl,by omega,hc5.t0 hc8 (fun x hx=>hi5.ge x hx),rfl,?_,fun x hx=>.inr (hin8 x hx)⟩;rw[hX] at ho8;have hob10:=List.getElem?_eq_some_iff.1 ha;obtain⟨hil,rfl⟩:=hob10;rw[<-fG hil,nA]
     simpa [txt] using ho8
    ·refine aO (an (an (aE (a6 (zSR (zmv rfl (aA rfl aW) (za rfl ?_)))))));refine zNR (zmm rfl (a7 rfl (aA rfl aX) (a7 rfl (ek rfl rfl (by omega)) ?_)));have hil:i=ks.length:=by omega
     subst hil;rw[cZ] at hX hfl;have hXl:X.length=3+db ks:=by rw[hX,bY,aF,aL,hfl];unfold db;omega
     refine aY rfl (G0 (4*ids.length) aW uU3 I5 rfl rfl (by decide) (ho5) rfl rfl (by first|rfl|omega) (by omega)) ?_;rintro v9 w9 h9;refine za rfl (a8 (a6 (ae (zSR (zmv rfl (aA rfl aX) (zm rfl (a8 (a6 (aq ?_)))))))));have hob11:=h9.step hc5 hi5;obtain⟨ho9,hc9,hi9⟩:=hob11;refine bf [9,12,82,83,84] (fun m vs w'=>∃(i:Nat),vs=[v9,.int .i64 X.length,.slice pi ids.length ci,.int .i64 ids.length,.int .i64 i]/\i+m=ids.length/\Chg [] w w'/\Own w' v9 (X++(kD (ids.take i)++List.replicate (4*m) 0))) (ids.length) ?_ ?_
     ·exact⟨0,rfl,by omega,hc9,by simpa [kD] using ho9⟩
     ·rintro m vs J w10 ⟨i,rfl,hi,hc10,ho10⟩;refine zSR (a7 rfl (bL rfl rfl) ?_);refine a8 (a6 (ae ?_));have hv10:=hv.mod0 hc10;refine az rfl (fun hlt=>?_) (fun hlt=>?_)
      ·refine aw (a6 (ae (aq (zSR (zm rfl ?_)))));have hob12:∃q,m=q+1:=⟨m-1,by omega⟩
       obtain⟨m,rfl⟩:=hob12;have hob13:∃a,ids[i]?=some a:=⟨_,bX (by omega)⟩
       obtain⟨a,ha⟩:=hob13;have hil:=fo (ids.take i);rw[bA,dR (by omega)] at hil;have hpl:(fL a).length=4:=rfl;refine bF rfl (aU (i) aX I25 rfl (hv10) rfl rfl (by first|rfl|omega) (by omega)) ?_;rintro _ ⟨bi,oi,rfl,hei,hbi⟩;refine a7 rfl (aC bw rfl rfl (((hv10.at hei ha).c0 rfl:_=some (Value.int .u32 a.toNat)))) ?_;refine zaa rfl (zNR (zm rfl (ah rfl C207 (ye a _) ?_)));rintro _ w11 ⟨rfl,hc11⟩;refine aT (List.replicate 4 (0:UInt8)) lk rfl rfl rfl ?_;rintro w12 b12 hn12 ha12 hc12 hl12;refine aP rfl (bE 4 lk rfl (ha12) rfl rfl (rfl) (rfl)) ?_;rintro w13 ⟨ha13,hc13,hs13⟩;refine a8 (a6 ?_);have hc1013:=(hc11.tr hc12).t1 hc13 (by have:=hc11.1;omega);have ho13:=ho10.mod0 hc1013;have hlt13:=ho10.sl.lt;have k11:=hc11.1;refine aG bz (.pure 0 (.pure 1 (.pure 2 (.pure 3 (.pure 4 (.pure 5 (.pure 6 (.eff 7 [] .nil)))))))) (by kernel_rfl) ?_;refine ym rfl (ym rfl (ym rfl (yp rfl (fun _=>(ek rfl rfl (by omega))) ?_)));refine yp rfl (fun _=>(aB rfl rfl (by omega))) ?_;refine yex rfl (gO (X.length+4*i) aW I5 rfl ho13 rfl rfl (by omega) (by rw[aF,aF,cH];omega)) ?_;rintro v14 hsub14;refine yp rfl (fun _=>cB jn I5 rfl) ?_;refine bZ rfl rfl rfl (dM aW I5 rfl ho13 hsub14 (by rw[aF,aF,cH];omega) (((ha13.chg0 (drw _)).sl (n:=4) (c:=4) hpl (aM _)).src) rfl rfl) ?_;rintro w15 ⟨ho15,hc15,hs15⟩;refine⟨trivial,?_⟩;refine aJ (ay (a6 (ag (a7 rfl (aB rfl rfl (by omega)) (zm rfl ?_)))));refine a8 (a6 ?_);have hc15:Chg (ax v9) w13 w15:=hc15;refine aS (m) (bx (by omega) ?_);refine⟨i+1,rfl,by omega,(hc10.tr hc1013).t0 hc15 (fun x hx=>hi9.ge x hx),?_⟩;rw[hpl,show(min 4 ((X++(kD (ids.take i)++List.replicate (4*(m+1)) (0:UInt8))).length-(X.length+4*i)))=4 by rw[aF,aF,cH];omega,bW (l:=fL a) (by omega),<-bO,kn (a:=X++kD (ids.take i)) (j:=4) (by rw[aF];omega) hpl.symm,j6,EA,show 4*(m+1)-4=4*m by omega] at ho15;have hob14:=List.getElem?_eq_some_iff.1 ha;obtain⟨hil2,rfl⟩:=hob14;rw[<-fG hil2];unfold kD at ho15 ⊢;rw[nA]
       simpa using ho15
      ·refine aO (an (an (aE (a6 (zSR (zma rfl (za rfl (a8 (a6 (zrf ?_))))))))));have hil:i=ids.length:=by omega
       have hm0:m=0:=by omega
       subst hil hm0;rw[cZ,hX] at ho10;refine⟨v9,rfl,?_,hi9,hc10⟩;unfold brB
       simpa using ho10
def cnL(c:Cn):Bool:=match c with
 | .leaf _ => true
 | .br _ _ => false
theorem E8(w:World)(bv:Value)(c:Cn)(hs:Sl w bv (cnB c)) :
  Ret Tryz.prog 103 #[bv] w fun v w'=>v=.int .i64 (if cnL c then 1 else 2)/\w=w':=by
 have hob15:=hs.form rfl;obtain⟨p,cp,rfl⟩:=hob15;refine enter [2] Tryz.func103 rfl rfl (al rfl) (zSR (za rfl (a8 (a6 (ae (zSR (zmv rfl (aA rfl aW) ?_)))))));cases c with
 | leaf ps =>
  have h0:(cnB (.leaf ps))[0]?=some 1:=rfl;have hu1:(1:UInt8).toNat=1:=rfl;have hl:0<(cnB (.leaf ps)).length:=by rw[mX];show 0<cP ps;unfold cP;omega
  skip
  refine a7 rfl (bJ (dt rfl rfl) (congrArg Value.bool (decide_eq_true (by omega)))) ?_;refine zm rfl (aj rfl (zm rfl (aj rfl (bF rfl (aU (0) aW I5 rfl (hs) rfl rfl (by first|rfl|omega) (hl)) ?_))));rintro _ ⟨bi,oi,rfl,hei,hbi⟩;refine aj rfl (a7 rfl (aC uU5 rfl rfl (((hs.at hei h0).c0 rfl:_=some (Value.int .u8 (1:UInt8).toNat)))) ?_);refine aj rfl (a7 rfl (bJ (qD (b:=1) rfl rfl) (congrArg Value.bool (decide_eq_true (rfl)))) ?_);refine aj rfl (zm rfl (aD rfl rfl (aD rfl rfl (aD rfl rfl (aD rfl rfl (aj rfl (a7 rfl (aQ rfl) (a7 rfl (aQ rfl) (a8 (a6 (bh (rfl) (zSR (zm rfl (bF rfl (aU (0) aW I5 rfl (hs) rfl rfl (by first|rfl|omega) (hl)) ?_))))))))))))));rintro _ ⟨bj,oj,rfl,hej,hbj⟩;refine a7 rfl (aC uU5 rfl rfl (((hs.at hej h0).c0 rfl:_=some (Value.int .u8 (1:UInt8).toNat)))) ?_;refine a7 rfl (fz rfl uU5 uU3 (by omega)) (za rfl ?_);refine a8 (a6 (zrt ?_));exact⟨rfl,rfl⟩
 | br ks ids =>
  have h0:(cnB (.br ks ids))[0]?=some 2:=rfl;have hu2:(2:UInt8).toNat=2:=rfl;have hl:0<(cnB (.br ks ids)).length:=by rw[mX];show 0<brZ ks ids;unfold brZ;omega
  skip
  refine a7 rfl (bJ (dt rfl rfl) (congrArg Value.bool (decide_eq_true (by omega)))) ?_;refine zm rfl (aj rfl (zm rfl (aj rfl (bF rfl (aU (0) aW I5 rfl (hs) rfl rfl (by first|rfl|omega) (hl)) ?_))));rintro _ ⟨bi,oi,rfl,hei,hbi⟩;refine aj rfl (a7 rfl (aC uU5 rfl rfl (((hs.at hei h0).c0 rfl:_=some (Value.int .u8 (2:UInt8).toNat)))) ?_);refine aj rfl (a7 rfl (bJ (qD (b:=1) rfl rfl) (congrArg Value.bool (decide_eq_false (by decide)))) ?_);refine aj rfl (zm rfl (aj rfl (zm rfl (aj rfl (bF rfl (aU (0) aW I5 rfl (hs) rfl rfl (by first|rfl|omega) (hl)) ?_)))));rintro _ ⟨bk,ok,rfl,hek,hbk⟩;refine aj rfl (a7 rfl (aC uU5 rfl rfl (((hs.at hek h0).c0 rfl:_=some (Value.int .u8 (2:UInt8).toNat)))) ?_);refine aj rfl (a7 rfl (qD (b:=2) rfl rfl) (aj rfl (a7 rfl (aN rfl) (a7 rfl (aQ rfl) ?_))));refine a8 (a6 (bh (rfl) (zSR (zm rfl (bF rfl (aU (0) aW I5 rfl (hs) rfl rfl (by first|rfl|omega) (hl)) ?_)))));rintro _ ⟨bj,oj,rfl,hej,hbj⟩;refine a7 rfl (aC uU5 rfl rfl (((hs.at hej h0).c0 rfl:_=some (Value.int .u8 (2:UInt8).toNat)))) ?_;refine a7 rfl (fz rfl uU5 uU3 (by omega)) (za rfl ?_);refine a8 (a6 (zrt ?_));exact⟨rfl,rfl⟩
def RdAt(w:World)(rb:Nat)(bv:Value)(l:Bs):Prop:=Blk w rb [bv,.bool false]/\Sl w bv l/\rb∉ax bv
theorem GX(w:World)(rb:Nat)(bv:Value)(l:Bs)(k:Nat)(hk:k<=4)(h:RdAt w rb bv l)(hl:k<=l.length/\l.length<=1000000) :
  Ret Tryz.prog 163 #[.pointer (some ⟨rb,0,none⟩),.int .i64 k] w fun v w'=>v=.int .i64 (dw (l.take k))/\(∃bv',RdAt w' rb bv' (l.drop k)/\ax bv'=ax bv)/\Chg [rb] w w':=by
 obtain⟨hB,hs,hap⟩:=h;refine enter [4] Tryz.func163 rfl rfl (al rfl) (zSR (za rfl (zNR (zm rfl (zn rfl rfl (a7 rfl (aa kV rfl I45 rfl rfl) (a7 rfl (aC aW rfl rfl (hB.c rfl)) (zm rfl (ah rfl C83 (jl bv l k w hs (by omega) (by omega)) ?_)))))))));rintro v1 w1 ⟨hv1,hh1⟩;unfold nV at hv1;rw[if_neg (by omega)] at hv1;obtain⟨r,rfl,hsr,hbr⟩:=hv1;have hob16:∃nn:UInt64,nn=UInt64.ofNat (dw (l.take k)):=⟨_,rfl⟩
 obtain⟨nn,hnn⟩:=hob16;have hlt:=oH (l.take k);rw[bA,dR hl.1] at hlt;have h4:256 ^ k<=256 ^ 4:=mz (by decide) hk;have hnt:nn.toNat=dw (l.take k):=by rw[hnn,ea];omega
 rw[<-hnn];have hob17:=hsr.form rfl;obtain⟨pr,cr,hrf⟩:=hob17;subst hrf;have hB1:=hB.heap hh1;refine zm rfl (zx rfl (zx rfl (zx rfl (zaa rfl (za rfl (zNR (zmm rfl (zmm rfl (zn rfl rfl (a7 rfl (aa kV rfl I4 rfl rfl) (a7 rfl (aC uU4 rfl rfl (hB1.c rfl)) (zm rfl (aj rfl (zm rfl (aj rfl (a7 rfl (bS rfl rfl) (a7 rfl (aN rfl) (zn rfl rfl (a7 rfl (aa kV rfl I45 rfl rfl) (aP rfl (bG I45 rfl rfl (hB1) rfl rfl ((by decide:0<2)) rfl (rfl)) ?_))))))))))))))))))));rintro w2 ⟨hB2,hc2,hs2⟩;refine zn rfl rfl (a7 rfl (aa kV rfl I4 rfl rfl) (aP rfl (bG I4 rfl rfl (hB2) rfl rfl ((by decide:1<2)) rfl (rfl)) ?_));rintro w3 ⟨hB3,hc3,hs3⟩;refine zNR (zmv rfl (fz rfl eo uU3 (by omega)) (za rfl ?_));refine a8 (a6 (zrf ?_));have hc13:=hc2.tr hc3;have hap1:rb∉ax (.slice pr (l.drop k).length cr):=by rw[hbr];exact hap
 refine⟨congrArg (Value.int .i64) (by rw[hnt]),⟨_,⟨hB3,hsr.mod hc13 (fun x hx hh=>by simp at hh;subst hh;exact hap1 hx),hap1⟩,hbr⟩,(Chg.heap hh1).tr hc13⟩
theorem RdAt.chg{w w':World}{rb:Nat}{bv:Value}{l:Bs}{S:List Nat}(h:RdAt w rb bv l)(hc:Chg S w w')(h1:rb∉S)(h2:∀x∈ax bv,x∉S):RdAt w' rb bv l :=
 ⟨h.1.chg hc h1,h.2.1.mod hc h2,h.2.2⟩
theorem yO(w:World)(rb:Nat)(bv:Value)(s z:Bs)(most:Nat)(hm:s.length<=most/\most<=60000)(h:RdAt w rb bv (txt s++z))(hl:(txt s++z).length<=1000000) :
  Ret Tryz.prog 162 #[.pointer (some ⟨rb,0,none⟩),.int .i64 most] w fun v w'=>v=str s/\(∃bv',RdAt w' rb bv' z/\ax bv'=ax bv)/\Chg [rb] w w':=by
 obtain⟨hB,hs,hap⟩:=h;have hh:=Gg (s:=s) (by omega) z;have htl:=gV s;have hr:=Gf s z;have ht:=Ge s z;refine enter [4] Tryz.func162 rfl rfl (al rfl) (zSR (za rfl (zNR (zm rfl (zn rfl rfl (a7 rfl (aa kV rfl I45 rfl rfl) (a7 rfl (aC aW rfl rfl (hB.c rfl)) (zm rfl (ah rfl C85 (n3 bv (txt s++z) most w hs hl (by omega)) ?_)))))))));rintro v1 w1 ⟨hv1,hh1⟩;unfold pj at hv1;rw[hh,ht,hr,if_neg (by rw[aF];omega)] at hv1;obtain⟨r,rfl,hsr,hbr⟩:=hv1;have hob1:=hsr.form rfl;obtain⟨pr,cr,hrf⟩:=hob1;subst hrf;have hB1:=hB.heap hh1;refine zm rfl (zx rfl (zx rfl (zx rfl (zaa rfl (za rfl (zNR (zmm rfl (zmm rfl (zn rfl rfl (a7 rfl (aa kV rfl I4 rfl rfl) (a7 rfl (aC uU4 rfl rfl (hB1.c rfl)) (zm rfl (aj rfl (zm rfl (aj rfl (a7 rfl (bS rfl rfl) (a7 rfl (aN rfl) (zn rfl rfl (a7 rfl (aa kV rfl I45 rfl rfl) (aP rfl (bG I45 rfl rfl (hB1) rfl rfl ((by decide:0<2)) rfl (rfl)) ?_))))))))))))))))))));rintro w2 ⟨hB2,hc2,hs2⟩;refine zn rfl rfl (a7 rfl (aa kV rfl I4 rfl rfl) (aP rfl (bG I4 rfl rfl (hB2) rfl rfl ((by decide:1<2)) rfl (rfl)) ?_));rintro w3 ⟨hB3,hc3,hs3⟩;refine zNR (zma rfl (a8 (a6 (zrf ?_))));have hc13:=hc2.tr hc3;have hap1:rb∉ax (.slice pr z.length cr):=by rw[hbr];exact hap
 exact⟨rfl,⟨_,⟨hB3,hsr.mod hc13 (fun x hx hh=>by simp at hh;subst hh;exact hap1 hx),hap1⟩,hbr⟩,(Chg.heap hh1).tr hc13⟩
def cnN:Cn->Nat
 | .leaf ps => ps.length
 | .br ks _ => ks.length
def cnR:Cn->Bs
 | .leaf ps => ps.flatMap prB
 | .br ks ids => ks.flatMap txt ++ kD ids
theorem cn_head(c:Cn):∃x,cnB c=x::(be 2 (cnN c)++cnR c):=by cases c <;> exact⟨_,rfl⟩
theorem xO(w:World)(bv:Value)(c:Cn)(hs:Sl w bv (cnB c))(hz:cnZ c<=480)(hn:cnN c<=480) :
  Ret Tryz.prog 161 #[bv,.int .i64 (if cnL c then 1 else 2)] w fun v w'=>∃rb bv',v=.tuple #[.pointer (some ⟨rb,0,none⟩),.int .i64 (cnN c),.bool true]/\RdAt w' rb bv' (cnR c)/\ax bv'=ax bv/\w.heap.size<=rb/\rb<w'.heap.size/\Chg [] w w':=by
 have hob2:=cn_head c;obtain⟨x,hx⟩:=hob2;have hlen:=mX c;have hltb:=hs.lt;have hob3:=hs.form rfl;obtain⟨p,cp,rfl⟩:=hob3;refine enter [4,5,6] Tryz.func161 rfl rfl (al rfl) (zSR (zaa rfl (za rfl (a8 (a6 (ae (zSR (zm rfl (ah rfl C103 (E8 w _ c hs) ?_)))))))));rintro _ _ ⟨rfl,rfl⟩;refine zmv rfl (bJ (bS rfl rfl) (congrArg Value.bool (decide_eq_false (fun h=>h rfl)))) ?_;refine zm rfl (aj rfl (zm rfl (aj rfl (a7 rfl (aA rfl aW) (aj rfl (a7 rfl (dt rfl rfl) (a7 rfl (aN rfl) (a8 (a6 (aK (congrArg Value.bool (decide_eq_false (by omega))) ?_))))))))));refine zKR (zm rfl ?_);have hl1:1<=(cnB c).length:=by rw[hx,bY];omega
 refine bF rfl (eH 1 aW I5 rfl hs rfl rfl rfl hl1) ?_;rintro _ ⟨⟨p1,c1,rfl⟩,hs1,hb1⟩;refine a7 rfl (bP kV I249 rfl (zs:=[.slice none 0 0,.bool false]) rfl rfl (bI rfl rfl rfl (al rfl) (dP (cs':=[.slice p1 ((cnB c).length-1) c1,.bool false]) rfl))) ?_;refine aY rfl (cT (l:=[.slice p1 ((cnB c).length-1) c1,.bool false]) rfl rfl) ?_;rintro _ w2 ⟨rb,rfl,hn2,hB2,hc2,hl2⟩;refine za rfl (zNR (zm rfl ?_));have hap:rb∉ax (.slice p1 ((cnB c).length-1) c1):=fun h=>by rw[hb1] at h;have:=hltb rb h;omega
 have hs2:=hs1.mod0 hc2;rw[hx,List.drop_succ_cons,gL] at hs2;rw[<-hx] at hs2;refine ah rfl C163 (GX w2 rb _ (be 2 (cnN c)++cnR c) 2 (by decide) ⟨hB2,hs2,hap⟩ ⟨by rw[aF,aL];omega,by rw[hx,bY] at hlen;omega⟩) ?_;rintro v3 w3 ⟨hv3,⟨bv3,hR3,hb3⟩,hc3⟩;rw[E4 (by omega)] at hv3;rw[eG (aL _ _)] at hR3;subst hv3;refine za rfl (zNR (zmm rfl (zm rfl (zn rfl rfl (a7 rfl (aa kV rfl I4 rfl rfl) (a7 rfl (aC uU4 rfl rfl (hR3.1.c rfl)) (a7 rfl (cA rfl) (zm rfl (aj rfl (zm rfl (aj rfl (a7 rfl (gd rfl rfl) (a7 rfl (aQ rfl) (zaa rfl (za rfl (a8 (a6 (zrf ?_))))))))))))))))));exact⟨rb,bv3,congrArg (fun b=>Value.tuple #[.pointer (some ⟨rb,0,none⟩),.int .i64 (cnN c),.bool b]) (decide_eq_true (by omega:(cnN c:Int)<=480)),hR3,hb3.trans hb1,hn2,by have:=hc3.1;omega,hc2.t1 hc3 hn2⟩
theorem Bb(w:World)(bv:Value)(l:List Pr)(hs:Sl w bv (rB l))(hok:leafOk l) :
  Ret Tryz.prog 104 #[bv] w fun v w'=>(∃rv,v=.tuple #[rv,.int .i64 0]/\Own w' rv l/\In rv [] w.heap.size)/\Chg [] w w':=by
 have hfew:=hok.few;have hltb:=hs.lt;have hz:cP l<=480:=hok.2;have hs':Sl w bv (cnB (.leaf l)):=hs;have hob4:=hs.form rfl;obtain⟨p,cp,rfl⟩:=hob4;refine enter [2,3] Tryz.func104 rfl rfl (al rfl) (zSR (zaa rfl (zNR (zm rfl (ah rfl C161 (xO w _ (.leaf l) hs' hz (by show l.length<=480;omega)) ?_)))));rintro v1 w1 ⟨rb,b1,rfl,hR1,hb1,hn1,hl1,hc1⟩;have hR1:RdAt w1 rb b1 (l.flatMap prB):=hR1;refine zm rfl (zx rfl (zx rfl (zx rfl (zaa rfl (za rfl (a8 (a6 (ae (zSR (zmv rfl (cA rfl) (a8 (a6 (aK (rfl) (zKR (za rfl (a8 (a6 (ae (zSR (za rfl (a8 (a6 (aq (bf [0,4,5,7,8] (fun m vs w'=>∃(i:Nat) (ov rv:Value),vs=[.slice p (rB l).length cp,.pointer (some ⟨rb,0,none⟩),.int .i64 l.length,ov,.int .i64 i]/\i+m=l.length/\RdAt w' rb rv ((l.drop i).flatMap prB)/\ax rv=ax b1/\Own w' ov (l.take i)/\In ov [] w1.heap.size/\Chg [] w w'/\w1.heap.size<=w'.heap.size) (l.length) ?_ ?_))))))))))))))))))))))))
 ·exact⟨0,_,b1,rfl,by omega,hR1,rfl,Own.nil _,In.nil,hc1,aM _⟩
 ·rintro m vs J w2 ⟨i,ov,rv,rfl,hi,hR2,hb2,ho2,hi2,hc2,hk2⟩;refine ae (zSR (zmm rfl ?_));by_cases hlt:i<l.length
  ·have hob5:∃q,m=q+1:=⟨m-1,by omega⟩
   obtain⟨m,rfl⟩:=hob5;have hpa:=hok.1.1 _ (lD hlt);have hob6:∃a,a=l[i]:=⟨_,rfl⟩
   obtain⟨a,ha⟩:=hob6;rw[<-ha] at hpa;have hdr:(l.drop i).flatMap prB=txt a.1++(txt a.2++(l.drop (i+1)).flatMap prB):=by
    rw[sO prB hlt,<-ha];unfold prB;rw[bO]
   have hdl:((l.drop i).flatMap prB).length<=480:=by
    have h1:=mS (l.drop i);have h2:=iX l i;have h3:3<=cP (l.take i):=by unfold cP;omega
    unfold rB at h1;rw[bY,aF,aL] at h1;omega
   rw[hdr] at hR2 hdl;have hdl2:=hdl;rw[aF] at hdl2;refine a7 rfl (bJ (bL rfl rfl) (congrArg Value.bool (decide_eq_true (by omega)))) ?_;refine zm rfl (aj rfl (zm rfl (aj rfl (zn rfl rfl (aj rfl (a7 rfl (aa kV rfl I4 rfl rfl) (aj rfl (a7 rfl (aC uU4 rfl rfl (hR2.1.c rfl)) (aj rfl (a7 rfl (cA rfl) (a7 rfl (aQ rfl) (a8 (a6 (bh (rfl) (aw (a6 (ae (aq (zSR (zm rfl (ah rfl C162 (yO w2 rb rv a.1 _ 60 (by omega) hR2 (by omega)) ?_)))))))))))))))))))));rintro v3 w3 ⟨rfl,⟨b3,hR3,hb3⟩,hc3⟩;refine za rfl (a8 (a6 (ag (zmm rfl (zm rfl (ah rfl C162 (yO w3 rb b3 a.2 _ 150 (by omega) hR3 (by omega)) ?_))))));rintro v4 w4 ⟨rfl,⟨b4,hR4,hb4⟩,hc4⟩;refine a7 rfl (bP j1 I49 rfl (zs:=[str [],str []]) rfl rfl (bI rfl rfl rfl (al rfl) (bI rfl rfl rfl (al rfl) (dP (cs':=[str a.1,str a.2]) rfl)))) ?_;have hrb:rb∉ax ov:=fun h=>by have:=hi2.ge rb h;omega
   have hc24:=hc3.tr hc4;have ho4:=ho2.mod hc24 (fun x hx hh=>by simp at hh;subst hh;exact hrb hx);refine iB (a) dc I49 rfl rfl rfl (by decide) (by decide) rfl rfl rfl rfl (ho4) (fun _=>rfl) (by rw[bA];omega) ?_;rintro s5 v5 w5 h5;refine za rfl (a8 (ay (a6 (ag (zmv rfl (aB rfl rfl (by omega)) (za rfl ?_))))));refine a8 (a6 ?_);have k24:=hc24.1;have hc5:=h5.mod;have hin5:In v5 [] w1.heap.size:=fun x hx=>.inr ((h5.inn x hx).elim (fun h=>hi2.ge x h) (fun h=>by omega));have k1:=hc1.1;refine aS (m) (bx (by omega) ?_);refine⟨i+1,v5,b4,rfl,by omega,hR4.chg hc5 hrb (fun x hx hh=>?_),by rw[hb4,hb3,hb2],?_,hin5,(hc2.t0 hc24 (fun x hx=>by simp at hx;omega)).t0 hc5 (fun x hx=>by have:=hi2.ge x hx;omega),by have:=hc5.1;omega⟩
   ·rw[hb4,hb3,hb2,hb1] at hx
    have:=hltb x hx
    have:=hi2.ge x hh
    omega
   ·rw[<-fG hlt,<-ha];exact h5.own
  ·have hil:i=l.length:=by omega
   subst hil;rw[cZ] at ho2;refine a7 rfl (bJ (bL rfl rfl) (congrArg Value.bool (decide_eq_false (by omega)))) ?_;refine zm rfl (aD rfl rfl (aD rfl rfl (aD rfl rfl (aD rfl rfl (aD rfl rfl (a7 rfl (aN rfl) (a8 (a6 (aK (rfl) (aO (an (an (aE (a6 (ae (zSR (zm rfl ?_)))))))))))))))));have hlo:leafOk l:=hok;refine ah rfl C96 (uf w2 ov l ho2.sl (by omega)) ?_;rintro v3 w3 ⟨hc3,hv3⟩;rcases hv3 with⟨q,_⟩|⟨_,q,_⟩|⟨_,bv3,rfl,ho3,hi3⟩
   ·exact absurd hok.1 q
   ·omega
   ·have hR3:=hR2.chg hc3 (by simp) (by simp);have hob7:=ho3.sl.form rfl;obtain⟨p3,c3,hbf⟩:=hob7;subst hbf;refine zm rfl (zx rfl (zx rfl (zaa rfl (zNR (zm rfl (zn rfl rfl (a7 rfl (aa kV rfl I4 rfl rfl) (a7 rfl (aC uU4 rfl rfl (hR3.1.c rfl)) (zm rfl (aj rfl (zm rfl (aj rfl (a7 rfl (bJ (bS rfl rfl) (congrArg Value.bool (decide_eq_false (fun h=>h rfl)))) ?_)))))))))))));refine a7 rfl (aN rfl) (zm rfl (aj rfl (zm rfl (aj rfl (a7 rfl (lQ aW uU5 uU9 ho3.sl rfl) (aj rfl (zm rfl (aj rfl (a7 rfl (lQ aW uU5 uU9 (hs.mod0 (hc2.tr hc3)) rfl) (aj rfl (a7 rfl (uA rfl rfl) (a7 rfl (aN rfl) (a8 (a6 (aK (congrArg Value.bool (decide_eq_false (fun h=>h rfl))) ?_)))))))))))))));refine zKR (zma rfl (za rfl (a8 (a6 (zrf ?_)))));exact⟨⟨ov,rfl,ho2.mod0 hc3,hi2.mono (fun _ h=>.inl h) hc1.1⟩,hc2.tr hc3⟩
theorem xk(w:World)(bv:Value)(ks:List Bs)(ids:List UInt32)(hs:Sl w bv (brB ks ids))(hok:brOk ks ids) :
  Ret Tryz.prog 105 #[bv] w fun v w'=>(∃kv iv,v=.tuple #[kv,iv,.int .i64 0]/\Own w' kv ks/\Own w' iv ids/\In kv [] w.heap.size/\In iv [] w.heap.size)/\Chg [] w w':=by
 have hob8:=hok.few;obtain⟨hfk,hfi⟩:=hob8;have hltb:=hs.lt;have hz:brZ ks ids<=480:=hok.2.2.2;have hlen:=hok.2.1;have hs':Sl w bv (cnB (.br ks ids)):=hs;have hbl:=wv ks ids;have hob9:=hs.form rfl;obtain⟨p,cp,rfl⟩:=hob9;refine enter [2,3,4] Tryz.func105 rfl rfl (al rfl) (zSR (zaa rfl (za rfl (zNR (zm rfl (ah rfl C161 (xO w _ (.br ks ids) hs' hz (by show ks.length<=480;omega)) ?_))))));rintro v1 w1 ⟨rb,b1,rfl,hR1,hb1,hn1,hl1,hc1⟩;have hR1:RdAt w1 rb b1 (ks.flatMap txt++kD ids):=hR1;refine zm rfl (zx rfl (zx rfl (zx rfl (zaa rfl (za rfl (a8 (a6 (ae (zSR (zmv rfl (cA rfl) (a8 (a6 (aK (rfl) (zKR (za rfl (a8 (a6 (ae (zSR (za rfl (a8 (a6 (aq (bf [0,5,6,8,9] (fun m vs w'=>∃(i:Nat) (ov rv:Value),vs=[.slice p (brB ks ids).length cp,.pointer (some ⟨rb,0,none⟩),.int .i64 ks.length,ov,.int .i64 i]/\i+m=ks.length/\RdAt w' rb rv ((ks.drop i).flatMap txt++kD ids)/\ax rv=ax b1/\Own w' ov (ks.take i)/\In ov [] w1.heap.size/\Chg [] w w'/\w1.heap.size<=w'.heap.size) (ks.length) ?_ ?_))))))))))))))))))))))))
 ·exact⟨0,_,b1,rfl,by omega,hR1,rfl,Own.nil _,In.nil,hc1,aM _⟩
 ·rintro m vs J w2 ⟨i,ov,rv,rfl,hi,hR2,hb2,ho2,hi2,hc2,hk2⟩;refine ae (zSR (zmm rfl ?_));by_cases hlt:i<ks.length
  ·have hob10:∃q,m=q+1:=⟨m-1,by omega⟩
   obtain⟨m,rfl⟩:=hob10;have hpa:=hok.2.2.1.1 _ (lD hlt);have hob11:∃a,a=ks[i]:=⟨_,rfl⟩
   obtain⟨a,ha⟩:=hob11;rw[<-ha] at hpa;have hdr:(ks.drop i).flatMap txt++kD ids=txt a++((ks.drop (i+1)).flatMap txt++kD ids):=by
    rw[sO txt hlt,<-ha,bO]
   have hdl:((ks.drop i).flatMap txt++kD ids).length<=480:=by
    have h1:=iZ txt _ gV (ks.drop i);have h2:=jy ks i;rw[aF,h1,fo];unfold brZ at hz;unfold db at h2 hz;omega
   rw[hdr] at hR2 hdl;refine a7 rfl (bJ (bL rfl rfl) (congrArg Value.bool (decide_eq_true (by omega)))) ?_;refine zm rfl (aj rfl (zm rfl (aj rfl (zn rfl rfl (aj rfl (a7 rfl (aa kV rfl I4 rfl rfl) (aj rfl (a7 rfl (aC uU4 rfl rfl (hR2.1.c rfl)) (aj rfl (a7 rfl (cA rfl) (a7 rfl (aQ rfl) (a8 (a6 (bh (rfl) (aw (a6 (ae (aq (ag (zmm rfl (ah rfl C162 (yO w2 rb rv a _ 60 (by omega) hR2 (by omega)) ?_)))))))))))))))))))));rintro v3 w3 ⟨rfl,⟨b3,hR3,hb3⟩,hc3⟩;have hrb:rb∉ax ov:=fun h=>by have:=hi2.ge rb h;omega
   have ho4:=ho2.mod hc3 (fun x hx hh=>by simp at hh;subst hh;exact hrb hx);refine iB (a) cL I9 rfl rfl rfl (by decide) (by decide) rfl rfl rfl rfl (ho4) (fun _=>rfl) (by rw[bA];omega) ?_;rintro s5 v5 w5 h5;refine za rfl (a8 (ay (a6 (ag (zmv rfl (aB rfl rfl (by omega)) (za rfl ?_))))));refine a8 (a6 ?_);have k24:=hc3.1;have hc5:=h5.mod;have hin5:In v5 [] w1.heap.size:=fun x hx=>.inr ((h5.inn x hx).elim (fun h=>hi2.ge x h) (fun h=>by omega));have k1:=hc1.1;refine aS (m) (bx (by omega) ?_);refine⟨i+1,v5,b3,rfl,by omega,hR3.chg hc5 hrb (fun x hx hh=>?_),by rw[hb3,hb2],?_,hin5,(hc2.t0 hc3 (fun x hx=>by simp at hx;omega)).t0 hc5 (fun x hx=>by have:=hi2.ge x hx;omega),by have:=hc5.1;omega⟩
   ·rw[hb3,hb2,hb1] at hx
    have:=hltb x hx
    have:=hi2.ge x hh
    omega
   ·rw[<-fG hlt,<-ha];exact h5.own
  ·have hil:i=ks.length:=by omega
   subst hil;rw[cZ] at ho2;rw[rU,yo,dA] at hR2;refine a7 rfl (bJ (bL rfl rfl) (congrArg Value.bool (decide_eq_false (by omega)))) ?_;refine zm rfl (aD rfl rfl (aD rfl rfl (aD rfl rfl (aD rfl rfl (aD rfl rfl (a7 rfl (aN rfl) (a8 (a6 (aK (rfl) (aO (an (an (aE (a6 (zSR (za rfl (a8 (a6 (ae (zSR (za rfl (a8 (a6 (aq (bf [0,5,6,8,10,11] (fun m vs w'=>∃(i:Nat) (iv rv:Value),vs=[.slice p (brB ks ids).length cp,.pointer (some ⟨rb,0,none⟩),.int .i64 ks.length,ov,iv,.int .i64 i]/\i+m=ids.length/\RdAt w' rb rv (kD (ids.drop i))/\ax rv=ax b1/\Own w' ov ks/\Own w' iv (ids.take i)/\In iv [] w2.heap.size/\Chg [] w w'/\w2.heap.size<=w'.heap.size) (ids.length) ?_ ?_)))))))))))))))))))))))))
   ·exact⟨0,_,rv,rfl,by omega,hR2,hb2,ho2,Own.nil _,In.nil,hc2,aM _⟩
   ·rintro m vs J w3 ⟨i,iv,rv3,rfl,hi3,hR3,hb3,ho3,hv3,hi3n,hc3,hk3⟩;refine ae (zSR (zmm rfl ?_));have hltov:=ho2.sl.lt;by_cases hlt:i<ids.length
    ·have hob12:∃q,m=q+1:=⟨m-1,by omega⟩
     obtain⟨m,rfl⟩:=hob12;have hob13:∃a,a=ids[i]:=⟨_,rfl⟩
     obtain⟨a,ha⟩:=hob13;have hdr:kD (ids.drop i)=be 4 a.toNat++kD (ids.drop (i+1)):=by
      unfold kD;rw[sO (fun j:UInt32=>be 4 j.toNat) hlt,<-ha]
     have hdl:=fo (ids.drop i);rw[bD] at hdl;rw[hdr] at hR3 hdl;refine a7 rfl (bJ (gd rfl rfl) (congrArg Value.bool (decide_eq_true (by omega)))) ?_;refine zm rfl (aj rfl (zm rfl (aj rfl (zn rfl rfl (aj rfl (a7 rfl (aa kV rfl I4 rfl rfl) (aj rfl (a7 rfl (aC uU4 rfl rfl (hR3.1.c rfl)) (aj rfl (a7 rfl (cA rfl) (a7 rfl (aQ rfl) (a8 (a6 (bh (rfl) (aw (a6 (ae (aq (ag (zmm rfl (ah rfl C163 (GX w3 rb rv3 _ 4 (by decide) hR3 ⟨by omega,by omega⟩) ?_)))))))))))))))))))));rintro v4 w4 ⟨hv4,⟨b4,hR4,hb4⟩,hc4⟩;rw[id_rest] at hR4;have hid:=id_head a (kD (ids.drop (i+1)));have hob14:∃nn:Nat,nn=dw ((be 4 a.toNat++kD (ids.drop (i+1))).take 4):=⟨_,rfl⟩
     obtain⟨nn,hnn⟩:=hob14;rw[<-hnn] at hv4 hid;subst hv4;have htu:gD ((nn:Nat):Int)=a:=by rw[kG,hid]
     have hrb:rb∉ax iv:=fun h=>by have:=hi3n.ge rb h;have:=hc1.1;omega
     have hiv4:=hv3.mod hc4 (fun x hx hh=>by simp at hh;subst hh;exact hrb hx);have ho4:=ho3.mod hc4 (fun x hx hh=>by simp at hh;subst hh;have:=hi2.ge _ hx;omega);refine a7 rfl (ey rfl uU3 bw) (iB (gD ((nn:Nat):Int)) aX I25 rfl rfl rfl (by decide) (by decide) rfl rfl rfl rfl (hiv4) (fun _=>rfl) (by rw[bA];omega) ?_);rintro s5 v5 w5 h5;refine za rfl (a8 (ay (a6 (ag (zmv rfl (aB rfl rfl (by omega)) (za rfl ?_))))));refine a8 (a6 ?_);have k24:=hc4.1;have hc5:=h5.mod;have hin5:In v5 [] w2.heap.size:=fun x hx=>.inr ((h5.inn x hx).elim (fun h=>hi3n.ge x h) (fun h=>by omega));have k1:=hc1.1;refine aS (m) (bx (by omega) ?_);refine⟨i+1,v5,b4,rfl,by omega,hR4.chg hc5 hrb (fun x hx hh=>?_),by rw[hb4,hb3],ho4.mod hc5 (fun x hx hh=>?_),?_,hin5,(hc3.t0 hc4 (fun x hx=>by simp at hx;omega)).t0 hc5 (fun x hx=>by have:=hi3n.ge x hx;omega),by have:=hc5.1;omega⟩
     ·rw[hb4,hb3,hb1] at hx
      have:=hltb x hx
      have:=hi3n.ge x hh
      omega
     ·have:=hltov x hx
      have:=hi3n.ge x hh
      omega
     ·rw[<-fG hlt,<-ha]
      have:=h5.own
      rwa [htu] at this
    ·have hil:i=ids.length:=by omega
     subst hil;rw[cZ] at hv3;refine a7 rfl (bJ (gd rfl rfl) (congrArg Value.bool (decide_eq_false (by omega)))) ?_;refine zm rfl (aD rfl rfl (aD rfl rfl (aD rfl rfl (aD rfl rfl (aD rfl rfl (a7 rfl (aN rfl) (a8 (a6 (aK (rfl) (aO (an (an (aE (a6 (ae (zSR (zmm rfl (ah rfl C164 (yh w3 ov iv ks ids ho3.sl hv3.sl hok) ?_))))))))))))))))));rintro v4 w4 ⟨bv4,rfl,ho4,hi4,hc4⟩;have hR4:=hR3.chg hc4 (by simp) (by simp);have hob15:=ho4.sl.form rfl;obtain⟨p4,c4,hbf⟩:=hob15;subst hbf;refine zm rfl (zx rfl (zx rfl (zaa rfl (zNR (zm rfl (zn rfl rfl (a7 rfl (aa kV rfl I4 rfl rfl) (a7 rfl (aC uU4 rfl rfl (hR4.1.c rfl)) (zm rfl (aj rfl (zm rfl (aj rfl (a7 rfl (bJ (bS rfl rfl) (congrArg Value.bool (decide_eq_false (fun h=>h rfl)))) ?_)))))))))))));refine a7 rfl (aN rfl) (zm rfl (aj rfl (zm rfl (aj rfl (a7 rfl (lQ aW uU5 uU9 ho4.sl rfl) (aj rfl (zm rfl (aj rfl (a7 rfl (lQ aW uU5 uU9 (hs.mod0 (hc3.tr hc4)) rfl) (aj rfl (a7 rfl (uA rfl rfl) (a7 rfl (aN rfl) (a8 (a6 (aK (congrArg Value.bool (decide_eq_false (fun h=>h rfl))) ?_)))))))))))))));refine zKR (zmm rfl (zaa rfl (za rfl (a8 (a6 (zrf ?_))))));exact⟨⟨ov,iv,rfl,ho3.mod0 hc4,hv3.mod0 hc4,hi2.mono (fun _ h=>.inl h) hc1.1,hi3n.mono (fun _ h=>.inl h) (by have:=hc1.1;omega)⟩,hc3.tr hc4⟩
theorem Blk.sl1{α:Type}[Flat α]{w:World}{b:Nat}{a:α}(h:Blk w b (Flat.enc a)):Sl w (.slice (some ⟨b,0,none⟩) 1 1) [a] :=
 ⟨_,1,rfl,aM _,rfl,h.at (by rw[gL];simp[bm])⟩
theorem kz{α:Type}{l:List α}{i:Nat}(h:i<=l.length):(l.take i).length=i/\(l.drop i).length=l.length-i:=by
 rw[bA,bD];omega
theorem wG(w:World)(v:Value)(l:List (Pr))(hs:Sl w v l)(hl:l.length<=100000) :
  Ret Tryz.prog 154 #[v] w fun r w'=>Own w' r l/\In r [] w.heap.size/\Chg [] w w':=by
 obtain⟨p,cp,rfl⟩:=hs.form rfl;refine enter [2] Tryz.func154 rfl rfl (al rfl) (zSR (za rfl (a8 (a6 (ae (zSR (zm rfl ?_)))))));cases p with
 | none =>
  have hnil:l=[]:=by obtain⟨p,c,he,_,h⟩:=hs;cases he;exact h
  skip
  refine a7 rfl (kT dc rfl rfl (.inl rfl)) (a8 (a6 (bh (rfl) (zSR (za rfl (a8 (a6 (zrt ?_))))))));subst hnil;exact⟨Own.nil _,In.nil,Chg.refl _⟩
 | some ad =>
  skip
  refine a7 rfl (kT dc rfl rfl (.inr rfl)) (a8 (a6 (aK (congrArg Value.bool (decide_eq_false (by simp))) ?_)));refine zKR (aY rfl (Dg [] ([]:List (Pr)) dc I49 rfl rfl rfl rfl rfl rfl (by decide)) ?_);rintro _ w1 ⟨⟨p1,c1,rfl⟩,ho1,hc1,hi1⟩;refine zm rfl (cD dc dc I49 (.inr ⟨_,rfl⟩) rfl rfl rfl (by decide) rfl (ho1) ((hs.mod0 hc1).src) rfl rfl (by simp;omega) ?_);rintro v2 w2 h2;refine za rfl (a8 (a6 (zrf ?_)));refine⟨h2.own,?_,hc1.t0 h2.mod (fun x hx=>hi1.ge x hx)⟩;exact h2.inn.mono (fun x hx=>.inr (hi1.ge x hx)) hc1.1
theorem D4(w:World)(p:Option Addr)(cap vb:Nat)(l:List (Pr))(a:Pr)(i:Nat)(hs:Own w (.slice p l.length cap) l)(hv:Blk w vb (Flat.enc a))(hne:vb∉ax (.slice p l.length cap))(hi:i<=l.length)(hl:l.length<=100000) :
  Ret Tryz.prog 155 #[.slice p l.length cap,.int .i64 i,.slice (some ⟨vb,0,none⟩) 1 1] w fun r w'=>Own w' r (l.take i++a::l.drop i)/\In r (ax (.slice p l.length cap)) w.heap.size/\Chg (ax (.slice p l.length cap)) w w':=by
 have hob1:=kz hi;obtain⟨htl,hdl⟩:=hob1;have hcl:l.length<=cap:=by obtain⟨p',c',he,h,_⟩:=hs;cases he;exact h
 refine enter [6] Tryz.func155 rfl rfl (al rfl) (zSR (za rfl (zNR (zmm rfl (bF rfl (eH i dc I49 rfl hs.sl rfl rfl rfl hi) ?_)))));rintro _ ⟨⟨p1,c1,rfl⟩,hs1,hb1⟩;refine zNR (zmv rfl (aA rfl dc) (za rfl (a8 (a6 (ae (zSR (zmv rfl (dB rfl rfl) (a8 (a6 (aK (rfl) (zKR (zmv rfl (aA rfl dc) (za rfl (a8 (a6 (ae (zSR (zmm rfl (a7 rfl (dB rfl rfl) (a8 (a6 ?_)))))))))))))))))))));by_cases hin:i=l.length
 ·subst hin;refine bM rfl (rfl) ?_;refine zSR (zmm rfl (cD dc dc I49 (.inr ⟨_,rfl⟩) rfl rfl rfl (by decide) rfl (hs) ((Blk.sl1 hv).src) rfl rfl (by simp;omega) ?_));rintro v2 w2 h2;refine za rfl (a8 (a6 (zrt ?_)));rw[cZ,rU];exact⟨h2.own,h2.inn,h2.mod⟩
 ·refine aI rfl (by omega) ?_;refine aw (a6 (ae (zSR (zmm rfl (a7 rfl (aB rfl rfl (by omega)) (zm rfl ?_))))));refine a7 rfl (gU rfl dc) (a7 rfl (dt rfl rfl) (a8 (a6 ?_)));by_cases hc:cap<l.length+1
  ·refine bM rfl (by omega) ?_;refine zSR (zmm rfl (a7 rfl (rY i dc I49 rfl rfl rfl (by omega)) ?_));refine zmm rfl (a7 rfl (aB rfl rfl (by omega)) (zmv rfl (bg rfl rfl (by omega)) ?_));have hs2:Sl w (.slice p i cap) (l.take i):=(hs.front hi).sl;refine aY rfl (qI (l.length+1-i) ((([],[]):Pr)) dc uU3 I49 rfl rfl rfl (by decide) htl hs2 rfl rfl (by omega) (by omega) (by omega)) ?_;rintro v3 w3 ⟨ho3,hc3,hi3⟩;refine za rfl (zNR (zmm rfl ?_));have hL:(l.take i++List.replicate (l.length+1-i) ((([],[]):Pr))).length=l.length+1:=by rw[aF,htl,cH];omega
   refine bF rfl (gO i dc I49 rfl ho3 rfl rfl rfl (by rw[hL];omega)) ?_;rintro v4 hsub4;refine zm rfl (dK rfl (dM dc I49 rfl ho3 hsub4 (by rw[hL];omega) ((Blk.sl1 hv).mod0 hc3).src rfl rfl) ?_);rintro w5 ⟨ho5,hc5,hs5⟩;refine a8 (a6 (ae ?_));rw[hL,show min ([a]:List (Pr)).length (l.length+1-i)=1 by simp;omega,kn (a:=l.take i) (j:=1) htl.symm rfl,j6,show([a]:List (Pr)).take 1=[a] from rfl] at ho5;have hL5:(l.take i++[a]++List.replicate (l.length+1-i-1) ((([],[]):Pr))).length=l.length+1:=by rw[aF,aF,htl,cH,gq];omega
   have hc35:=hc3.t0 hc5 (fun x hx=>hi3.ge x hx);have hs5:=hs.sl.mod0 hc35;refine aG bz (.pure 0 (.pure 1 (.pure 2 (.pure 3 (.pure 4 (.pure 5 (.pure 6 (.pure 7 (.eff 8 [] .nil))))))))) (by kernel_rfl) ?_;refine ym rfl (ym rfl (ym rfl (yp rfl (fun _=>(aB rfl rfl (by omega))) ?_)));refine yex rfl (gO (i+1) dc I49 rfl ho5 rfl rfl (by omega) (by rw[hL5];omega)) ?_;rintro v6 hsub6;refine ym rfl (ym rfl (yex rfl (eH i dc I49 rfl hs5 rfl rfl rfl hi) ?_));rintro _ ⟨⟨p7,c7,rfl⟩,hs7,hb7⟩;refine bZ rfl rfl rfl (dM dc I49 rfl ho5 hsub6 (by rw[hL5];omega) ((hs7.mod0 (drw _)).src) rfl rfl) ?_;rintro w8 ⟨ho8,hc8,hs8⟩;refine⟨trivial,?_⟩;refine zPR (zma rfl (a8 (a6 (zrt ?_))));have hc8:Chg (ax v3) w5 w8:=hc8;rw[hL5,hdl,show min (l.length-i) (l.length+1-(i+1))=l.length-i by omega,kn (a:=l.take i++[a]) (j:=l.length-i) (by rw[aF,htl];rfl) (by rw[bA,hdl];omega),gb (l:=List.replicate (l.length+1-i-1) ((([],[]):Pr))) (by rw[cH];omega),cy,bW (l:=l.drop i) (by omega),bO] at ho8;exact⟨ho8,fun x hx=>.inr (hi3.ge x hx),(hc35.t0 hc8 (fun x hx=>hi3.ge x hx)).mono (by simp)⟩
  ·refine aI rfl (by omega) ?_;refine zKR (zmm rfl (zmv rfl (aB rfl rfl (by omega)) ?_));obtain⟨b,off,rfl⟩:∃b off,p=some ⟨b,off,none⟩:=by
    obtain⟨p',c',he,_,h⟩:=hs;cases he;cases p with
    | none => have := h.2; omega
    | some ad => obtain ⟨b, off, sp⟩ := ad; obtain ⟨h1, _⟩ := h; simp only at h1; subst h1; exact ⟨b, off, rfl⟩
   have hob2:=zi hs;obtain⟨c,hR,hsz,hcl2⟩:=hob2;have hnb:vb≠b:=fun e=>hne (by rw[e];simp[ax]);have hsz':off+cap*2<=c.size:=hsz;have hroom1:off+(i+1)*Flat.sz (Pr)+(l.drop i).length*Flat.sz (Pr)<=c.size:=by
    rw[hdl]
    have:(i+1)*Flat.sz (Pr)+(l.length-i)*Flat.sz (Pr)<=cap*Flat.sz (Pr):=by rw[<-eV];exact ej _ (by omega)
    omega
   have hroom2:off+i*Flat.sz (Pr)+1*Flat.sz (Pr)<=c.size:=by
    have:i*Flat.sz (Pr)+1*Flat.sz (Pr)<=cap*Flat.sz (Pr):=by rw[<-eV];exact ej _ (by omega)
    omega
   refine a7 rfl (rY (l.length+1) dc I49 rfl rfl (by omega) (by omega)) ?_;refine za rfl (a8 (a6 (ae (zSR (zmm rfl (zmm rfl (a7 rfl (aB rfl rfl (by omega)) ?_)))))));refine a7 rfl (tI (i+1) dc I49 rfl rfl (by omega) (by omega) (by omega)) ?_;refine a7 rfl (Df Tryz.func197 (by kernel_rfl) rfl (by kernel_rfl) (e:=Extern.SlicesOverlaps.overlaps #[33,33] #[4]) (by kernel_rfl) (vh dc I49 hv hv.lt hnb hR (by omega))) ?_;refine a7 rfl (cA rfl) (a8 (a6 (bh (rfl) (ae ?_))));have hdc:∀q x,(bm (l.drop i))[q]?=some x->c[off+i*Flat.sz (Pr)+q]?=some x:=fun q x hq=>by
    rw[<-fb,lE] at hq;rw[mB];exact hcl2 _ _ hq
   refine aG bz (.pure 0 (.pure 1 (.pure 2 (.pure 3 (.pure 4 (.pure 5 (.pure 6 (.pure 7 (.eff 8 [] .nil))))))))) (by kernel_rfl) ?_;refine ym rfl (ym rfl (ym rfl (yp rfl (fun _=>(aB rfl rfl (by omega))) ?_)));refine yp rfl (fun _=>tI (i+1) dc I49 rfl rfl (by omega) (by omega) (by omega)) ?_;refine ym rfl (ym rfl (yp rfl (fun _=>tI i dc I49 rfl rfl rfl (by omega) (by omega)) ?_));refine bZ rfl rfl rfl (oz (m:=l.drop i) dc I49 rfl rfl rfl (by rw[hdl];omega) (hR.at hdc:At _ b (off+i*Flat.sz (Pr)) _) hR hroom1) ?_;rintro w2 ⟨hR2,hc2,hs2⟩;refine⟨trivial,?_⟩;refine zPR (zmm rfl ?_);have hc2:Chg [b] w w2:=hc2;have hR2:Row w2 b (gg c (off+(i+1)*Flat.sz (Pr)) (bm (l.drop i))):=hR2;refine a7 rfl (tI i dc I49 rfl rfl rfl (by omega) (by omega)) ?_;refine zm rfl (dK rfl (oz (m:=([a]:List (Pr))) dc I49 rfl rfl rfl (by simp;omega) ((hv.nb hc2 hnb).at (off:=0) (by rw[gL];simp[bm])) hR2 (by rw[cR];exact hroom2)) ?_);rintro w3 ⟨hR3,hc3,hs3⟩;refine zNR (zma rfl (a8 (a6 (zrt ?_))));have hR3:Row w3 b (gg (gg c (off+(i+1)*Flat.sz (Pr)) (bm (l.drop i))) (off+i*Flat.sz (Pr)) (Flat.enc a)):=by
    have:bm ([a]:List (Pr))=Flat.enc a:=by simp[bm]
    rw[<-this];exact hR3
   refine⟨hR3.own (by rw[aF,bY,htl,hdl];omega) (by rw[aF,bY,htl,hdl];omega) (by rw[cR,cR];exact hsz) (zc hi (by omega) hsz hcl2),fun x hx=>.inl hx,?_⟩;exact hc2.tr hc3
theorem D7(w:World)(p:Option Addr)(cap:Nat)(l:List (Pr))(i:Nat)(hs:Own w (.slice p l.length cap) l)(hi:i<l.length)(hl:l.length<=100000) :
  Ret Tryz.prog 168 #[.slice p l.length cap,.int .i64 i,.int .i64 ((i:Int)+1)] w fun r w'=>Own w' r (l.take i++l.drop (i+1))/\In r (ax (.slice p l.length cap)) w.heap.size/\Chg (ax (.slice p l.length cap)) w w':=by
 have hob3:=kz (mA hi);obtain⟨htl,_⟩:=hob3;have hob4:=kz (show i+1<=l.length from hi);obtain⟨_,hdl⟩:=hob4;have hcl:l.length<=cap:=by obtain⟨p',c',he,h,_⟩:=hs;cases he;exact h
 refine enter [6] Tryz.func168 rfl rfl (al rfl) (zSR (za rfl (zNR (zmm rfl (zmm rfl (a7 rfl (aA rfl dc) (bF rfl (Bz dc I49 rfl rfl rfl rfl (by omega) (by omega) (by omega)) ?_)))))));rintro _ _;refine a8 (a6 (ae (zSR (zmm rfl (a7 rfl (dB rfl rfl) (a8 (a6 (aI rfl (by omega) ?_))))))));refine zKR (zmv rfl (aA rfl dc) (za rfl ?_));refine a8 (a6 (ae (aG bz (.pure 0 (.pure 1 (.pure 2 (.pure 3 (.pure 4 (.pure 5 (.eff 6 [] (.pure 7 .nil)))))))) (by kernel_rfl) ?_)));refine ym rfl (ym rfl (yp rfl (fun _=>rY i dc I49 rfl rfl rfl (by omega)) ?_));refine ym rfl (ym rfl (yex rfl (eH (i+1) dc I49 rfl hs.sl rfl rfl (by omega) (by omega)) ?_));rintro _ ⟨⟨p2,c2,rfl⟩,hs2,hb2⟩;refine eC rfl (yK (n:=i) (q:=l.length-(i+1)) dc dc (.inr ⟨_,rfl⟩) I49 rfl htl hdl (hs.front (mA hi)) ((hs2.mod0 (drw _)).src) rfl rfl (by omega)) ?_;rintro _ w3 ⟨rfl,ho3,hc3,hs3⟩;refine⟨trivial,?_⟩;refine ya rfl (zPR (zmm rfl (a7 rfl (aA rfl dc) (zm rfl ?_))));have hbe:∀n,ax (.slice p n cap)=ax (.slice p l.length cap):=fun n=>qm;have hc3:Chg (ax (.slice p i cap)) w w3:=hc3;rw[hbe] at hc3;have hL:(l.take i++l.drop (i+1)).length=i+(l.length-(i+1)):=by rw[aF,htl,hdl]
 refine a7 rfl (Bt (i+(l.length-(i+1))) 1 dc I49 rfl rfl rfl rfl (by omega) (by omega)) ?_;refine dK rfl (uK ((([],[]):Pr)) dc I49 rfl rfl rfl hL ho3 rfl (by omega)) ?_;rintro w4 ⟨ho4,hc4,hs4⟩;refine zNR (zma rfl (a8 (a6 (zrf ?_))));rw[hbe] at hc4;exact⟨ho4,fun x hx=>.inl (by rw[<-hbe (i+(l.length-(i+1)))];exact hx),hc3.tr hc4⟩
theorem wF(w:World)(v:Value)(l:List (Bs))(hs:Sl w v l)(hl:l.length<=100000) :
  Ret Tryz.prog 203 #[v] w fun r w'=>Own w' r l/\In r [] w.heap.size/\Chg [] w w':=by
 have hob5:=hs.form rfl;obtain⟨p,cp,rfl⟩:=hob5;refine enter [2] Tryz.func203 rfl rfl (al rfl) (zSR (za rfl (a8 (a6 (ae (zSR (zm rfl ?_)))))));cases p with
 | none =>
  have hnil:l=[]:=by obtain⟨p,c,he,_,h⟩:=hs;cases he;exact h
  skip
  refine a7 rfl (kT cL rfl rfl (.inl rfl)) (a8 (a6 (bh (rfl) (zSR (za rfl (a8 (a6 (zrt ?_))))))));subst hnil;exact⟨Own.nil _,In.nil,Chg.refl _⟩
 | some ad =>
  skip
  refine a7 rfl (kT cL rfl rfl (.inr rfl)) (a8 (a6 (aK (congrArg Value.bool (decide_eq_false (by simp))) ?_)));refine zKR (aY rfl (Dg [] ([]:List (Bs)) cL I9 rfl rfl rfl rfl rfl rfl (by decide)) ?_);rintro _ w1 ⟨⟨p1,c1,rfl⟩,ho1,hc1,hi1⟩;refine zm rfl (cD cL cL I9 (.inr ⟨_,rfl⟩) rfl rfl rfl (by decide) rfl (ho1) ((hs.mod0 hc1).src) rfl rfl (by simp;omega) ?_);rintro v2 w2 h2;refine za rfl (a8 (a6 (zrf ?_)));refine⟨h2.own,?_,hc1.t0 h2.mod (fun x hx=>hi1.ge x hx)⟩;exact h2.inn.mono (fun x hx=>.inr (hi1.ge x hx)) hc1.1
theorem D3(w:World)(p:Option Addr)(cap vb:Nat)(l:List (Bs))(a:Bs)(i:Nat)(hs:Own w (.slice p l.length cap) l)(hv:Blk w vb (Flat.enc a))(hne:vb∉ax (.slice p l.length cap))(hi:i<=l.length)(hl:l.length<=100000) :
  Ret Tryz.prog 202 #[.slice p l.length cap,.int .i64 i,.slice (some ⟨vb,0,none⟩) 1 1] w fun r w'=>Own w' r (l.take i++a::l.drop i)/\In r (ax (.slice p l.length cap)) w.heap.size/\Chg (ax (.slice p l.length cap)) w w':=by
 have hob6:=kz hi;obtain⟨htl,hdl⟩:=hob6;have hcl:l.length<=cap:=by obtain⟨p',c',he,h,_⟩:=hs;cases he;exact h
 refine enter [6] Tryz.func202 rfl rfl (al rfl) (zSR (za rfl (zNR (zmm rfl (bF rfl (eH i cL I9 rfl hs.sl rfl rfl rfl hi) ?_)))));rintro _ ⟨⟨p1,c1,rfl⟩,hs1,hb1⟩;refine zNR (zmv rfl (aA rfl cL) (za rfl (a8 (a6 (ae (zSR (zmv rfl (dB rfl rfl) (a8 (a6 (aK (rfl) (zKR (zmv rfl (aA rfl cL) (za rfl (a8 (a6 (ae (zSR (zmm rfl (a7 rfl (dB rfl rfl) (a8 (a6 ?_)))))))))))))))))))));by_cases hin:i=l.length
 ·subst hin;refine bM rfl (rfl) ?_;refine zSR (zmm rfl (cD cL cL I9 (.inr ⟨_,rfl⟩) rfl rfl rfl (by decide) rfl (hs) ((Blk.sl1 hv).src) rfl rfl (by simp;omega) ?_));rintro v2 w2 h2;refine za rfl (a8 (a6 (zrt ?_)));rw[cZ,rU];exact⟨h2.own,h2.inn,h2.mod⟩
 ·refine aI rfl (by omega) ?_;refine aw (a6 (ae (zSR (zmm rfl (a7 rfl (aB rfl rfl (by omega)) (zm rfl ?_))))));refine a7 rfl (gU rfl cL) (a7 rfl (dt rfl rfl) (a8 (a6 ?_)));by_cases hc:cap<l.length+1
  ·refine bM rfl (by omega) ?_;refine zSR (zmm rfl (a7 rfl (rY i cL I9 rfl rfl rfl (by omega)) ?_));refine zmm rfl (a7 rfl (aB rfl rfl (by omega)) (zmv rfl (bg rfl rfl (by omega)) ?_));have hs2:Sl w (.slice p i cap) (l.take i):=(hs.front hi).sl;refine aY rfl (qI (l.length+1-i) (([]:Bs)) cL uU3 I9 rfl rfl rfl (by decide) htl hs2 rfl rfl (by omega) (by omega) (by omega)) ?_;rintro v3 w3 ⟨ho3,hc3,hi3⟩;refine za rfl (zNR (zmm rfl ?_));have hL:(l.take i++List.replicate (l.length+1-i) (([]:Bs))).length=l.length+1:=by rw[aF,htl,cH];omega
   refine bF rfl (gO i cL I9 rfl ho3 rfl rfl rfl (by rw[hL];omega)) ?_;rintro v4 hsub4;refine zm rfl (dK rfl (dM cL I9 rfl ho3 hsub4 (by rw[hL];omega) ((Blk.sl1 hv).mod0 hc3).src rfl rfl) ?_);rintro w5 ⟨ho5,hc5,hs5⟩;refine a8 (a6 (ae ?_));rw[hL,show min ([a]:List (Bs)).length (l.length+1-i)=1 by simp;omega,kn (a:=l.take i) (j:=1) htl.symm rfl,j6,show([a]:List (Bs)).take 1=[a] from rfl] at ho5;have hL5:(l.take i++[a]++List.replicate (l.length+1-i-1) (([]:Bs))).length=l.length+1:=by rw[aF,aF,htl,cH,gq];omega
   have hc35:=hc3.t0 hc5 (fun x hx=>hi3.ge x hx);have hs5:=hs.sl.mod0 hc35;refine aG bz (.pure 0 (.pure 1 (.pure 2 (.pure 3 (.pure 4 (.pure 5 (.pure 6 (.pure 7 (.eff 8 [] .nil))))))))) (by kernel_rfl) ?_;refine ym rfl (ym rfl (ym rfl (yp rfl (fun _=>(aB rfl rfl (by omega))) ?_)));refine yex rfl (gO (i+1) cL I9 rfl ho5 rfl rfl (by omega) (by rw[hL5];omega)) ?_;rintro v6 hsub6;refine ym rfl (ym rfl (yex rfl (eH i cL I9 rfl hs5 rfl rfl rfl hi) ?_));rintro _ ⟨⟨p7,c7,rfl⟩,hs7,hb7⟩;refine bZ rfl rfl rfl (dM cL I9 rfl ho5 hsub6 (by rw[hL5];omega) ((hs7.mod0 (drw _)).src) rfl rfl) ?_;rintro w8 ⟨ho8,hc8,hs8⟩;refine⟨trivial,?_⟩;refine zPR (zma rfl (a8 (a6 (zrt ?_))));have hc8:Chg (ax v3) w5 w8:=hc8;rw[hL5,hdl,show min (l.length-i) (l.length+1-(i+1))=l.length-i by omega,kn (a:=l.take i++[a]) (j:=l.length-i) (by rw[aF,htl];rfl) (by rw[bA,hdl];omega),gb (l:=List.replicate (l.length+1-i-1) (([]:Bs))) (by rw[cH];omega),cy,bW (l:=l.drop i) (by omega),bO] at ho8;exact⟨ho8,fun x hx=>.inr (hi3.ge x hx),(hc35.t0 hc8 (fun x hx=>hi3.ge x hx)).mono (by simp)⟩
  ·refine aI rfl (by omega) ?_;refine zKR (zmm rfl (zmv rfl (aB rfl rfl (by omega)) ?_));obtain⟨b,off,rfl⟩:∃b off,p=some ⟨b,off,none⟩:=by
    obtain⟨p',c',he,_,h⟩:=hs;cases he;cases p with
    | none => have := h.2; omega
    | some ad => obtain ⟨b, off, sp⟩ := ad; obtain ⟨h1, _⟩ := h; simp only at h1; subst h1; exact ⟨b, off, rfl⟩
   have hob7:=zi hs;obtain⟨c,hR,hsz,hcl2⟩:=hob7;have hnb:vb≠b:=fun e=>hne (by rw[e];simp[ax]);have hsz':off+cap*1<=c.size:=hsz;have hroom1:off+(i+1)*Flat.sz (Bs)+(l.drop i).length*Flat.sz (Bs)<=c.size:=by
    rw[hdl]
    have:(i+1)*Flat.sz (Bs)+(l.length-i)*Flat.sz (Bs)<=cap*Flat.sz (Bs):=by rw[<-eV];exact ej _ (by omega)
    omega
   have hroom2:off+i*Flat.sz (Bs)+1*Flat.sz (Bs)<=c.size:=by
    have:i*Flat.sz (Bs)+1*Flat.sz (Bs)<=cap*Flat.sz (Bs):=by rw[<-eV];exact ej _ (by omega)
    omega
   refine a7 rfl (rY (l.length+1) cL I9 rfl rfl (by omega) (by omega)) ?_;refine za rfl (a8 (a6 (ae (zSR (zmm rfl (zmm rfl (a7 rfl (aB rfl rfl (by omega)) ?_)))))));refine a7 rfl (tI (i+1) cL I9 rfl rfl (by omega) (by omega) (by omega)) ?_;refine a7 rfl (Df Tryz.func238 (by kernel_rfl) rfl (by kernel_rfl) (e:=Extern.SlicesOverlaps.overlaps #[70,70] #[4]) (by kernel_rfl) (vh cL I9 hv hv.lt hnb hR (by omega))) ?_;refine a7 rfl (cA rfl) (a8 (a6 (bh (rfl) (ae ?_))));have hdc:∀q x,(bm (l.drop i))[q]?=some x->c[off+i*Flat.sz (Bs)+q]?=some x:=fun q x hq=>by
    rw[<-fb,lE] at hq;rw[mB];exact hcl2 _ _ hq
   refine aG bz (.pure 0 (.pure 1 (.pure 2 (.pure 3 (.pure 4 (.pure 5 (.pure 6 (.pure 7 (.eff 8 [] .nil))))))))) (by kernel_rfl) ?_;refine ym rfl (ym rfl (ym rfl (yp rfl (fun _=>(aB rfl rfl (by omega))) ?_)));refine yp rfl (fun _=>tI (i+1) cL I9 rfl rfl (by omega) (by omega) (by omega)) ?_;refine ym rfl (ym rfl (yp rfl (fun _=>tI i cL I9 rfl rfl rfl (by omega) (by omega)) ?_));refine bZ rfl rfl rfl (oz (m:=l.drop i) cL I9 rfl rfl rfl (by rw[hdl];omega) (hR.at hdc:At _ b (off+i*Flat.sz (Bs)) _) hR hroom1) ?_;rintro w2 ⟨hR2,hc2,hs2⟩;refine⟨trivial,?_⟩;refine zPR (zmm rfl ?_);have hc2:Chg [b] w w2:=hc2;have hR2:Row w2 b (gg c (off+(i+1)*Flat.sz (Bs)) (bm (l.drop i))):=hR2;refine a7 rfl (tI i cL I9 rfl rfl rfl (by omega) (by omega)) ?_;refine zm rfl (dK rfl (oz (m:=([a]:List (Bs))) cL I9 rfl rfl rfl (by simp;omega) ((hv.nb hc2 hnb).at (off:=0) (by rw[gL];simp[bm])) hR2 (by rw[cR];exact hroom2)) ?_);rintro w3 ⟨hR3,hc3,hs3⟩;refine zNR (zma rfl (a8 (a6 (zrt ?_))));have hR3:Row w3 b (gg (gg c (off+(i+1)*Flat.sz (Bs)) (bm (l.drop i))) (off+i*Flat.sz (Bs)) (Flat.enc a)):=by
    have:bm ([a]:List (Bs))=Flat.enc a:=by simp[bm]
    rw[<-this];exact hR3
   refine⟨hR3.own (by rw[aF,bY,htl,hdl];omega) (by rw[aF,bY,htl,hdl];omega) (by rw[cR,cR];exact hsz) (zc hi (by omega) hsz hcl2),fun x hx=>.inl hx,?_⟩;exact hc2.tr hc3
theorem D6(w:World)(p:Option Addr)(cap:Nat)(l:List (Bs))(i:Nat)(hs:Own w (.slice p l.length cap) l)(hi:i<l.length)(hl:l.length<=100000) :
  Ret Tryz.prog 210 #[.slice p l.length cap,.int .i64 i,.int .i64 ((i:Int)+1)] w fun r w'=>Own w' r (l.take i++l.drop (i+1))/\In r (ax (.slice p l.length cap)) w.heap.size/\Chg (ax (.slice p l.length cap)) w w':=by
 have hob8:=kz (mA hi);obtain⟨htl,_⟩:=hob8;have hob9:=kz (show i+1<=l.length from hi);obtain⟨_,hdl⟩:=hob9;have hcl:l.length<=cap:=by obtain⟨p',c',he,h,_⟩:=hs;cases he;exact h
 refine enter [6] Tryz.func210 rfl rfl (al rfl) (zSR (za rfl (zNR (zmm rfl (zmm rfl (a7 rfl (aA rfl cL) (bF rfl (Bz cL I9 rfl rfl rfl rfl (by omega) (by omega) (by omega)) ?_)))))));rintro _ _;refine a8 (a6 (ae (zSR (zmm rfl (a7 rfl (dB rfl rfl) (a8 (a6 (aI rfl (by omega) ?_))))))));refine zKR (zmv rfl (aA rfl cL) (za rfl ?_));refine a8 (a6 (ae (aG bz (.pure 0 (.pure 1 (.pure 2 (.pure 3 (.pure 4 (.pure 5 (.eff 6 [] (.pure 7 .nil)))))))) (by kernel_rfl) ?_)));refine ym rfl (ym rfl (yp rfl (fun _=>rY i cL I9 rfl rfl rfl (by omega)) ?_));refine ym rfl (ym rfl (yex rfl (eH (i+1) cL I9 rfl hs.sl rfl rfl (by omega) (by omega)) ?_));rintro _ ⟨⟨p2,c2,rfl⟩,hs2,hb2⟩;refine eC rfl (yK (n:=i) (q:=l.length-(i+1)) cL cL (.inr ⟨_,rfl⟩) I9 rfl htl hdl (hs.front (mA hi)) ((hs2.mod0 (drw _)).src) rfl rfl (by omega)) ?_;rintro _ w3 ⟨rfl,ho3,hc3,hs3⟩;refine⟨trivial,?_⟩;refine ya rfl (zPR (zmm rfl (a7 rfl (aA rfl cL) (zm rfl ?_))));have hbe:∀n,ax (.slice p n cap)=ax (.slice p l.length cap):=fun n=>qm;have hc3:Chg (ax (.slice p i cap)) w w3:=hc3;rw[hbe] at hc3;have hL:(l.take i++l.drop (i+1)).length=i+(l.length-(i+1)):=by rw[aF,htl,hdl]
 refine a7 rfl (Bt (i+(l.length-(i+1))) 1 cL I9 rfl rfl rfl rfl (by omega) (by omega)) ?_;refine dK rfl (uK (([]:Bs)) cL I9 rfl rfl rfl hL ho3 rfl (by omega)) ?_;rintro w4 ⟨ho4,hc4,hs4⟩;refine zNR (zma rfl (a8 (a6 (zrf ?_))));rw[hbe] at hc4;exact⟨ho4,fun x hx=>.inl (by rw[<-hbe (i+(l.length-(i+1)))];exact hx),hc3.tr hc4⟩
theorem HS(w:World)(n:Nat)(hn:n<=100000) :
  Ret Tryz.prog 243 #[.slice none 0 0,.int .i64 n] w fun r w'=>Own w' r ([]:List (Bs))/\In r [] w.heap.size/\Chg [] w w':=by
 refine enter [4] Tryz.func243 rfl rfl (al rfl) (zSR (za rfl (a8 (a6 (ae (zSR (zmv rfl (bL rfl rfl) (a8 (a6 (aI rfl (by omega) ?_))))))))));refine aw (a6 (ae (zSR (zmm rfl (a7 rfl (gU rfl cL) ?_)))));refine zmv rfl (aA rfl cL) (a7 rfl (bg rfl rfl (by omega)) (a7 rfl (bg rfl rfl (by omega)) (za rfl ?_)));refine zNR (zmv rfl (dt rfl rfl) (a8 (a6 ?_)));by_cases h0:n=0
 ·refine aI rfl (by omega) ?_;refine zKR (zma rfl (a8 (a6 (zrf ?_))));exact⟨Own.nil _,In.nil,Chg.refl _⟩
 ·refine bM rfl (by omega) ?_;refine ag (zmm rfl (a7 rfl (gU rfl cL) ?_));refine a7 rfl (rY 0 cL I9 rfl rfl rfl (by omega)) ?_;refine zm rfl (aY rfl (qI (n:=0) (l:=([]:List (Bs))) n (([]:Bs)) cL uU3 I9 rfl rfl rfl (by decide) rfl (Sl.nil w 0) rfl rfl (by omega) (by omega) (by omega)) ?_);rintro v3 w3 ⟨ho3,hc3,hi3⟩;refine zmv rfl (aA rfl cL) ?_;have hob10:=ho3.sl.form rfl;obtain⟨p3,c3,hf3⟩:=hob10;subst hf3;have hfr:=ho3.front (eO _);have hib:In (.slice p3 0 c3) [] w.heap.size:=fun x hx=>hi3 x (by rw[qm (l':=0) (c':=c3)];exact hx);refine a7 rfl (rY 0 cL I9 rfl rfl rfl (by omega)) ?_;refine za rfl (zNR (zma rfl (a8 (a6 (zrf ?_)))));exact⟨hfr,hib,hc3⟩
theorem qp(w:World)(v:Value)(L:List iQ)(ls:List (List (Bs)))(hv:Sl w v L)(hlen:ls.length=L.length)(hls:∀(i:Nat) (s:iQ) (l:List (Bs)),L[i]?=some s->ls[i]?=some l->Sl w s.1 l)(hn:ls.flatten.length<=100000)(hL:L.length<=1000) :
  Ret Tryz.prog 212 #[v] w fun r w'=>Own w' r ls.flatten/\In r [] w.heap.size/\Chg [] w w':=by
 have hob11:=hv.form rfl;obtain⟨p,cp,rfl⟩:=hob11;have hup:∀i l,ls[i]?=some l->(ls.take (i+1)).flatten=(ls.take i).flatten++l:=fun i l h=>by
  have hob12:=List.getElem?_eq_some_iff.1 h;obtain⟨q,rfl⟩:=hob12;rw[<-fG q,lF];simp
 have hle:∀i,(ls.take i).flatten.length<=ls.flatten.length:=fun i=>by
  have h:=congrArg List.length (congrArg List.flatten (eW i ls));rw[lF,aF] at h;omega
 refine enter [2] Tryz.func212 rfl rfl (al rfl) (zSR (za rfl (zNR (za rfl (a8 (a6 (ae (zSR (zmv rfl (aA rfl xz) (zm rfl (a8 (a6 (aq (bf [0,3,9,10,11] (fun m vs w'=>∃i:Nat,vs=[.slice p L.length cp,.int .i64 (ls.take i).flatten.length,.slice p L.length cp,.int .i64 L.length,.int .i64 i]/\i+m=L.length/\Chg [] w w') (L.length) ?_ ?_))))))))))))))
 ·exact⟨0,rfl,by omega,Chg.refl _⟩
 ·rintro m vs J w1 ⟨i,rfl,hi,hc1⟩;refine zSR (a7 rfl (bL rfl rfl) ?_);refine a8 (a6 (ae (az rfl (fun hlt=>?_) (fun hlt=>?_))))
  ·refine aw (a6 (ae (aq (ae (ag ?_)))));have hob13:∃q,m=q+1:=⟨m-1,by omega⟩
   obtain⟨m,rfl⟩:=hob13;have hob14:∃s,L[i]?=some s:=⟨_,bX (by omega)⟩
   obtain⟨s,hs⟩:=hob14;have hob15:∃l,ls[i]?=some l:=⟨_,bX (by omega)⟩
   obtain⟨l,hl⟩:=hob15;have hob16:=(hls i s l hs hl).form rfl;obtain⟨ps,cs,hsf⟩:=hob16;have hfl:=congrArg List.length (hup i l hl);rw[aF] at hfl;have hle1:=hle (i+1);have hv1:=hv.mod0 hc1;refine bF rfl (aU (i) xz I70 rfl (hv1) rfl rfl (by first|rfl|omega) (by omega)) ?_;rintro _ ⟨bi,oi,rfl,hei,hbi⟩;refine a7 rfl (aC cL rfl rfl (((hv1.at hei hs).c0 (congrArg some hsf):_=some (Value.slice ps l.length cs)))) ?_;refine za rfl (zNR (zmm rfl (a7 rfl (aA rfl cL) (a7 rfl (aB rfl rfl (by omega)) (za rfl ?_)))));refine zNR (zmv rfl (bL rfl rfl) (a8 (a6 (aI rfl (by omega) ?_))));refine aw (ay (a6 (ag (a7 rfl (aB rfl rfl (by omega)) (zm rfl ?_)))));refine a8 (a6 (aS (m) (bx (by omega) ?_)));refine⟨i+1,au rfl (au (bH ?_) (au rfl (au rfl (au rfl bK)))),by omega,hc1⟩;omega
  ·refine aO (an (an (aE (a6 (zSR (zm rfl ?_))))));have hil:i=L.length:=by omega
   subst hil;rw[<-hlen,cZ];refine ah rfl C243 (HS _ ls.flatten.length hn) ?_;rintro v2 w2 ⟨ho2,hi2,hc2⟩;refine za rfl (a8 (a6 (ae (zSR (zmv rfl (aA rfl xz) (zm rfl (a8 (a6 (aq ?_)))))))));have hc02:=hc1.tr hc2;refine bf [6,25,26,27] (fun m vs w'=>∃(i:Nat) (ov:Value),vs=[ov,.slice p L.length cp,.int .i64 L.length,.int .i64 i]/\i+m=ls.length/\Chg [] w w'/\Own w' ov (ls.take i).flatten/\In ov [] w.heap.size) (ls.length) ?_ ?_
   ·exact⟨0,v2,by rw[hlen];rfl,by omega,hc02,ho2,hi2.mono (fun _ h=>.inl h) hc1.1⟩
   ·rintro m vs J w3 ⟨i,ov,rfl,hi3,hc3,ho3,hi3n⟩;refine zSR (a7 rfl (bL rfl rfl) ?_);refine a8 (a6 (ae (az rfl (fun hlt=>?_) (fun hlt=>?_))))
    ·refine aw (a6 (ae (aq (ae (ag ?_)))));have hob17:∃q,m=q+1:=⟨m-1,by omega⟩
     obtain⟨m,rfl⟩:=hob17;have hob18:∃s,L[i]?=some s:=⟨_,bX (by omega)⟩
     obtain⟨s,hs⟩:=hob18;have hob19:∃l,ls[i]?=some l:=⟨_,bX (by omega)⟩
     obtain⟨l,hl⟩:=hob19;have hsl:=hls i s l hs hl;have hob20:=hsl.form rfl;obtain⟨ps,cs,hsf⟩:=hob20;rw[hsf] at hsl;have hfl:=congrArg List.length (hup i l hl);rw[aF] at hfl;have hle1:=hle (i+1);have hv3:=hv.mod0 hc3;refine bF rfl (aU (i) xz I70 rfl (hv3) rfl rfl (by first|rfl|omega) (by omega)) ?_;rintro _ ⟨bi,oi,rfl,hei,hbi⟩;refine a7 rfl (aC cL rfl rfl (((hv3.at hei hs).c0 (congrArg some hsf):_=some (Value.slice ps l.length cs)))) ?_;refine za rfl (a8 (a6 (ag (zmm rfl (cD cL cL I9 (.inr ⟨_,rfl⟩) rfl rfl rfl (by decide) rfl (ho3) ((hsl.mod0 hc3).src) rfl rfl (by omega) ?_)))));rintro v4 w4 h4;refine za rfl (a8 (ay (a6 (ag (a7 rfl (aB rfl rfl (by omega)) (zm rfl ?_))))));refine a8 (a6 ?_);have k1:=hc1.1;have k3:=hc3.1;refine aS (m) (bx (by omega) ?_);refine⟨i+1,v4,rfl,by omega,hc3.t0 h4.mod (fun x hx=>by have:=hi3n.ge x hx;omega),by rw[hup i l hl];exact h4.own,fun x hx=>.inr ?_⟩;rcases h4.inn x hx with q|q
     ·exact hi3n.ge x q
     ·omega
    ·refine aO (an (an (aE (a6 (zSR (zma rfl (a8 (a6 (zrf ?_)))))))));have hil:i=ls.length:=by omega
     subst hil;rw[cZ] at ho3;exact⟨ho3,hi3n,hc3⟩
theorem qq(w:World)(v:Value)(l:List (UInt32))(hs:Sl w v l)(hl:l.length<=100000) :
  Ret Tryz.prog 200 #[v] w fun r w'=>Own w' r l/\In r [] w.heap.size/\Chg [] w w':=by
 have hob21:=hs.form rfl;obtain⟨p,cp,rfl⟩:=hob21;refine enter [2] Tryz.func200 rfl rfl (al rfl) (zSR (za rfl (a8 (a6 (ae (zSR (zm rfl ?_)))))));cases p with
 | none =>
  have hnil:l=[]:=by obtain⟨p,c,he,_,h⟩:=hs;cases he;exact h
  skip
  refine a7 rfl (kT aX rfl rfl (.inl rfl)) (a8 (a6 (bh (rfl) (zSR (za rfl (a8 (a6 (zrt ?_))))))));subst hnil;exact⟨Own.nil _,In.nil,Chg.refl _⟩
 | some ad =>
  skip
  refine a7 rfl (kT aX rfl rfl (.inr rfl)) (a8 (a6 (aK (congrArg Value.bool (decide_eq_false (by simp))) ?_)));refine zKR (aY rfl (Dg [] ([]:List (UInt32)) aX I25 rfl rfl rfl rfl rfl rfl (by decide)) ?_);rintro _ w1 ⟨⟨p1,c1,rfl⟩,ho1,hc1,hi1⟩;refine zm rfl (cD aX aX I25 (.inr ⟨_,rfl⟩) rfl rfl rfl (by decide) rfl (ho1) ((hs.mod0 hc1).src) rfl rfl (by simp;omega) ?_);rintro v2 w2 h2;refine za rfl (a8 (a6 (zrf ?_)));refine⟨h2.own,?_,hc1.t0 h2.mod (fun x hx=>hi1.ge x hx)⟩;exact h2.inn.mono (fun x hx=>.inr (hi1.ge x hx)) hc1.1
theorem D2(w:World)(p:Option Addr)(cap vb:Nat)(l:List (UInt32))(a:UInt32)(i:Nat)(hs:Own w (.slice p l.length cap) l)(hv:Blk w vb (Flat.enc a))(hne:vb∉ax (.slice p l.length cap))(hi:i<=l.length)(hl:l.length<=100000) :
  Ret Tryz.prog 204 #[.slice p l.length cap,.int .i64 i,.slice (some ⟨vb,0,none⟩) 1 1] w fun r w'=>Own w' r (l.take i++a::l.drop i)/\In r (ax (.slice p l.length cap)) w.heap.size/\Chg (ax (.slice p l.length cap)) w w':=by
 have hob22:=kz hi;obtain⟨htl,hdl⟩:=hob22;have hcl:l.length<=cap:=by obtain⟨p',c',he,h,_⟩:=hs;cases he;exact h
 refine enter [6] Tryz.func204 rfl rfl (al rfl) (zSR (za rfl (zNR (zmm rfl (bF rfl (eH i aX I25 rfl hs.sl rfl rfl rfl hi) ?_)))));rintro _ ⟨⟨p1,c1,rfl⟩,hs1,hb1⟩;refine zNR (zmv rfl (aA rfl aX) (za rfl (a8 (a6 (ae (zSR (zmv rfl (dB rfl rfl) (a8 (a6 (aK (rfl) (zKR (zmv rfl (aA rfl aX) (za rfl (a8 (a6 (ae (zSR (zmm rfl (a7 rfl (dB rfl rfl) (a8 (a6 ?_)))))))))))))))))))));by_cases hin:i=l.length
 ·subst hin;refine bM rfl (rfl) ?_;refine zSR (zmm rfl (cD aX aX I25 (.inr ⟨_,rfl⟩) rfl rfl rfl (by decide) rfl (hs) ((Blk.sl1 hv).src) rfl rfl (by simp;omega) ?_));rintro v2 w2 h2;refine za rfl (a8 (a6 (zrt ?_)));rw[cZ,rU];exact⟨h2.own,h2.inn,h2.mod⟩
 ·refine aI rfl (by omega) ?_;refine aw (a6 (ae (zSR (zmm rfl (a7 rfl (aB rfl rfl (by omega)) (zm rfl ?_))))));refine a7 rfl (gU rfl aX) (a7 rfl (dt rfl rfl) (a8 (a6 ?_)));by_cases hc:cap<l.length+1
  ·refine bM rfl (by omega) ?_;refine zSR (zmm rfl (a7 rfl (rY i aX I25 rfl rfl rfl (by omega)) ?_));refine zmm rfl (a7 rfl (aB rfl rfl (by omega)) (zmv rfl (bg rfl rfl (by omega)) ?_));have hs2:Sl w (.slice p i cap) (l.take i):=(hs.front hi).sl;refine aY rfl (qI (l.length+1-i) ((0:UInt32)) aX uU3 I25 rfl rfl rfl (by decide) htl hs2 rfl rfl (by omega) (by omega) (by omega)) ?_;rintro v3 w3 ⟨ho3,hc3,hi3⟩;refine za rfl (zNR (zmm rfl ?_));have hL:(l.take i++List.replicate (l.length+1-i) ((0:UInt32))).length=l.length+1:=by rw[aF,htl,cH];omega
   refine bF rfl (gO i aX I25 rfl ho3 rfl rfl rfl (by rw[hL];omega)) ?_;rintro v4 hsub4;refine zm rfl (dK rfl (dM aX I25 rfl ho3 hsub4 (by rw[hL];omega) ((Blk.sl1 hv).mod0 hc3).src rfl rfl) ?_);rintro w5 ⟨ho5,hc5,hs5⟩;refine a8 (a6 (ae ?_));rw[hL,show min ([a]:List (UInt32)).length (l.length+1-i)=1 by simp;omega,kn (a:=l.take i) (j:=1) htl.symm rfl,j6,show([a]:List (UInt32)).take 1=[a] from rfl] at ho5;have hL5:(l.take i++[a]++List.replicate (l.length+1-i-1) ((0:UInt32))).length=l.length+1:=by rw[aF,aF,htl,cH,gq];omega
   have hc35:=hc3.t0 hc5 (fun x hx=>hi3.ge x hx);have hs5:=hs.sl.mod0 hc35;refine aG bz (.pure 0 (.pure 1 (.pure 2 (.pure 3 (.pure 4 (.pure 5 (.pure 6 (.pure 7 (.eff 8 [] .nil))))))))) (by kernel_rfl) ?_;refine ym rfl (ym rfl (ym rfl (yp rfl (fun _=>(aB rfl rfl (by omega))) ?_)));refine yex rfl (gO (i+1) aX I25 rfl ho5 rfl rfl (by omega) (by rw[hL5];omega)) ?_;rintro v6 hsub6;refine ym rfl (ym rfl (yex rfl (eH i aX I25 rfl hs5 rfl rfl rfl hi) ?_));rintro _ ⟨⟨p7,c7,rfl⟩,hs7,hb7⟩;refine bZ rfl rfl rfl (dM aX I25 rfl ho5 hsub6 (by rw[hL5];omega) ((hs7.mod0 (drw _)).src) rfl rfl) ?_;rintro w8 ⟨ho8,hc8,hs8⟩;refine⟨trivial,?_⟩;refine zPR (zma rfl (a8 (a6 (zrt ?_))));have hc8:Chg (ax v3) w5 w8:=hc8;rw[hL5,hdl,show min (l.length-i) (l.length+1-(i+1))=l.length-i by omega,kn (a:=l.take i++[a]) (j:=l.length-i) (by rw[aF,htl];rfl) (by rw[bA,hdl];omega),gb (l:=List.replicate (l.length+1-i-1) ((0:UInt32))) (by rw[cH];omega),cy,bW (l:=l.drop i) (by omega),bO] at ho8;exact⟨ho8,fun x hx=>.inr (hi3.ge x hx),(hc35.t0 hc8 (fun x hx=>hi3.ge x hx)).mono (by simp)⟩
  ·refine aI rfl (by omega) ?_;refine zKR (zmm rfl (zmv rfl (aB rfl rfl (by omega)) ?_));obtain⟨b,off,rfl⟩:∃b off,p=some ⟨b,off,none⟩:=by
    obtain⟨p',c',he,_,h⟩:=hs;cases he;cases p with
    | none => have := h.2; omega
    | some ad => obtain ⟨b, off, sp⟩ := ad; obtain ⟨h1, _⟩ := h; simp only at h1; subst h1; exact ⟨b, off, rfl⟩
   have hob23:=zi hs;obtain⟨c,hR,hsz,hcl2⟩:=hob23;have hnb:vb≠b:=fun e=>hne (by rw[e];simp[ax]);have hsz':off+cap*1<=c.size:=hsz;have hroom1:off+(i+1)*Flat.sz (UInt32)+(l.drop i).length*Flat.sz (UInt32)<=c.size:=by
    rw[hdl]
    have:(i+1)*Flat.sz (UInt32)+(l.length-i)*Flat.sz (UInt32)<=cap*Flat.sz (UInt32):=by rw[<-eV];exact ej _ (by omega)
    omega
   have hroom2:off+i*Flat.sz (UInt32)+1*Flat.sz (UInt32)<=c.size:=by
    have:i*Flat.sz (UInt32)+1*Flat.sz (UInt32)<=cap*Flat.sz (UInt32):=by rw[<-eV];exact ej _ (by omega)
    omega
   refine a7 rfl (rY (l.length+1) aX I25 rfl rfl (by omega) (by omega)) ?_;refine za rfl (a8 (a6 (ae (zSR (zmm rfl (zmm rfl (a7 rfl (aB rfl rfl (by omega)) ?_)))))));refine a7 rfl (tI (i+1) aX I25 rfl rfl (by omega) (by omega) (by omega)) ?_;refine a7 rfl (Df Tryz.func240 (by kernel_rfl) rfl (by kernel_rfl) (e:=Extern.SlicesOverlaps.overlaps #[41,41] #[4]) (by kernel_rfl) (vh aX I25 hv hv.lt hnb hR (by omega))) ?_;refine a7 rfl (cA rfl) (a8 (a6 (bh (rfl) (ae ?_))));have hdc:∀q x,(bm (l.drop i))[q]?=some x->c[off+i*Flat.sz (UInt32)+q]?=some x:=fun q x hq=>by
    rw[<-fb,lE] at hq;rw[mB];exact hcl2 _ _ hq
   refine aG bz (.pure 0 (.pure 1 (.pure 2 (.pure 3 (.pure 4 (.pure 5 (.pure 6 (.pure 7 (.eff 8 [] .nil))))))))) (by kernel_rfl) ?_;refine ym rfl (ym rfl (ym rfl (yp rfl (fun _=>(aB rfl rfl (by omega))) ?_)));refine yp rfl (fun _=>tI (i+1) aX I25 rfl rfl (by omega) (by omega) (by omega)) ?_;refine ym rfl (ym rfl (yp rfl (fun _=>tI i aX I25 rfl rfl rfl (by omega) (by omega)) ?_));refine bZ rfl rfl rfl (oz (m:=l.drop i) aX I25 rfl rfl rfl (by rw[hdl];omega) (hR.at hdc:At _ b (off+i*Flat.sz (UInt32)) _) hR hroom1) ?_;rintro w2 ⟨hR2,hc2,hs2⟩;refine⟨trivial,?_⟩;refine zPR (zmm rfl ?_);have hc2:Chg [b] w w2:=hc2;have hR2:Row w2 b (gg c (off+(i+1)*Flat.sz (UInt32)) (bm (l.drop i))):=hR2;refine a7 rfl (tI i aX I25 rfl rfl rfl (by omega) (by omega)) ?_;refine zm rfl (dK rfl (oz (m:=([a]:List (UInt32))) aX I25 rfl rfl rfl (by simp;omega) ((hv.nb hc2 hnb).at (off:=0) (by rw[gL];simp[bm])) hR2 (by rw[cR];exact hroom2)) ?_);rintro w3 ⟨hR3,hc3,hs3⟩;refine zNR (zma rfl (a8 (a6 (zrt ?_))));have hR3:Row w3 b (gg (gg c (off+(i+1)*Flat.sz (UInt32)) (bm (l.drop i))) (off+i*Flat.sz (UInt32)) (Flat.enc a)):=by
    have:bm ([a]:List (UInt32))=Flat.enc a:=by simp[bm]
    rw[<-this];exact hR3
   refine⟨hR3.own (by rw[aF,bY,htl,hdl];omega) (by rw[aF,bY,htl,hdl];omega) (by rw[cR,cR];exact hsz) (zc hi (by omega) hsz hcl2),fun x hx=>.inl hx,?_⟩;exact hc2.tr hc3
theorem D5(w:World)(p:Option Addr)(cap:Nat)(l:List (UInt32))(i:Nat)(hs:Own w (.slice p l.length cap) l)(hi:i<l.length)(hl:l.length<=100000) :
  Ret Tryz.prog 211 #[.slice p l.length cap,.int .i64 i,.int .i64 ((i:Int)+1)] w fun r w'=>Own w' r (l.take i++l.drop (i+1))/\In r (ax (.slice p l.length cap)) w.heap.size/\Chg (ax (.slice p l.length cap)) w w':=by
 have hob24:=kz (mA hi);obtain⟨htl,_⟩:=hob24;have hob25:=kz (show i+1<=l.length from hi);obtain⟨_,hdl⟩:=hob25;have hcl:l.length<=cap:=by obtain⟨p',c',he,h,_⟩:=hs;cases he;exact h
 refine enter [6] Tryz.func211 rfl rfl (al rfl) (zSR (za rfl (zNR (zmm rfl (zmm rfl (a7 rfl (aA rfl aX) (bF rfl (Bz aX I25 rfl rfl rfl rfl (by omega) (by omega) (by omega)) ?_)))))));rintro _ _;refine a8 (a6 (ae (zSR (zmm rfl (a7 rfl (dB rfl rfl) (a8 (a6 (aI rfl (by omega) ?_))))))));refine zKR (zmv rfl (aA rfl aX) (za rfl ?_));refine a8 (a6 (ae (aG bz (.pure 0 (.pure 1 (.pure 2 (.pure 3 (.pure 4 (.pure 5 (.eff 6 [] (.pure 7 .nil)))))))) (by kernel_rfl) ?_)));refine ym rfl (ym rfl (yp rfl (fun _=>rY i aX I25 rfl rfl rfl (by omega)) ?_));refine ym rfl (ym rfl (yex rfl (eH (i+1) aX I25 rfl hs.sl rfl rfl (by omega) (by omega)) ?_));rintro _ ⟨⟨p2,c2,rfl⟩,hs2,hb2⟩;refine eC rfl (yK (n:=i) (q:=l.length-(i+1)) aX aX (.inr ⟨_,rfl⟩) I25 rfl htl hdl (hs.front (mA hi)) ((hs2.mod0 (drw _)).src) rfl rfl (by omega)) ?_;rintro _ w3 ⟨rfl,ho3,hc3,hs3⟩;refine⟨trivial,?_⟩;refine ya rfl (zPR (zmm rfl (a7 rfl (aA rfl aX) (zm rfl ?_))));have hbe:∀n,ax (.slice p n cap)=ax (.slice p l.length cap):=fun n=>qm;have hc3:Chg (ax (.slice p i cap)) w w3:=hc3;rw[hbe] at hc3;have hL:(l.take i++l.drop (i+1)).length=i+(l.length-(i+1)):=by rw[aF,htl,hdl]
 refine a7 rfl (Bt (i+(l.length-(i+1))) 1 aX I25 rfl rfl rfl rfl (by omega) (by omega)) ?_;refine dK rfl (uK ((0:UInt32)) aX I25 rfl rfl rfl hL ho3 rfl (by omega)) ?_;rintro w4 ⟨ho4,hc4,hs4⟩;refine zNR (zma rfl (a8 (a6 (zrf ?_))));rw[hbe] at hc4;exact⟨ho4,fun x hx=>.inl (by rw[<-hbe (i+(l.length-(i+1)))];exact hx),hc3.tr hc4⟩
theorem HR(w:World)(n:Nat)(hn:n<=100000) :
  Ret Tryz.prog 244 #[.slice none 0 0,.int .i64 n] w fun r w'=>Own w' r ([]:List (UInt32))/\In r [] w.heap.size/\Chg [] w w':=by
 refine enter [4] Tryz.func244 rfl rfl (al rfl) (zSR (za rfl (a8 (a6 (ae (zSR (zmv rfl (bL rfl rfl) (a8 (a6 (aI rfl (by omega) ?_))))))))));refine aw (a6 (ae (zSR (zmm rfl (a7 rfl (gU rfl aX) ?_)))));refine zmv rfl (aA rfl aX) (a7 rfl (bg rfl rfl (by omega)) (a7 rfl (bg rfl rfl (by omega)) (za rfl ?_)));refine zNR (zmv rfl (dt rfl rfl) (a8 (a6 ?_)));by_cases h0:n=0
 ·refine aI rfl (by omega) ?_;refine zKR (zma rfl (a8 (a6 (zrf ?_))));exact⟨Own.nil _,In.nil,Chg.refl _⟩
 ·refine bM rfl (by omega) ?_;refine ag (zmm rfl (a7 rfl (gU rfl aX) ?_));refine a7 rfl (rY 0 aX I25 rfl rfl rfl (by omega)) ?_;refine zm rfl (aY rfl (qI (n:=0) (l:=([]:List (UInt32))) n ((0:UInt32)) aX uU3 I25 rfl rfl rfl (by decide) rfl (Sl.nil w 0) rfl rfl (by omega) (by omega) (by omega)) ?_);rintro v3 w3 ⟨ho3,hc3,hi3⟩;refine zmv rfl (aA rfl aX) ?_;have hob26:=ho3.sl.form rfl;obtain⟨p3,c3,hf3⟩:=hob26;subst hf3;have hfr:=ho3.front (eO _);have hib:In (.slice p3 0 c3) [] w.heap.size:=fun x hx=>hi3 x (by rw[qm (l':=0) (c':=c3)];exact hx);refine a7 rfl (rY 0 aX I25 rfl rfl rfl (by omega)) ?_;refine za rfl (zNR (zma rfl (a8 (a6 (zrf ?_)))));exact⟨hfr,hib,hc3⟩
theorem qo(w:World)(v:Value)(L:List iQ)(ls:List (List (UInt32)))(hv:Sl w v L)(hlen:ls.length=L.length)(hls:∀(i:Nat) (s:iQ) (l:List (UInt32)),L[i]?=some s->ls[i]?=some l->Sl w s.1 l)(hn:ls.flatten.length<=100000)(hL:L.length<=1000) :
  Ret Tryz.prog 213 #[v] w fun r w'=>Own w' r ls.flatten/\In r [] w.heap.size/\Chg [] w w':=by
 have hob27:=hv.form rfl;obtain⟨p,cp,rfl⟩:=hob27;have hup:∀i l,ls[i]?=some l->(ls.take (i+1)).flatten=(ls.take i).flatten++l:=fun i l h=>by
  have hob28:=List.getElem?_eq_some_iff.1 h;obtain⟨q,rfl⟩:=hob28;rw[<-fG q,lF];simp
 have hle:∀i,(ls.take i).flatten.length<=ls.flatten.length:=fun i=>by
  have h:=congrArg List.length (congrArg List.flatten (eW i ls));rw[lF,aF] at h;omega
 refine enter [2] Tryz.func213 rfl rfl (al rfl) (zSR (za rfl (zNR (za rfl (a8 (a6 (ae (zSR (zmv rfl (aA rfl uW) (zm rfl (a8 (a6 (aq (bf [0,3,9,10,11] (fun m vs w'=>∃i:Nat,vs=[.slice p L.length cp,.int .i64 (ls.take i).flatten.length,.slice p L.length cp,.int .i64 L.length,.int .i64 i]/\i+m=L.length/\Chg [] w w') (L.length) ?_ ?_))))))))))))))
 ·exact⟨0,rfl,by omega,Chg.refl _⟩
 ·rintro m vs J w1 ⟨i,rfl,hi,hc1⟩;refine zSR (a7 rfl (bL rfl rfl) ?_);refine a8 (a6 (ae (az rfl (fun hlt=>?_) (fun hlt=>?_))))
  ·refine aw (a6 (ae (aq (ae (ag ?_)))));have hob29:∃q,m=q+1:=⟨m-1,by omega⟩
   obtain⟨m,rfl⟩:=hob29;have hob30:∃s,L[i]?=some s:=⟨_,bX (by omega)⟩
   obtain⟨s,hs⟩:=hob30;have hob31:∃l,ls[i]?=some l:=⟨_,bX (by omega)⟩
   obtain⟨l,hl⟩:=hob31;have hob32:=(hls i s l hs hl).form rfl;obtain⟨ps,cs,hsf⟩:=hob32;have hfl:=congrArg List.length (hup i l hl);rw[aF] at hfl;have hle1:=hle (i+1);have hv1:=hv.mod0 hc1;refine bF rfl (aU (i) uW I41 rfl (hv1) rfl rfl (by first|rfl|omega) (by omega)) ?_;rintro _ ⟨bi,oi,rfl,hei,hbi⟩;refine a7 rfl (aC aX rfl rfl (((hv1.at hei hs).c0 (congrArg some hsf):_=some (Value.slice ps l.length cs)))) ?_;refine za rfl (zNR (zmm rfl (a7 rfl (aA rfl aX) (a7 rfl (aB rfl rfl (by omega)) (za rfl ?_)))));refine zNR (zmv rfl (bL rfl rfl) (a8 (a6 (aI rfl (by omega) ?_))));refine aw (ay (a6 (ag (a7 rfl (aB rfl rfl (by omega)) (zm rfl ?_)))));refine a8 (a6 (aS (m) (bx (by omega) ?_)));refine⟨i+1,au rfl (au (bH ?_) (au rfl (au rfl (au rfl bK)))),by omega,hc1⟩;omega
  ·refine aO (an (an (aE (a6 (zSR (zm rfl ?_))))));have hil:i=L.length:=by omega
   subst hil;rw[<-hlen,cZ];refine ah rfl C244 (HR _ ls.flatten.length hn) ?_;rintro v2 w2 ⟨ho2,hi2,hc2⟩;refine za rfl (a8 (a6 (ae (zSR (zmv rfl (aA rfl uW) (zm rfl (a8 (a6 (aq ?_)))))))));have hc02:=hc1.tr hc2;refine bf [6,25,26,27] (fun m vs w'=>∃(i:Nat) (ov:Value),vs=[ov,.slice p L.length cp,.int .i64 L.length,.int .i64 i]/\i+m=ls.length/\Chg [] w w'/\Own w' ov (ls.take i).flatten/\In ov [] w.heap.size) (ls.length) ?_ ?_
   ·exact⟨0,v2,by rw[hlen];rfl,by omega,hc02,ho2,hi2.mono (fun _ h=>.inl h) hc1.1⟩
   ·rintro m vs J w3 ⟨i,ov,rfl,hi3,hc3,ho3,hi3n⟩;refine zSR (a7 rfl (bL rfl rfl) ?_);refine a8 (a6 (ae (az rfl (fun hlt=>?_) (fun hlt=>?_))))
    ·refine aw (a6 (ae (aq (ae (ag ?_)))));have hob33:∃q,m=q+1:=⟨m-1,by omega⟩
     obtain⟨m,rfl⟩:=hob33;have hob34:∃s,L[i]?=some s:=⟨_,bX (by omega)⟩
     obtain⟨s,hs⟩:=hob34;have hob35:∃l,ls[i]?=some l:=⟨_,bX (by omega)⟩
     obtain⟨l,hl⟩:=hob35;have hsl:=hls i s l hs hl;have hob36:=hsl.form rfl;obtain⟨ps,cs,hsf⟩:=hob36;rw[hsf] at hsl;have hfl:=congrArg List.length (hup i l hl);rw[aF] at hfl;have hle1:=hle (i+1);have hv3:=hv.mod0 hc3;refine bF rfl (aU (i) uW I41 rfl (hv3) rfl rfl (by first|rfl|omega) (by omega)) ?_;rintro _ ⟨bi,oi,rfl,hei,hbi⟩;refine a7 rfl (aC aX rfl rfl (((hv3.at hei hs).c0 (congrArg some hsf):_=some (Value.slice ps l.length cs)))) ?_;refine za rfl (a8 (a6 (ag (zmm rfl (cD aX aX I25 (.inr ⟨_,rfl⟩) rfl rfl rfl (by decide) rfl (ho3) ((hsl.mod0 hc3).src) rfl rfl (by omega) ?_)))));rintro v4 w4 h4;refine za rfl (a8 (ay (a6 (ag (a7 rfl (aB rfl rfl (by omega)) (zm rfl ?_))))));refine a8 (a6 ?_);have k1:=hc1.1;have k3:=hc3.1;refine aS (m) (bx (by omega) ?_);refine⟨i+1,v4,rfl,by omega,hc3.t0 h4.mod (fun x hx=>by have:=hi3n.ge x hx;omega),by rw[hup i l hl];exact h4.own,fun x hx=>.inr ?_⟩;rcases h4.inn x hx with q|q
     ·exact hi3n.ge x q
     ·omega
    ·refine aO (an (an (aE (a6 (zSR (zma rfl (a8 (a6 (zrf ?_)))))))));have hil:i=ls.length:=by omega
     subst hil;rw[cZ] at ho3;exact⟨ho3,hi3n,hc3⟩
theorem cNaN_ok(a:Bs)(w:World):Ret Tryz.prog 208 #[str a] w fun v w'=>v=.bool false/\w=w':=by
 refine enter [2] Tryz.func208 rfl rfl (al rfl) (zSR (za rfl (zNR (zmm rfl (a7 rfl (uA rfl rfl) (za rfl (a8 (a6 (zrf ?_)))))))));exact⟨congrArg Value.bool (decide_eq_false (fun h=>h rfl)),rfl⟩
theorem sNaN_ok(a:Bs)(w:World):Ret Tryz.prog 166 #[str a] w fun v w'=>v=.bool false/\w=w':=by
 refine enter [2] Tryz.func166 rfl rfl (al rfl) (zSR (za rfl (zNR (zmm rfl (a7 rfl (uA rfl rfl) (za rfl (a8 (a6 (zrf ?_)))))))));exact⟨congrArg Value.bool (decide_eq_false (fun h=>h rfl)),rfl⟩
theorem HM(a b:Bs)(w:World):Ret Tryz.prog 165 #[str a,str b] w fun v w'=>v=.bool (ltB a b)/\w=w':=by
 refine enter [4] Tryz.func165 rfl rfl (al rfl) (zSR (za rfl (zNR (zm rfl (ah rfl C208 (cNaN_ok a w) ?_)))));rintro _ _ ⟨rfl,rfl⟩;refine zm rfl (aD rfl rfl (aD rfl rfl (aD rfl rfl (a7 rfl (aN rfl) (zm rfl (aj rfl (zm rfl (aj rfl (zm rfl (aj rfl (a7 rfl (yG rfl rfl) (a7 rfl (aN rfl) (za rfl (a8 (a6 (zrf ?_))))))))))))))));exact⟨rfl,rfl⟩
theorem DI(i j:Nat)(h:i+j<=1000000):(pe (dh ((i:Int)+(j:Int))) 1).toNat=(i+j) / 2:=by
 have e:dh ((i:Int)+(j:Int))=UInt64.ofNat (i+j):=dN (i+j);rw[e];unfold pe;rw[ea,ea,fh (a:=i+j) (by omega),yB];omega
theorem BinS_ok(w:World)(v:Value)(ks:List Bs)(x:Bs)(hv:Sl w v ks)(hs:kj ks)(hl:ks.length<=100000) :
  Ret Tryz.prog 106 #[v,str x] w fun r w'=>r=.tuple #[.int .i64 (gl ks x),.bool (decide (ks[gl ks x]?=some x))]/\w=w':=by
 have hob1:=hv.form rfl;obtain⟨p,cp,rfl⟩:=hob1;refine enter [4,5] Tryz.func106 rfl rfl (al rfl) (zSR (zaa rfl (zNR (zmv rfl (aA rfl cL) (za rfl (zNR (zma rfl (za rfl (a8 (a6 (ae (aq (bf [0,1,6,7,8] (fun m vs w'=>∃i j:Nat,vs=[.slice p ks.length cp,str x,.int .i64 ks.length,.int .i64 i,.int .i64 j]/\i+m=j/\j<=ks.length/\w=w'/\(∀a (h:a<ks.length),a<i->ltB ks[a] x=true)/\∀a (h:a<ks.length),j<=a->ltB ks[a] x=false) (ks.length) ?_ ?_)))))))))))))
 ·exact⟨0,ks.length,rfl,by omega,aM _,rfl,fun a h h2=>by omega,fun a h h2=>by omega⟩
 ·rintro m vs J w1 ⟨i,j,rfl,hij,hj,rfl,h1,h2⟩;refine ae (zSR (zmm rfl (a7 rfl (bL rfl rfl) ?_)));refine a8 (a6 ?_);have hh:=DI i j (by omega);refine az rfl (fun hlt=>?_) (fun hlt=>?_)
  ·refine aw (a6 (aq (zSR (zmm rfl (a7 rfl (aB rfl rfl (by omega)) (a7 rfl (cX rfl uU3 oZ) (a7 rfl (nC rfl rfl (s:=1) rfl) (a7 rfl (fz rfl oZ uU3 (by omega)) (za rfl ?_)))))))));refine zNR (zmm rfl ?_);have hml:(i+j) / 2<ks.length:=by omega
   refine bF rfl (aU ((i+j) / 2) cL I9 rfl (hv) rfl rfl (by first|rfl|omega) (hml)) ?_;rintro _ ⟨bi,oi,rfl,hei,hbi⟩;refine a7 rfl (aC uU9 rfl rfl (((hv.at hei (bX hml)).c0 rfl:_=some (str (ks[(i+j) / 2]))))) ?_;refine zm rfl (ah rfl C165 (HM (ks[(i+j) / 2]) x w) ?_);rintro _ _ ⟨rfl,rfl⟩;refine a8 (a6 (bU rfl (fun hb=>?_) (fun hb=>?_)))
   ·refine ag (zmv rfl (aB rfl rfl (by omega)) (za rfl ?_));refine a8 (ay (a6 (aS (j-((i+j) / 2+1)) (bx (by omega) ?_))));refine⟨(i+j) / 2+1,j,au rfl (au rfl (au rfl (au (bH (by omega)) (au rfl bK)))),by omega,hj,rfl,fun a h h3=>?_,h2⟩;by_cases ha:a=(i+j) / 2
    ·subst ha;exact hb
    ·exact fa (List.pairwise_iff_getElem.1 hs a ((i+j) / 2) h hml (by omega)) hb
   ·refine ag (zma rfl (a8 (ay (a6 (aS ((i+j) / 2-i) (bx (by omega) ?_))))));refine⟨i,(i+j) / 2,au rfl (au rfl (au rfl (au rfl (au (bH (by omega)) bK)))),by omega,by omega,rfl,h1,fun a h h3=>?_⟩;by_cases ha:a=(i+j) / 2
    ·subst ha;exact hb
    ·have:=List.pairwise_iff_getElem.1 hs ((i+j) / 2) a hml h (by omega)
     exact iW (qe hb this)
  ·refine aO (an (an (aE (a6 (zSR (zmm rfl (zm rfl ?_)))))));have hc:gl ks x=i:=E1 (by omega) (fun a h h3=>h1 a h h3) (fun h=>h2 i h (by omega));rw[hc];by_cases hin:i<ks.length
   ·refine a7 rfl (bJ (bL rfl rfl) (congrArg Value.bool (decide_eq_true (by omega)))) ?_;refine zm rfl (aj rfl (zm rfl (aj rfl (zm rfl (aj rfl (bF rfl (aU (i) cL I9 rfl (hv) rfl rfl (by first|rfl|omega) (hin)) ?_))))));rintro _ ⟨bi,oi,rfl,hei,hbi⟩;refine aj rfl (a7 rfl (aC uU9 rfl rfl (((hv.at hei (bX hin)).c0 rfl:_=some (str (ks[i]))))) ?_);refine aj rfl (zm rfl (aj rfl ?_));by_cases he:ks[i]=x
    ·refine a7 rfl (bJ (uH rfl rfl) (congrArg Value.bool (decide_eq_true (he)))) (aj rfl (zm rfl (aD rfl rfl (aD rfl rfl (aD rfl rfl (aD rfl rfl (aD rfl rfl (aD rfl rfl (aD rfl rfl (aD rfl rfl (aD rfl rfl (aj rfl (a7 rfl (aQ rfl) (a7 rfl (aQ rfl) (zaa rfl (a8 (a6 (zrf ?_))))))))))))))))));exact⟨congrArg (fun b=>Value.tuple #[.int .i64 i,.bool b]) (decide_eq_true (by rw[bX hin,he])).symm,rfl⟩
    ·refine a7 rfl (bJ (uH rfl rfl) (congrArg Value.bool (decide_eq_false (he)))) (aj rfl (zm rfl (aj rfl (zm rfl (aj rfl (zm rfl (aj rfl (bF rfl (aU (i) cL I9 rfl (hv) rfl rfl (by first|rfl|omega) (hin)) ?_))))))));rintro _ ⟨bj,oj,rfl,hej,hbj⟩;refine aj rfl (a7 rfl (aC uU9 rfl rfl (((hv.at hej (bX hin)).c0 rfl:_=some (str (ks[i]))))) ?_);refine aj rfl (ah rfl C166 (sNaN_ok (ks[i]) w) ?_);rintro _ _ ⟨rfl,rfl⟩;refine aj rfl (zm rfl (aD rfl rfl (aD rfl rfl (aj rfl (a7 rfl (aN rfl) (aj rfl (a7 rfl (aN rfl) (a7 rfl (aQ rfl) (zaa rfl (a8 (a6 (zrf ?_))))))))))));exact⟨congrArg (fun b=>Value.tuple #[.int .i64 i,.bool b]) (decide_eq_false (by rw[bX hin];simpa using he)).symm,rfl⟩
   ·refine a7 rfl (bJ (bL rfl rfl) (congrArg Value.bool (decide_eq_false (by omega)))) ?_;refine zm rfl (aD rfl rfl (aD rfl rfl (aD rfl rfl (aD rfl rfl (aD rfl rfl (aD rfl rfl (aD rfl rfl (aD rfl rfl (aD rfl rfl (aD rfl rfl (aD rfl rfl (aD rfl rfl (aD rfl rfl (aD rfl rfl (aD rfl rfl (aD rfl rfl (aD rfl rfl (a7 rfl (aN rfl) (zaa rfl (a8 (a6 (zrf ?_))))))))))))))))))))));exact⟨congrArg (fun b=>Value.tuple #[.int .i64 i,.bool b]) (decide_eq_false (by rw[yl (by omega)];simp)).symm,rfl⟩
theorem CmpS_ok(a b:Bs)(w:World):Ret Tryz.prog 109 #[str a,str b] w fun v w'=>v=.int .i64 (B6 a b)/\w=w':=by
 have h2:Ret Tryz.prog 167 #[str a,str b] w fun v w'=>v=.int .i64 (B6 a b)/\w=w':=by
  refine enter [4] Tryz.func167 rfl rfl (al rfl) (zSR (za rfl (zNR (zmm rfl (a7 rfl (Df Tryz.func209 (by kernel_rfl) rfl (by kernel_rfl) (e:=Extern.BytealgCompare.compare) (by kernel_rfl) (Lib.run_compareString _ _ _)) ?_)))));refine za rfl (a8 (a6 (zrf ?_)));exact⟨rfl,rfl⟩
 refine enter [4] Tryz.func109 rfl rfl (al rfl) (zSR (za rfl (zNR (zmm rfl (ah rfl C167 (h2) ?_)))));rintro _ _ ⟨rfl,rfl⟩;refine za rfl (a8 (a6 (zrf ?_)));exact⟨rfl,rfl⟩
theorem AM(p:Pr)(k:Bs)(w:World):Ret Tryz.prog 108 #[.agg #[str p.1,str p.2],str k] w fun v w'=>v=.int .i64 (B6 p.1 k)/\Chg [] w w':=by
 refine enter [4] Tryz.func108 rfl rfl (al rfl) (zSR (aY rfl (cT (l:=[str p.1,str p.2]) rfl rfl) ?_));rintro _ w1 ⟨b1,rfl,hn1,hB1,hc1,hl1⟩;refine za rfl (zNR (a7 rfl (aa j1 rfl I9 rfl rfl) (a7 rfl (aC uU9 rfl rfl (hB1.c rfl)) (zm rfl (ah rfl C109 (CmpS_ok p.1 k w1) ?_)))));rintro _ _ ⟨rfl,rfl⟩;refine za rfl (a8 (a6 (zrf ?_)));exact⟨rfl,hc1⟩
theorem BinP_ok(w:World)(v:Value)(l:List Pr)(x:Bs)(hv:Sl w v l)(hs:eF l)(hl:l.length<=100000) :
  Ret Tryz.prog 107 #[v,str x,.func (.func 108) #[] #[]] w fun r w'=>r=.tuple #[.int .i64 (dU l x),.bool (ft l x)]/\Chg [] w w':=by
 have hob2:=hv.form rfl;obtain⟨p,cp,rfl⟩:=hob2;refine enter [6,7] Tryz.func107 rfl rfl (al rfl) (zSR (zaa rfl (zNR (zmv rfl (aA rfl dc) (za rfl (zNR (zma rfl (za rfl (a8 (a6 (ae (aq (bf [0,1,2,8,9,10] (fun m vs w'=>∃i j:Nat,vs=[.slice p l.length cp,str x,.func (.func 108) #[] #[],.int .i64 l.length,.int .i64 i,.int .i64 j]/\i+m=j/\j<=l.length/\Chg [] w w'/\(∀a (h:a<l.length),a<i->ltB l[a].1 x=true)/\∀a (h:a<l.length),j<=a->ltB l[a].1 x=false) (l.length) ?_ ?_)))))))))))))
 ·exact⟨0,l.length,rfl,by omega,aM _,Chg.refl _,fun a h h2=>by omega,fun a h h2=>by omega⟩
 ·rintro m vs J w1 ⟨i,j,rfl,hij,hj,hc1,h1,h2⟩;refine ae (zSR (zmm rfl (a7 rfl (bL rfl rfl) ?_)));refine a8 (a6 ?_);have hv1:=hv.mod0 hc1;have hh:=DI i j (by omega);refine az rfl (fun hlt=>?_) (fun hlt=>?_)
  ·refine aw (a6 (aq (zSR (zmm rfl (a7 rfl (aB rfl rfl (by omega)) (a7 rfl (cX rfl uU3 oZ) (a7 rfl (nC rfl rfl (s:=1) rfl) (a7 rfl (fz rfl oZ uU3 (by omega)) (za rfl ?_)))))))));refine zNR (zmm rfl (zm rfl ?_));have hml:(i+j) / 2<l.length:=by omega
   have hob3:∃a,a=l[(i+j) / 2]:=⟨_,rfl⟩
   obtain⟨a,ha⟩:=hob3;have hga:l[(i+j) / 2]?=some a:=by rw[ha];exact bX hml
   refine bF rfl (aU ((i+j) / 2) dc I49 rfl (hv1) rfl rfl (by first|rfl|omega) (hml)) ?_;rintro _ ⟨bi,oi,rfl,hei,hbi⟩;refine a7 rfl (cM j1 rfl I49 rfl (hv1.at hei hga) rfl) (zm rfl (ah rfl (u3 rfl Tryz.func108 rfl rfl) (AM a x w1) ?_));rintro _ w2 ⟨rfl,hc2⟩;refine a7 rfl (bL rfl rfl) (a8 (a6 ?_));have hc12:=hc1.tr hc2;refine az rfl (fun hb=>?_) (fun hb=>?_)
   ·refine ag (zmv rfl (aB rfl rfl (by omega)) (za rfl ?_));refine a8 (ay (a6 ?_));have hb:ltB l[(i+j) / 2].1 x=true:=by rw[<-ha];exact(E2 _ _).1 hb
    refine aS (j-((i+j) / 2+1)) (bx (by omega) ?_);refine⟨(i+j) / 2+1,j,au rfl (au rfl (au rfl (au rfl (au (bH (by omega)) (au rfl bK))))),by omega,hj,hc12,fun a h h3=>?_,h2⟩;by_cases ha:a=(i+j) / 2
    ·subst ha;exact hb
    ·exact fa (List.pairwise_iff_getElem.1 hs a ((i+j) / 2) h hml (by omega)) hb
   ·refine ag (zma rfl (a8 (ay (a6 ?_))));have hb:ltB l[(i+j) / 2].1 x=false:=by rw[<-ha];exact Bool.eq_false_iff.2 (fun h=>hb ((E2 _ _).2 h))
    refine aS ((i+j) / 2-i) (bx (by omega) ?_);refine⟨i,(i+j) / 2,au rfl (au rfl (au rfl (au rfl (au rfl (au (bH (by omega)) bK))))),by omega,by omega,hc12,h1,fun a h h3=>?_⟩;by_cases ha:a=(i+j) / 2
    ·subst ha;exact hb
    ·have:=List.pairwise_iff_getElem.1 hs ((i+j) / 2) a hml h (by omega)
     exact iW (qe hb this)
  ·refine aO (an (an (aE (a6 (zSR (zmm rfl (zm rfl ?_)))))));have hc:dU l x=i:=E1 (by rw[kJ];omega) (fun a h h3=>by rw[kJ] at h;rw[oJ h];exact h1 a h h3) (fun h=>by rw[kJ] at h;rw[oJ h];exact h2 i h (by omega));have hhas:ft l x=decide (∃h:i<l.length,(l[i]'h).1=x):=by unfold ft;simp only[hc]
   rw[hc,hhas];by_cases hin:i<l.length
   ·have hob4:∃a,a=l[i]:=⟨_,rfl⟩
    obtain⟨a,ha⟩:=hob4;have hga:l[i]?=some a:=by rw[ha];exact bX hin
    refine a7 rfl (bJ (bL rfl rfl) (congrArg Value.bool (decide_eq_true (by omega)))) ?_;refine zm rfl (aj rfl (zm rfl (aj rfl (zm rfl (aj rfl (zm rfl (aj rfl (bF rfl (aU (i) dc I49 rfl (hv1) rfl rfl (by first|rfl|omega) (hin)) ?_))))))));rintro _ ⟨bi,oi,rfl,hei,hbi⟩;refine aj rfl (a7 rfl (cM j1 rfl I49 rfl (hv1.at hei hga) rfl) (aj rfl (zm rfl (aj rfl (ah rfl (u3 rfl Tryz.func108 rfl rfl) (AM a x w1) ?_)))));rintro _ w2 ⟨rfl,hc2⟩;refine aj rfl (a7 rfl (dB rfl rfl) (a7 rfl (aQ rfl) (zaa rfl (a8 (a6 (zrf ?_))))));refine⟨congrArg (fun b=>Value.tuple #[.int .i64 i,.bool b]) (?_:decide (B6 a.1 x=0)=_),hc1.tr hc2⟩;rw[decide_eq_decide,cmpB_eq,ha];exact⟨fun h=>⟨hin,h⟩,fun⟨_,h⟩=>h⟩
   ·refine a7 rfl (bJ (bL rfl rfl) (congrArg Value.bool (decide_eq_false (by omega)))) ?_;refine zm rfl (aD rfl rfl (aD rfl rfl (aD rfl rfl (aD rfl rfl (aD rfl rfl (aD rfl rfl (aD rfl rfl (aD rfl rfl (a7 rfl (aN rfl) (zaa rfl (a8 (a6 (zrf ?_)))))))))))));exact⟨congrArg (fun b=>Value.tuple #[.int .i64 i,.bool b]) (decide_eq_false (fun⟨h,_⟩=>hin h)).symm,hc1⟩
structure TC where
 w0:World
 b:Nat
 kv:Value
 r:Nat
 R:PR
 n:Nat
 key:List UInt8
structure TP where
 k:Nat
 ds:DSt
 P:Pg
 V:UInt32->Bs
def TC.F(c:TC):List Nat:=PF c.R++DF c.b c.kv c.r
def TC.pg(c:TC)(w:World)(s:TP):Prop:=PS c.w0 w c.b c.kv c.r c.R c.n s.k c.key s.ds s.P s.V
abbrev TC.pv(c:TC):Value:=.pointer (some ⟨c.R.pb,0,none⟩)
section
variable {c:TC}{w w':World}{s:TP}
theorem TC.pg.lt(h:c.pg w s):∀x∈c.F,x<w.heap.size:=PS.lt h
theorem TC.pg.ge(h:c.pg w s):∀x∈c.F,c.w0.heap.size<=x:=PS.ge h
theorem TC.pg.chg{S:List Nat}(h:c.pg w s)(hm:Chg S w w')(hn:∀x∈c.F,x∉S)(hs:∀x∈S,c.w0.heap.size<=x):c.pg w' s:=PS.chg h hm hn hs
theorem TC.pg.chg0(h:c.pg w s)(hm:Chg [] w w'):c.pg w' s:=PS.chg0 h hm
theorem TC.pg.n4(h:c.pg w s):4<=c.n/\c.n<=400:=h.2.2.2.1.ok.size
theorem TC.pg.wu(h:c.pg w s){x:UInt32}(hx:s.P.now.written x=true):s.P.now.used x=true:=h.2.2.2.1.ok.written x hx
theorem TC.pg.un(h:c.pg w s){x:UInt32}(hx:s.P.now.used x=true):x.toNat<c.n:=h.2.2.2.1.ok.used x hx
end
structure TE where
 s:TP
 mv:Value
 gv:Value
 made:List UInt32
 gone:List UInt32
def EF(xb:Nat)(e:TE):List Nat:=xb::(ax e.mv++ax e.gv)
structure TC.ed(c:TC)(xb:Nat)(w:World)(e:TE):Prop where
 pg:c.pg w e.s
 blk:Blk w xb [c.pv,e.mv,e.gv]
 mo:Own w e.mv e.made
 go:Own w e.gv e.gone
 x1:xb∉ax e.mv
 x2:xb∉ax e.gv
 ap:∀x∈ax e.mv,x∉ax e.gv
 fr:∀x∈EF xb e,c.w0.heap.size<=x/\x∉c.F
structure Stp(n:Nat)(e e':TE)(new out:List UInt32):Prop where
 ext:Ext n e.s.P e'.s.P e.s.V e'.s.V new
 made:e'.made=e.made++new
 gone:e'.gone=e.gone++out
 k:e'.s.k=e.s.k+new.length
structure TC.to(c:TC)(xb:Nat)(w w':World)(e e':TE):Prop where
 at_:c.ed xb w' e'
 grow:∀x∈EF xb e',x∈EF xb e∨w.heap.size<=x
 chg:Chg (c.F++EF xb e) w w'
theorem Stp.refl(n:Nat)(e:TE):Stp n e e [] []:=⟨Ext.refl _ _ _,(cy _).symm,(cy _).symm,rfl⟩
theorem Stp.trans{n:Nat}{e e' e'':TE}{a b a' b':List UInt32}(h:Stp n e e' a b)(h':Stp n e' e'' a' b'):Stp n e e'' (a++a') (b++b') :=
 ⟨h.ext.trans h'.ext,by rw[h'.made,h.made,bO],by rw[h'.gone,h.gone,bO],by rw[h'.k,h.k,aF];omega⟩
section
variable {c:TC}{xb:Nat}{w w' w'':World}{e e' e'':TE}
theorem TC.ed.lt(h:c.ed xb w e):∀x∈c.F++EF xb e,x<w.heap.size:=by
 intro x hx;rcases List.mem_append.1 hx with hx|hx
 ·exact h.pg.lt x hx
 ·simp only[EF,bV,fQ] at hx;rcases hx with rfl|hx|hx
  ·exact h.blk.lt
  ·exact h.mo.sl.lt x hx
  ·exact h.go.sl.lt x hx
theorem TC.ed.ge(h:c.ed xb w e):∀x∈c.F++EF xb e,c.w0.heap.size<=x:=by
 intro x hx;rcases List.mem_append.1 hx with hx|hx
 ·exact h.pg.ge x hx
 ·exact(h.fr x hx).1
theorem TC.ed.chg{S:List Nat}(h:c.ed xb w e)(hm:Chg S w w')(hn:∀x∈c.F++EF xb e,x∉S)(hs:∀x∈S,c.w0.heap.size<=x):c.ed xb w' e :=
 ⟨h.pg.chg hm (fun x hx=>hn x (cG _ hx)) hs,h.blk.chg hm (hn xb (by simp[EF])),h.mo.mod hm (fun x hx=>hn x (by simp[EF,hx])),h.go.mod hm (fun x hx=>hn x (by simp[EF,hx])),h.x1,h.x2,h.ap,h.fr⟩
theorem TC.ed.chg0(h:c.ed xb w e)(hm:Chg [] w w'):c.ed xb w' e:=h.chg hm (by simp) (by simp)
theorem TC.to.refl(h:c.ed xb w e):c.to xb w w e e:=⟨h,fun _ hx=>.inl hx,Chg.refl' _ _⟩
theorem TC.to.still(h:c.ed xb w e)(hm:Chg [] w w'):c.to xb w w' e e:=⟨h.chg0 hm,fun x hx=>.inl hx,hm.mono (by simp)⟩
theorem TC.to.trans(h:c.to xb w w' e e')(h':c.to xb w' w'' e' e''):c.to xb w w'' e e'':=by
 have hk:=h.chg.1;refine⟨h'.at_,fun x hx=>?_,h.chg.trans h'.chg (fun _ hx _=>hx) (fun x hx hl=>?_)⟩
 ·rcases h'.grow x hx with q|q
  ·exact h.grow x q
  ·exact .inr (by omega)
 ·rcases List.mem_append.1 hx with hx|hx
  ·exact cG _ hx
  ·rcases h.grow x hx with q|q
   ·exact cj _ q
   ·omega
theorem TC.to.pre(hm:Chg [] w w')(h:c.to xb w' w'' e e'):c.to xb w w'' e e':=by
 have hk:=hm.1;exact⟨h.at_,fun x hx=>(h.grow x hx).imp id (fun q=>by omega),hm.tr0' h.chg⟩
end
def cnP:Cn->List Pr
 | .leaf ps => ps
 | .br _ _ => []
def cnK:Cn->List Bs
 | .leaf _ => []
 | .br ks _ => ks
def cnI:Cn->List UInt32
 | .leaf _ => []
 | .br _ ids => ids
structure NV where
 b:Nat
 p:Value
 k:Value
 i:Value
def NV.F(v:NV):List Nat:=v.b::(ax v.p++(ax v.k++ax v.i))
abbrev NV.ptr(v:NV):Value:=.pointer (some ⟨v.b,0,none⟩)
def NV.cells(v:NV)(c:Cn):List Value:=[.bool (cnL c),v.p,v.k,v.i]
structure NAt(w:World)(v:NV)(c:Cn):Prop where
 blk:Blk w v.b (v.cells c)
 p:Sl w v.p (cnP c)
 k:Sl w v.k (cnK c)
 i:Sl w v.i (cnI c)
 ap:∀x∈ax v.p++(ax v.k++ax v.i),x≠v.b
section
variable {w w':World}{v:NV}{n:Cn}{S:List Nat}
theorem NAt.chg(h:NAt w v n)(hm:Chg S w w')(hn:∀x∈v.F,x∉S):NAt w' v n :=
 ⟨h.blk.chg hm (hn _ (by simp[NV.F])),h.p.mod hm (fun x hx=>hn x (by simp[NV.F,hx])),h.k.mod hm (fun x hx=>hn x (by simp[NV.F,hx])),h.i.mod hm (fun x hx=>hn x (by simp[NV.F,hx])),h.ap⟩
theorem NAt.chg0(h:NAt w v n)(hm:Chg [] w w'):NAt w' v n:=h.chg hm (by simp)
theorem NAt.lt(h:NAt w v n):∀x∈v.F,x<w.heap.size:=by
 intro x hx;simp only[NV.F,bV,fQ] at hx;rcases hx with rfl|hx|hx|hx
 ·exact h.blk.lt
 ·exact h.p.lt x hx
 ·exact h.k.lt x hx
 ·exact h.i.lt x hx
end
structure TC.has(c:TC)(xb:Nat)(e:TE)(lo:Nat)(w:World)(v:NV)(n:Cn):Prop where
 at_:NAt w v n
 new:∀x∈v.F,lo<=x/\x∉EF xb e
theorem TC.has.far{c:TC}{xb:Nat}{e:TE}{lo:Nat}{w:World}{v:NV}{n:Cn}(h:c.has xb e lo w v n)(hf:∀x∈c.F,x<lo):∀x∈v.F,x∉c.F++EF xb e:=fun x hx hh=>by
 rcases List.mem_append.1 hh with hh|hh
 ·have:=hf x hh;have:=(h.new x hx).1;omega
 ·exact(h.new x hx).2 hh
theorem TC.has.step{c:TC}{xb:Nat}{e e':TE}{lo:Nat}{w w':World}{v:NV}{n:Cn}(h:c.has xb e lo w v n)(ht:c.to xb w w' e e')(hf:∀x∈c.F,x<lo):c.has xb e' lo w' v n:=by
 have hl:=h.at_.lt;refine⟨h.at_.chg ht.chg (h.far hf),fun x hx=>⟨(h.new x hx).1,fun hh=>?_⟩⟩;rcases ht.grow x hh with q|q
 ·exact(h.new x hx).2 q
 ·have:=hl x hx;omega
theorem TC.has.still{c:TC}{xb:Nat}{e:TE}{lo:Nat}{w w':World}{v:NV}{n:Cn}(h:c.has xb e lo w v n)(hm:Chg [] w w'):c.has xb e lo w' v n:=⟨h.at_.chg0 hm,h.new⟩
theorem TC.has.lo{c:TC}{xb:Nat}{e:TE}{lo lo':Nat}{w:World}{v:NV}{n:Cn}(h:c.has xb e lo w v n)(hl:lo'<=lo):c.has xb e lo' w v n:=⟨h.at_,fun x hx=>⟨bq hl (h.new x hx).1,(h.new x hx).2⟩⟩
theorem u5(w:World)(v:NV)(c:Cn)(h:NAt w v c)(hz:cnZ c<=1000) :
  Ret Tryz.prog 199 #[v.ptr] w fun r w'=>r=.int .i64 (cnZ c)/\Chg [] w w':=by
 obtain⟨b,vp,vk,vi⟩:=v;obtain⟨hB,hp,hk,hi,hap⟩:=h;refine enter [2] Tryz.func199 rfl rfl (al rfl) (zSR (za rfl (a8 (a6 (ae (zSR (zm rfl (zn rfl rfl (a7 rfl (aa bQ rfl I4 rfl rfl) ?_)))))))));cases c with
 | leaf ps =>
  replace hp:Sl w vp ps:=hp;replace hz:cP ps<=1000:=hz;replace hB:Blk w b [.bool true,vp,vk,vi]:=hB
  skip
  refine a7 rfl (aC uU4 rfl rfl (hB.c rfl)) (a8 (a6 (bh (rfl) (zSR (zm rfl (zn rfl rfl (a7 rfl (aa bQ rfl I33 rfl rfl) (a7 rfl (aC dc rfl rfl (hB.c rfl)) (ah rfl C152 (E6 w vp ps hp (by omega)) ?_)))))))));rintro _ w1 ⟨rfl,hc1⟩;refine za rfl (a8 (a6 (zrt ?_)));exact⟨rfl,hc1⟩
 | br ks ids =>
  replace hk:Sl w vk ks:=hk;replace hi:Sl w vi ids:=hi;replace hz:3+4*ids.length+db ks<=1000:=hz;have hkl:=sE ks;have hob1:∃p c,vk=.slice p ks.length c:=hk.form rfl;obtain⟨pk,ck,rfl⟩:=hob1;have hob2:∃p c,vi=.slice p ids.length c:=hi.form rfl;obtain⟨pi,ci,rfl⟩:=hob2;replace hB:Blk w b [.bool false,vp,.slice pk ks.length ck,.slice pi ids.length ci]:=hB
  skip
  refine a7 rfl (aC uU4 rfl rfl (hB.c rfl)) (a8 (a6 (aK (rfl) (zKR (zm rfl (zn rfl rfl (a7 rfl (aa bQ rfl I41 rfl rfl) (a7 rfl (aC aX rfl rfl (hB.c rfl)) (a7 rfl (aA rfl aX) (a7 rfl (ek rfl rfl (by omega)) (a7 rfl (aB rfl rfl (by omega)) (za rfl ?_))))))))))));refine a8 (a6 (ae (zSR (zm rfl (zn rfl rfl (a7 rfl (aa bQ rfl I70 rfl rfl) (a7 rfl (aC cL rfl rfl (hB.c rfl)) (a7 rfl (aA rfl cL) (zm rfl (a8 (a6 (aq (bf [3,25,26,27] (fun m vs w'=>∃i:Nat,vs=[.int .i64 (3+4*ids.length+db (ks.take i):Nat),.slice pk ks.length ck,.int .i64 ks.length,.int .i64 i]/\i+m=ks.length/\Chg [] w w') (ks.length) ?_ ?_)))))))))))))
  ·exact⟨0,au (bH (by simp[db])) (au rfl (au rfl (au rfl bK))),by omega,Chg.refl _⟩
  ·rintro m vs J w1 ⟨i,rfl,hi2,hc1⟩;refine zSR (a7 rfl (bL rfl rfl) ?_);refine a8 (a6 (ae (az rfl (fun hlt=>?_) (fun hlt=>?_))))
   ·refine aw (a6 (ae (aq (ae (ag ?_)))));have hob3:∃q,m=q+1:=⟨m-1,by omega⟩
    obtain⟨m,rfl⟩:=hob3;have hob4:∃a,ks[i]?=some a:=⟨_,bX (by omega)⟩
    obtain⟨a,ha⟩:=hob4;have hup:db (ks.take (i+1))=db (ks.take i)+(a.length+2):=by
     have hob5:=List.getElem?_eq_some_iff.1 ha;obtain⟨q,rfl⟩:=hob5;exact ld q
    have hpt:=qf ks (i+1);have hk1:=hk.mod0 hc1;refine bF rfl (aU (i) cL I9 rfl (hk1) rfl rfl (by first|rfl|omega) (by omega)) ?_;rintro _ ⟨bi,oi,rfl,hei,hbi⟩;refine a7 rfl (aC uU9 rfl rfl (((hk1.at hei ha).c0 rfl:_=some (str a)))) ?_;refine za rfl (a8 (a6 (ag (zmm rfl (a7 rfl (jc rfl uU9) (a7 rfl (aB rfl rfl (by omega)) (a7 rfl (aB rfl rfl (by omega)) (za rfl ?_))))))));refine a8 (ay (a6 (ag (a7 rfl (aB rfl rfl (by omega)) (zm rfl ?_)))));refine a8 (a6 (aS (m) (bx (by omega) ?_)));refine⟨i+1,au (bH ?_) (au rfl (au rfl (au rfl bK))),by omega,hc1⟩;omega
   ·refine aO (an (an (aE (a6 (zSR (zma rfl (a8 (a6 (zrf ?_)))))))));have hil:i=ks.length:=by omega
    subst hil;rw[cZ];exact⟨rfl,hc1⟩
def pf:Cn->Bool
 | .leaf ps => decide (ps.length = 0)
 | .br _ ids => decide (ids.length < 2)
theorem poor_ok(w:World)(v:NV)(c:Cn)(h:NAt w v c) :
  Ret Tryz.prog 112 #[v.ptr] w fun r w'=>r=.bool (pf c)/\w=w':=by
 obtain⟨b,vp,vk,vi⟩:=v;obtain⟨hB,hp,hk,hi,hap⟩:=h;refine enter [2] Tryz.func112 rfl rfl (al rfl) (zSR (za rfl (zNR (zm rfl (zn rfl rfl (a7 rfl (aa bQ rfl I4 rfl rfl) ?_))))));cases c with
 | leaf ps =>
  replace hp:Sl w vp ps:=hp;have hob6:=hp.form rfl;obtain⟨pp,cp,rfl⟩:=hob6;replace hB:Blk w b [.bool true,.slice pp ps.length cp,vk,vi]:=hB
  skip
  refine a7 rfl (aC uU4 rfl rfl (hB.c rfl)) (zm rfl (aj rfl (zm rfl (aj rfl (zn rfl rfl (aj rfl (a7 rfl (aa bQ rfl I33 rfl rfl) (aj rfl (a7 rfl (aC dc rfl rfl (hB.c rfl)) (aj rfl (a7 rfl (aA rfl dc) (aj rfl ?_))))))))))));by_cases h0:ps.length=0
  ·refine a7 rfl (bJ (dB rfl rfl) (congrArg Value.bool (decide_eq_true (by omega)))) ?_;refine a7 rfl (aQ rfl) (zm rfl (aD rfl rfl (aD rfl rfl (aD rfl rfl (aD rfl rfl (aD rfl rfl (aD rfl rfl (aD rfl rfl (aD rfl rfl (aD rfl rfl (aD rfl rfl (aD rfl rfl (aD rfl rfl (aD rfl rfl (a7 rfl (aQ rfl) (za rfl (a8 (a6 (zrf ?_)))))))))))))))))));exact⟨congrArg Value.bool (decide_eq_true h0).symm,rfl⟩
  ·refine a7 rfl (bJ (dB rfl rfl) (congrArg Value.bool (decide_eq_false (by omega)))) ?_;refine a7 rfl (aQ rfl) (zm rfl (aj rfl (zm rfl (aj rfl (zn rfl rfl (aj rfl (a7 rfl (aa bQ rfl I4 rfl rfl) (aj rfl (a7 rfl (aC uU4 rfl rfl (hB.c rfl)) (aj rfl (a7 rfl (cA rfl) (aj rfl (zm rfl (aD rfl rfl (aD rfl rfl (aD rfl rfl (aD rfl rfl (aD rfl rfl (aD rfl rfl (aj rfl (a7 rfl (aN rfl) (a7 rfl (aN rfl) (za rfl (a8 (a6 (zrf ?_))))))))))))))))))))))))));exact⟨congrArg Value.bool (decide_eq_false h0).symm,rfl⟩
 | br ks ids =>
  replace hi:Sl w vi ids:=hi;have hob7:=hi.form rfl;obtain⟨pi,ci,rfl⟩:=hob7;replace hB:Blk w b [.bool false,vp,vk,.slice pi ids.length ci]:=hB
  skip
  refine a7 rfl (aC uU4 rfl rfl (hB.c rfl)) (zm rfl (aD rfl rfl (aD rfl rfl (aD rfl rfl (aD rfl rfl (aD rfl rfl (aD rfl rfl (a7 rfl (aN rfl) (zm rfl (aj rfl (zm rfl (aj rfl (zn rfl rfl (aj rfl (a7 rfl (aa bQ rfl I4 rfl rfl) (aj rfl (a7 rfl (aC uU4 rfl rfl (hB.c rfl)) (aj rfl (a7 rfl (cA rfl) (aj rfl (zm rfl (aj rfl (zm rfl (aj rfl (zn rfl rfl (aj rfl (a7 rfl (aa bQ rfl I41 rfl rfl) (aj rfl (a7 rfl (aC aX rfl rfl (hB.c rfl)) (aj rfl (a7 rfl (aA rfl aX) (aj rfl (a7 rfl (bL rfl rfl) (aj rfl (a7 rfl (aQ rfl) (a7 rfl (aN rfl) (za rfl (a8 (a6 (zrf ?_))))))))))))))))))))))))))))))))))))))));refine⟨congrArg Value.bool ?_,rfl⟩;show decide ((ids.length:Int)<2)=decide (ids.length<2);rw[decide_eq_decide];omega
theorem H7(w:World)(v:NV)(c:Cn)(h:NAt w v c) :
  Ret Tryz.prog 237 #[v.ptr] w fun r w'=>r=.int .i64 (m6 c)/\w=w':=by
 obtain⟨b,vp,vk,vi⟩:=v;obtain⟨hB,hp,hk,hi,hap⟩:=h;refine enter [2] Tryz.func237 rfl rfl (al rfl) (zSR (za rfl (a8 (a6 (ae (zSR (zm rfl (zn rfl rfl (a7 rfl (aa bQ rfl I4 rfl rfl) ?_)))))))));cases c with
 | leaf ps =>
  replace hp:Sl w vp ps:=hp;have hob8:=hp.form rfl;obtain⟨pp,cp,rfl⟩:=hob8;replace hB:Blk w b [.bool true,.slice pp ps.length cp,vk,vi]:=hB
  skip
  refine a7 rfl (aC uU4 rfl rfl (hB.c rfl)) (a8 (a6 (bh (rfl) (zSR (zm rfl (zn rfl rfl (a7 rfl (aa bQ rfl I33 rfl rfl) (a7 rfl (aC dc rfl rfl (hB.c rfl)) (a7 rfl (aA rfl dc) (za rfl (a8 (a6 (zrt ?_)))))))))))));exact⟨rfl,rfl⟩
 | br ks ids =>
  replace hi:Sl w vi ids:=hi;have hob9:=hi.form rfl;obtain⟨pi,ci,rfl⟩:=hob9;replace hB:Blk w b [.bool false,vp,vk,.slice pi ids.length ci]:=hB
  skip
  refine a7 rfl (aC uU4 rfl rfl (hB.c rfl)) (a8 (a6 (aK (rfl) (zKR (zm rfl (zn rfl rfl (a7 rfl (aa bQ rfl I41 rfl rfl) (a7 rfl (aC aX rfl rfl (hB.c rfl)) (a7 rfl (aA rfl aX) (za rfl (a8 (a6 (zrf ?_)))))))))))));exact⟨rfl,rfl⟩
theorem vD(w:World)(v:NV)(ks:List Bs)(ids:List UInt32)(x:Bs)(h:NAt w v (.br ks ids))(hs:kj ks)(hl:ks.length<=100000) :
  Ret Tryz.prog 60 #[v.ptr,str x] w fun r w'=>r=.int .i64 (plc ks x)/\w=w':=by
 obtain⟨b,vp,vk,vi⟩:=v;obtain⟨hB,hp,hk,hi,hap⟩:=h;replace hB:Blk w b [.bool false,vp,vk,vi]:=hB;have hcl:=rP ks x;refine enter [4] Tryz.func60 rfl rfl (al rfl) (zSR (za rfl (zNR (zm rfl (zn rfl rfl (a7 rfl (aa bQ rfl I70 rfl rfl) (a7 rfl (aC cL rfl rfl (hB.c rfl)) (zm rfl (ah rfl C106 (BinS_ok w vk ks x hk hs hl) ?_)))))))));rintro _ _ ⟨rfl,rfl⟩;refine zm rfl (zx rfl (zx rfl (zaa rfl (a8 (a6 (ae (zSR (zm rfl (a8 (a6 (az rfl (fun hb=>?_) (fun hb=>?_))))))))))))
 ·refine zSR (zmv rfl (aB rfl rfl (by omega)) (za rfl ?_));refine a8 (a6 (zrt ?_));refine⟨bH ?_,rfl⟩;unfold plc;rw[if_pos hb];rfl
 ·refine zKR (zma rfl (a8 (a6 (zrf ?_))));refine⟨bH ?_,rfl⟩;unfold plc;rw[if_neg hb]
theorem zz(w:World)(v:NV)(ps:List Pr)(x:Bs)(h:NAt w v (.leaf ps))(hs:eF ps)(hl:ps.length<=100000) :
  Ret Tryz.prog 61 #[v.ptr,str x] w fun r w'=>r=.tuple #[.int .i64 (dU ps x),.bool (ft ps x)]/\Chg [] w w':=by
 obtain⟨b,vp,vk,vi⟩:=v;obtain⟨hB,hp,hk,hi,hap⟩:=h;replace hB:Blk w b [.bool true,vp,vk,vi]:=hB;refine enter [4,5] Tryz.func61 rfl rfl (al rfl) (zSR (zaa rfl (zNR (zm rfl (zn rfl rfl (a7 rfl (aa bQ rfl I33 rfl rfl) (a7 rfl (aC dc rfl rfl (hB.c rfl)) (zm rfl (ah rfl C107 (BinP_ok w vp ps x hp hs hl) ?_)))))))));rintro _ w1 ⟨rfl,hc1⟩;refine zx rfl (zx rfl (zaa rfl (a8 (a6 (zrf ?_)))));exact⟨rfl,hc1⟩
def wo:Cn->Prop
 | .leaf ps => leafOk ps
 | .br ks ids => brOk ks ids
theorem Ff(w:World)(v:NV)(c:Cn)(h:NAt w v c)(hg:wo c) :
  Ret Tryz.prog 148 #[v.ptr] w fun r w'=>∃bv,r=.tuple #[bv,.int .i64 0]/\Own w' bv (cnB c)/\In bv [] w.heap.size/\Chg [] w w':=by
 obtain⟨b,vp,vk,vi⟩:=v;obtain⟨hB,hp,hk,hi,hap⟩:=h;refine enter [2,3] Tryz.func148 rfl rfl (al rfl) (zSR (zaa rfl (a8 (a6 (ae (zSR (zm rfl (zn rfl rfl (a7 rfl (aa bQ rfl I4 rfl rfl) ?_)))))))));cases c with
 | leaf ps =>
  replace hB:Blk w b [.bool true,vp,vk,vi]:=hB;replace hg:leafOk ps:=hg
  skip
  refine a7 rfl (aC uU4 rfl rfl (hB.c rfl)) (a8 (a6 (bh (rfl) (zSR (zm rfl (zn rfl rfl (a7 rfl (aa bQ rfl I33 rfl rfl) (a7 rfl (aC dc rfl rfl (hB.c rfl)) (ah rfl C96 (uf w vp ps hp (by have:=hg.few;omega)) ?_)))))))));rintro v1 w1 ⟨hc1,hv1⟩;rcases hv1 with⟨q,_⟩|⟨_,q,_⟩|⟨_,bv,rfl,ho1,hi1⟩
  ·exact absurd hg.1 q
  ·exact absurd hg.2 (by omega)
  ·refine zx rfl (zx rfl (zaa rfl (a8 (a6 (zrt ?_)))));exact⟨bv,rfl,ho1,hi1,hc1⟩
 | br ks ids =>
  replace hB:Blk w b [.bool false,vp,vk,vi]:=hB;replace hg:brOk ks ids:=hg;replace hk:Sl w vk ks:=hk;replace hi:Sl w vi ids:=hi
  skip
  refine a7 rfl (aC uU4 rfl rfl (hB.c rfl)) (a8 (a6 (aK (rfl) (aw (a6 (ae (aG bz (.pure 0 (.pure 1 (.pure 2 (.read 3 (.pure 4 (.pure 5 (.pure 6 (.read 7 (.eff 8 [] (.pure 9 (.pure 10 (.pure 11 (.pure 12 .nil))))))))))))) (by kernel_rfl) ?_)))))));refine ym rfl (yn rfl (yp rfl (fun _=>(aa bQ rfl I70 rfl rfl)) ?_));refine aH rfl rfl rfl cL rfl rfl (hB.c rfl) (ym rfl (yn rfl (yp rfl (fun _=>(aa bQ rfl I41 rfl rfl)) ?_)));refine aH rfl rfl rfl aX rfl rfl (hB.c rfl) (ycl rfl C164 (yh _ vk vi ks ids (hk.mod0 (drw _)) (hi.mod0 (drw _)) hg) ?_);rintro _ w1 ⟨bv,rfl,ho1,hi1,hc1⟩;refine⟨trivial,?_⟩;refine yx rfl (yx rfl (ya rfl (ya rfl (aJ (a6 (zrf ?_))))));exact⟨bv,rfl,ho1,hi1,(drw w).tr hc1⟩
structure Part(w w':World)(v u:NV)(c:Cn):Prop where
 at_:NAt w' u c
 sub:∀x∈u.F,x∈v.F∨w.heap.size<=x
theorem Hq(w:World)(v:NV)(c:Cn)(n:Nat)(h:NAt w v c)(h1:fU c<=n)(h2:n+fU c<=m6 c)(h3:∀ks ids,c=.br ks ids->ids.length=ks.length+1)(h4:m6 c<=100000) :
  Ret Tryz.prog 236 #[v.ptr,.int .i64 n] w fun r w'=>∃u u':NV,r=.tuple #[u.ptr,str (x3 c n),u'.ptr]/\Part w w' v u (wi c n)/\Part w w' v u' (tO c n)/\Chg [] w w':=by
 have hlt:=h.lt;obtain⟨b,vp,vk,vi⟩:=v;obtain⟨hB,hp,hk,hi,hap⟩:=h;refine enter [4,5,6] Tryz.func236 rfl rfl (al rfl) (zSR (zaa rfl (za rfl (a8 (a6 (ae (zSR (zm rfl (zn rfl rfl (a7 rfl (aa bQ rfl I4 rfl rfl) ?_))))))))));cases c with
 | leaf ps =>
  replace hB:Blk w b [.bool true,vp,vk,vi]:=hB;replace hp:Sl w vp ps:=hp;replace h1:1<=n:=h1;replace h4:ps.length<=100000:=h4;replace h2:n+1<=ps.length:=h2;have hbp:∀x∈ax vp,x<w.heap.size:=hp.lt;have hob1:∃p c,vp=.slice p ps.length c:=hp.form rfl;obtain⟨pp,cp,rfl⟩:=hob1;have hob2:∃a,ps[n]?=some a:=⟨_,bX (by omega)⟩
  obtain⟨a,ha⟩:=hob2;have hck:x3 (.leaf ps) n=a.1:=by
   show(ps.getD n ([],[])).1=_;rw[eB,ha];rfl
  rw[hck];have hfin:∀{w':World} {b1 b2 c1 c2:Nat} {p1 p2:Option Addr},w.heap.size<=b1->w.heap.size<=b2->Blk w' b1 [.bool true,.slice p1 n c1,.slice none 0 0,.slice none 0 0]->Blk w' b2 [.bool true,.slice p2 (ps.length-n) c2,.slice none 0 0,.slice none 0 0]->Sl w (.slice p1 n c1) (ps.take n)->Sl w (.slice p2 (ps.length-n) c2) (ps.drop n)->ax (.slice p1 n c1)=ax (.slice pp ps.length cp)->ax (.slice p2 (ps.length-n) c2)=ax (.slice pp ps.length cp)->Chg [] w w' ->
    ∃u u':NV,Value.tuple #[.pointer (some ⟨b1,0,none⟩),str a.1,.pointer (some ⟨b2,0,none⟩)]=.tuple #[u.ptr,str a.1,u'.ptr]/\Part w w' ⟨b,.slice pp ps.length cp,vk,vi⟩ u (wi (.leaf ps) n)/\Part w w' ⟨b,.slice pp ps.length cp,vk,vi⟩ u' (tO (.leaf ps) n)/\Chg [] w w':=fun {w' b1 b2 c1 c2 p1 p2} hn1 hn2 hB1 hB2 hs1 hs2 hb1 hb2 hc=>by
   refine⟨⟨b1,.slice p1 n c1,.slice none 0 0,.slice none 0 0⟩,⟨b2,.slice p2 (ps.length-n) c2,.slice none 0 0,.slice none 0 0⟩,rfl,⟨⟨hB1,hs1.mod0 hc,Sl.nil _ _,Sl.nil _ _,fun x hx=>?_⟩,fun x hx=>?_⟩,⟨⟨hB2,hs2.mod0 hc,Sl.nil _ _,Sl.nil _ _,fun x hx=>?_⟩,fun x hx=>?_⟩,hc⟩
   ·simp only[ax,cy] at hx hb1;rw[hb1] at hx
    have:=hbp x hx;show x≠b1;omega
   ·simp only[NV.F,ax,cy,bV] at hx hb1 ⊢;rcases hx with rfl|hx
    ·exact .inr hn1
    ·rw[hb1] at hx;exact .inl (.inr (cG _ hx))
   ·simp only[ax,cy] at hx hb2;rw[hb2] at hx
    have:=hbp x hx;show x≠b2;omega
   ·simp only[NV.F,ax,cy,bV] at hx hb2 ⊢;rcases hx with rfl|hx
    ·exact .inr hn2
    ·rw[hb2] at hx;exact .inl (.inr (cG _ hx))
  skip
  refine a7 rfl (aC uU4 rfl rfl (hB.c rfl)) (a8 (a6 (bh (rfl) (ae (aG bz (.pure 0 (.pure 1 (.pure 2 (.read 3 (.pure 4 (.pure 5 (.pure 6 (.pure 7 (.pure 9 (.pure 10 (.pure 11 (.read 12 (.pure 13 (.pure 14 (.pure 15 (.read 16 (.pure 17 (.pure 18 (.pure 19 (.read 20 (.pure 21 (.pure 22 (.pure 23 (.alt (.eff 8 [12,16,20] (.pure 25 (.pure 26 (.eff 24 [3,12,16] (.pure 27 .nil))))) (.eff 24 [3,12,16] (.eff 8 [12,16,20] (.pure 25 (.pure 26 (.pure 27 .nil))))))))))))))))))))))))))))) (by kernel_rfl) ?_)))));refine ym rfl (yn rfl (yp rfl (fun _=>(aa bQ rfl I33 rfl rfl)) ?_));refine aH rfl rfl rfl dc rfl rfl (hB.c rfl) (ym rfl (ym rfl (yex rfl (ou n n dc I49 hp rfl rfl rfl rfl rfl ⟨aM _,by omega⟩) ?_)));rintro _ ⟨⟨p1,rfl⟩,hs1,hb1⟩;refine yp rfl (fun _=>bP bQ wD rfl (zs:=[.bool false,.slice none 0 0,.slice none 0 0,.slice none 0 0]) rfl rfl (bI rfl rfl rfl (al rfl) (bI rfl rfl rfl (al rfl) (dP (cs':=[.bool true,.slice p1 n n,.slice none 0 0,.slice none 0 0]) rfl)))) ?_;refine ym rfl (yn rfl (yp rfl (fun _=>(aa bQ rfl I33 rfl rfl)) ?_));refine aH rfl rfl rfl dc rfl rfl (hB.c rfl) (ym rfl (yex rfl (aU (n) dc I49 rfl (hp) rfl rfl (by first|rfl|omega) (by omega)) ?_));rintro _ ⟨bi,oi,rfl,hei,hbi⟩;refine yp rfl (fun _=>(aa j1 rfl I9 rfl rfl)) ?_;refine aH rfl rfl rfl uU9 rfl rfl (((hp.at hei ha).c0 rfl:_=some (str a.1))) ?_;refine ym rfl (yn rfl (yp rfl (fun _=>(aa bQ rfl I33 rfl rfl)) ?_));refine aH rfl rfl rfl dc rfl rfl (hB.c rfl) (ym rfl (yex rfl (eH n dc I49 rfl hp rfl rfl rfl (by omega)) ?_));rintro _ ⟨⟨p2,c2,rfl⟩,hs2,hb2⟩;refine yp rfl (fun _=>bP bQ wD rfl (zs:=[.bool false,.slice none 0 0,.slice none 0 0,.slice none 0 0]) rfl rfl (bI rfl rfl rfl (al rfl) (bI rfl rfl rfl (al rfl) (dP (cs':=[.bool true,.slice p2 (ps.length-n) c2,.slice none 0 0,.slice none 0 0]) rfl)))) ?_;refine en ?_ ?_
  ·refine eC rfl (cT (l:=[.bool true,.slice p1 n n,.slice none 0 0,.slice none 0 0]) rfl rfl) ?_;rintro _ w1 ⟨b1,rfl,hn1,hB1,hc1,hl1⟩;have hc1:Chg [] w w1:=(drw w).tr hc1;have hn1:w.heap.size<=b1:=hn1;refine⟨⟨(hB.chg0 hc1).c rfl,((hp.mod0 hc1).at hei ha).c0 rfl,(hB.chg0 hc1).c rfl,trivial⟩,?_⟩;refine ya rfl (ya rfl (eC rfl (cT (l:=[.bool true,.slice p2 (ps.length-n) c2,.slice none 0 0,.slice none 0 0]) rfl rfl) ?_));rintro _ w2 ⟨b2,rfl,hn2,hB2,hc2,hl2⟩;have hc02:=hc1.tr hc2;refine⟨⟨(hB.chg0 hc02).c rfl,(hB.chg0 hc02).c rfl,((hp.mod0 hc02).at hei ha).c0 rfl,trivial⟩,?_⟩;refine ya rfl (aJ (a6 (zrt ?_)));exact hfin hn1 (by have:=hc1.1;omega) (hB1.chg0 hc2) hB2 hs1 hs2 hb1 hb2 hc02
  ·refine eC rfl (cT (l:=[.bool true,.slice p2 (ps.length-n) c2,.slice none 0 0,.slice none 0 0]) rfl rfl) ?_;rintro _ w2 ⟨b2,rfl,hn2,hB2,hc2,hl2⟩;have hc2:Chg [] w w2:=(drw w).tr hc2;have hn2:w.heap.size<=b2:=hn2;refine⟨⟨(hB.chg0 hc2).c rfl,(hB.chg0 hc2).c rfl,((hp.mod0 hc2).at hei ha).c0 rfl,trivial⟩,?_⟩;refine eC rfl (cT (l:=[.bool true,.slice p1 n n,.slice none 0 0,.slice none 0 0]) rfl rfl) ?_;rintro _ w1 ⟨b1,rfl,hn1,hB1,hc1,hl1⟩;have hc02:=hc2.tr hc1;refine⟨⟨(hB.chg0 hc02).c rfl,((hp.mod0 hc02).at hei ha).c0 rfl,(hB.chg0 hc02).c rfl,trivial⟩,?_⟩;refine ya rfl (ya rfl (ya rfl (aJ (a6 (zrt ?_)))));exact hfin (by have:=hc2.1;omega) hn2 hB1 (hB2.chg0 hc1) hs1 hs2 hb1 hb2 hc02
 | br ks ids =>
  have h3:=h3 ks ids rfl;replace hB:Blk w b [.bool false,vp,vk,vi]:=hB;replace hk:Sl w vk ks:=hk;replace hi:Sl w vi ids:=hi;replace h1:2<=n:=h1;replace h4:ids.length<=100000:=h4;replace h2:n+2<=ids.length:=h2;have hbk:∀x∈ax vk,x<w.heap.size:=hk.lt;have hbi:∀x∈ax vi,x<w.heap.size:=hi.lt;have hob3:∃p c,vk=.slice p ks.length c:=hk.form rfl;obtain⟨pk,ck,rfl⟩:=hob3;have hob4:∃p c,vi=.slice p ids.length c:=hi.form rfl;obtain⟨pi,ci,rfl⟩:=hob4;have hob5:∃a,ks[n-1]?=some a:=⟨_,bX (by omega)⟩
  obtain⟨a,ha⟩:=hob5;have hck:x3 (.br ks ids) n=a:=by
   show ks.getD (n-1) []=_;rw[eB,ha];rfl
  rw[hck];have hfin:∀{w':World} {b1 b2 c2 c4:Nat} {p1 p2 p3 p4:Option Addr},w.heap.size<=b1->w.heap.size<=b2->Blk w' b1 [.bool false,.slice none 0 0,.slice p1 (n-1) (n-1),.slice p3 n n]->Blk w' b2 [.bool false,.slice none 0 0,.slice p2 (ks.length-n) c2,.slice p4 (ids.length-n) c4] ->
    Sl w (.slice p1 (n-1) (n-1)) (ks.take (n-1))->Sl w (.slice p2 (ks.length-n) c2) (ks.drop n)->Sl w (.slice p3 n n) (ids.take n)->Sl w (.slice p4 (ids.length-n) c4) (ids.drop n) ->
    ax (.slice p1 (n-1) (n-1))=ax (.slice pk ks.length ck)->ax (.slice p2 (ks.length-n) c2)=ax (.slice pk ks.length ck)->ax (.slice p3 n n)=ax (.slice pi ids.length ci)->ax (.slice p4 (ids.length-n) c4)=ax (.slice pi ids.length ci)->Chg [] w w' ->
    ∃u u':NV,Value.tuple #[.pointer (some ⟨b1,0,none⟩),str a,.pointer (some ⟨b2,0,none⟩)]=.tuple #[u.ptr,str a,u'.ptr]/\Part w w' ⟨b,vp,.slice pk ks.length ck,.slice pi ids.length ci⟩ u (wi (.br ks ids) n)/\Part w w' ⟨b,vp,.slice pk ks.length ck,.slice pi ids.length ci⟩ u' (tO (.br ks ids) n)/\Chg [] w w':=fun {w' b1 b2 c2 c4 p1 p2 p3 p4} hn1 hn2 hB1 hB2 hs1 hs2 hs3 hs4 hb1 hb2 hb3 hb4 hc=>by
   have hold:∀x∈ax (.slice pk ks.length ck)++ax (.slice pi ids.length ci),x<w.heap.size:=fun x hx=>(List.mem_append.1 hx).elim (hbk x) (hbi x);refine⟨⟨b1,.slice none 0 0,.slice p1 (n-1) (n-1),.slice p3 n n⟩,⟨b2,.slice none 0 0,.slice p2 (ks.length-n) c2,.slice p4 (ids.length-n) c4⟩,rfl,⟨⟨hB1,Sl.nil _ _,hs1.mod0 hc,hs3.mod0 hc,fun x hx=>?_⟩,fun x hx=>?_⟩,⟨⟨hB2,Sl.nil _ _,hs2.mod0 hc,hs4.mod0 hc,fun x hx=>?_⟩,fun x hx=>?_⟩,hc⟩
   ·have hx:x∈ax (.slice p1 (n-1) (n-1))++ax (.slice p3 n n):=hx;rw[hb1,hb3] at hx
    have:=hold x hx;show x≠b1;omega
   ·have hx:x∈b1::(ax (.slice p1 (n-1) (n-1))++ax (.slice p3 n n)):=hx;rw[hb1,hb3] at hx;rcases List.mem_cons.1 hx with rfl|hx
    ·exact .inr hn1
    ·exact .inl (bN _ (cj _ hx))
   ·have hx:x∈ax (.slice p2 (ks.length-n) c2)++ax (.slice p4 (ids.length-n) c4):=hx;rw[hb2,hb4] at hx
    have:=hold x hx;show x≠b2;omega
   ·have hx:x∈b2::(ax (.slice p2 (ks.length-n) c2)++ax (.slice p4 (ids.length-n) c4)):=hx;rw[hb2,hb4] at hx;rcases List.mem_cons.1 hx with rfl|hx
    ·exact .inr hn2
    ·exact .inl (bN _ (cj _ hx))
  skip
  refine a7 rfl (aC uU4 rfl rfl (hB.c rfl)) (a8 (a6 (aK (rfl) (aw (a6 (ae (aG bz (.pure 0 (.pure 1 (.pure 2 (.read 3 (.pure 4 (.pure 5 (.pure 6 (.pure 7 (.pure 8 (.pure 9 (.pure 10 (.pure 11 (.read 12 (.pure 13 (.pure 14 (.pure 15 (.pure 16 (.pure 18 (.pure 19 (.pure 20 (.read 21 (.pure 22 (.pure 23 (.pure 24 (.read 25 (.pure 26 (.pure 27 (.pure 28 (.read 29 (.pure 30 (.pure 31 (.pure 32 (.pure 33 (.pure 34 (.read 35 (.pure 36 (.pure 37 (.pure 38 (.alt (.eff 17 [21,25,29,35] (.pure 40 (.pure 41 (.eff 39 [3,12,21,25] (.pure 42 .nil))))) (.eff 39 [3,12,21,25] (.eff 17 [21,25,29,35] (.pure 40 (.pure 41 (.pure 42 .nil)))))))))))))))))))))))))))))))))))))))))))) (by kernel_rfl) ?_)))))));refine ym rfl (yn rfl (yp rfl (fun _=>(aa bQ rfl I70 rfl rfl)) ?_));refine aH rfl rfl rfl cL rfl rfl (hB.c rfl) (ym rfl (yp rfl (fun _=>(bg rfl rfl (by omega))) ?_));refine ym rfl (yp rfl (fun _=>(bg rfl rfl (by omega))) ?_);refine yex rfl (ou (n-1) (n-1) cL I9 hk rfl rfl rfl (by omega) (by omega) ⟨aM _,by omega⟩) ?_;rintro _ ⟨⟨p1,rfl⟩,hs1,hb1⟩;refine ym rfl (yn rfl (yp rfl (fun _=>(aa bQ rfl I41 rfl rfl)) ?_));refine aH rfl rfl rfl aX rfl rfl (hB.c rfl) (ym rfl (ym rfl (yex rfl (ou n n aX I25 hi rfl rfl rfl rfl rfl ⟨aM _,by omega⟩) ?_)));rintro _ ⟨⟨p3,rfl⟩,hs3,hb3⟩;refine yp rfl (fun _=>bP bQ wD rfl (zs:=[.bool false,.slice none 0 0,.slice none 0 0,.slice none 0 0]) rfl rfl (bI rfl rfl rfl (al rfl) (bI rfl rfl rfl (al rfl) (dP (cs':=[.bool false,.slice none 0 0,.slice p1 (n-1) (n-1),.slice p3 n n]) rfl)))) ?_;refine ym rfl (yn rfl (yp rfl (fun _=>(aa bQ rfl I70 rfl rfl)) ?_));refine aH rfl rfl rfl cL rfl rfl (hB.c rfl) (ym rfl (yp rfl (fun _=>(bg rfl rfl (by omega))) ?_));refine yex rfl (aU (n-1) cL I9 rfl (hk) rfl rfl (by first|rfl|omega) (by omega)) ?_;rintro _ ⟨bi,oi,rfl,hei,hbi⟩;refine aH rfl rfl rfl uU9 rfl rfl (((hk.at hei ha).c0 rfl:_=some (str a))) ?_;refine ym rfl (yn rfl (yp rfl (fun _=>(aa bQ rfl I70 rfl rfl)) ?_));refine aH rfl rfl rfl cL rfl rfl (hB.c rfl) (ym rfl (yex rfl (eH n cL I9 rfl hk rfl rfl rfl (by omega)) ?_));rintro _ ⟨⟨p2,c2,rfl⟩,hs2,hb2⟩;refine ym rfl (yn rfl (yp rfl (fun _=>(aa bQ rfl I41 rfl rfl)) ?_));refine aH rfl rfl rfl aX rfl rfl (hB.c rfl) (ym rfl (yex rfl (eH n aX I25 rfl hi rfl rfl rfl (by omega)) ?_));rintro _ ⟨⟨p4,c4,rfl⟩,hs4,hb4⟩;refine yp rfl (fun _=>bP bQ wD rfl (zs:=[.bool false,.slice none 0 0,.slice none 0 0,.slice none 0 0]) rfl rfl (bI rfl rfl rfl (al rfl) (bI rfl rfl rfl (al rfl) (dP (cs':=[.bool false,.slice none 0 0,.slice p2 (ks.length-n) c2,.slice p4 (ids.length-n) c4]) rfl)))) ?_;refine en ?_ ?_
  ·refine eC rfl (cT (l:=[.bool false,.slice none 0 0,.slice p1 (n-1) (n-1),.slice p3 n n]) rfl rfl) ?_;rintro _ w1 ⟨b1,rfl,hn1,hB1,hc1,hl1⟩;have hc1:Chg [] w w1:=(drw w).tr hc1;have hn1:w.heap.size<=b1:=hn1;refine⟨⟨(hB.chg0 hc1).c rfl,((hk.mod0 hc1).at hei ha).c0 rfl,(hB.chg0 hc1).c rfl,(hB.chg0 hc1).c rfl,trivial⟩,?_⟩;refine ya rfl (ya rfl (eC rfl (cT (l:=[.bool false,.slice none 0 0,.slice p2 (ks.length-n) c2,.slice p4 (ids.length-n) c4]) rfl rfl) ?_));rintro _ w2 ⟨b2,rfl,hn2,hB2,hc2,hl2⟩;have hc02:=hc1.tr hc2;refine⟨⟨(hB.chg0 hc02).c rfl,(hB.chg0 hc02).c rfl,(hB.chg0 hc02).c rfl,((hk.mod0 hc02).at hei ha).c0 rfl,trivial⟩,?_⟩;refine ya rfl (aJ (a6 (zrf ?_)));exact hfin hn1 (by have:=hc1.1;omega) (hB1.chg0 hc2) hB2 hs1 hs2 hs3 hs4 hb1 hb2 hb3 hb4 hc02
  ·refine eC rfl (cT (l:=[.bool false,.slice none 0 0,.slice p2 (ks.length-n) c2,.slice p4 (ids.length-n) c4]) rfl rfl) ?_;rintro _ w2 ⟨b2,rfl,hn2,hB2,hc2,hl2⟩;have hc2:Chg [] w w2:=(drw w).tr hc2;have hn2:w.heap.size<=b2:=hn2;refine⟨⟨(hB.chg0 hc2).c rfl,(hB.chg0 hc2).c rfl,(hB.chg0 hc2).c rfl,((hk.mod0 hc2).at hei ha).c0 rfl,trivial⟩,?_⟩;refine eC rfl (cT (l:=[.bool false,.slice none 0 0,.slice p1 (n-1) (n-1),.slice p3 n n]) rfl rfl) ?_;rintro _ w1 ⟨b1,rfl,hn1,hB1,hc1,hl1⟩;have hc02:=hc2.tr hc1;refine⟨⟨(hB.chg0 hc02).c rfl,((hk.mod0 hc02).at hei ha).c0 rfl,(hB.chg0 hc02).c rfl,(hB.chg0 hc02).c rfl,trivial⟩,?_⟩;refine ya rfl (ya rfl (ya rfl (aJ (a6 (zrf ?_)))));exact hfin (by have:=hc2.1;omega) hn2 hB1 (hB2.chg0 hc1) hs1 hs2 hs3 hs4 hb1 hb2 hb3 hb4 hc02
theorem DE(c:Cn):m6 c<=cnZ c:=by
 cases c with
 | leaf ps => have h1 := m7 ps; show ps.length <= cP ps; omega
 | br ks ids => show ids.length <= 3 + 4 * ids.length + db ks; omega
theorem cutZ_le{c:Cn}{n:Nat}(hz:cnZ c<=900):cnZ (wi c n)<=1000/\cnZ (tO c n)<=1000:=by
 cases c with
 | leaf ps =>
  have:=iX ps n
  have hz:cP ps<=900:=hz;exact⟨by show cP (ps.take n)<=1000;omega,by show cP (ps.drop n)<=1000;omega⟩
 | br ks ids =>
  have h1:=jy ks (n-1);have h2:=jy ks n;have hz:3+4*ids.length+db ks<=900:=hz;refine⟨?_,?_⟩
  ·show 3+4*(ids.take n).length+db (ks.take (n-1))<=1000;rw[bA];omega
  ·show 3+4*(ids.drop n).length+db (ks.drop n)<=1000;rw[bD];omega
theorem vV(w:World)(v:NV)(c:Cn)(n q:Nat)(h:NAt w v c)(hq:Blk w q [v.ptr])(h1:fU c<=n)(h2:n+fU c<=m6 c)(h3:∀ks ids,c=.br ks ids->ids.length=ks.length+1)(hz:cnZ c<=900) :
  Ret Tryz.prog 235 #[.int .i64 n,.pointer (some ⟨q,0,none⟩)] w fun r w'=>r=.int .i64 (Fb c n)/\Chg [] w w':=by
 have hob6:=cutZ_le (n:=n) hz;obtain⟨hza,hzb⟩:=hob6;have h4:=DE c;refine enter [3] Tryz.func235 rfl rfl (al rfl) (zSR (za rfl (zNR (a7 rfl (aC Di rfl rfl (hq.c rfl)) (zm rfl (ah rfl C236 (Hq w v c n h h1 h2 h3 (by omega)) ?_))))));rintro _ w1 ⟨u,u',rfl,hu,hu',hc1⟩;refine zm rfl (zx rfl (zx rfl (zx rfl (zaa rfl (za rfl (zNR (zm rfl (ah rfl C199 (u5 w1 u _ hu.at_ hza) ?_))))))));rintro _ w2 ⟨rfl,hc2⟩;refine zm rfl (ah rfl C199 (u5 w2 u' _ (hu'.at_.chg0 hc2) hzb) ?_);rintro _ w3 ⟨rfl,hc3⟩;refine a7 rfl (sZ rfl rfl) (za rfl (a8 (a6 (zrf ?_))));refine⟨bH ?_,(hc1.tr hc2).tr hc3⟩;unfold Fb;omega
theorem EU(w:World)(v:NV)(c:Cn)(h:NAt w v c)(hok:wm c)(hz:480<cnZ c) :
  Ret Tryz.prog 201 #[v.ptr] w fun r w'=>∃(n:Nat) (u u':NV),fU c<=n/\n+fU c<=m6 c/\Fb c n<=480/\r=.tuple #[u.ptr,str (x3 c n),u'.ptr]/\Part w w' v u (wi c n)/\Part w w' v u' (tO c n)/\Chg [] w w':=by
 have hob7:=Fa hok hz;obtain⟨n0,g1,g2,g3⟩:=hob7;have hz9:cnZ c<=900:=by
  cases c with
  | leaf ps => exact bq hok.2 (by decide)
  | br ks ids => exact bq hok.2.2 (by decide)
 have h3:∀ks ids,c=.br ks ids->ids.length=ks.length+1:=fun ks ids e=>by subst e;exact hok.2.1
 have hmany:m6 c<=1000:=by have:=DE c;omega
 have hlt:=h.lt;refine enter [2,3,4] Tryz.func201 rfl rfl (al rfl) (zSR (aY rfl (cT (l:=[v.ptr]) rfl rfl) ?_));rintro _ w1 ⟨q,rfl,hnq,hq1,hc1,hl1⟩;refine zaa rfl (za rfl (a8 (a6 ?_)));have h1:=h.chg0 hc1;have hB1:Blk w1 v.b [.bool (cnL c),v.p,v.k,v.i]:=h1.blk;refine zSR (za rfl (a8 (a6 (dX [1,5] (fun vs w'=>vs=[.pointer (some ⟨q,0,none⟩),.int .i64 (fU c)]/\Chg [] w1 w') ?_ ?_))))
 ·refine zSR (a7 rfl (aC Di rfl rfl (hq1.c rfl)) ?_);refine zn rfl rfl (a7 rfl (aa bQ rfl I4 rfl rfl) (a7 rfl (aC uU4 rfl rfl (hB1.c rfl)) (a7 rfl (cA rfl) (a8 (a6 (bU rfl (fun hl=>?_) (fun hl=>?_)))))))
  ·refine ag (za rfl (a8 (a6 ?_)));refine⟨?_,Chg.refl _⟩;cases c with
   | leaf ps => cases hl
   | br ks ids => rfl
  ·refine aw (a6 ?_);refine⟨?_,Chg.refl _⟩;cases c with
   | leaf ps => rfl
   | br ks ids => cases hl
 ·rintro vs J w2 ⟨rfl,hc2⟩;refine zSR (zma rfl (a8 (a6 (ae (ag ?_)))));have hq2:=hq1.chg0 hc2;have hlm:fU c<=m6 c:=by omega
  refine a7 rfl (De rfl) (za rfl (a8 (a6 (ae (zSR (zma rfl (a8 (a6 (aq (bf [1,5,6,7,8] (fun m vs w'=>∃i best:Nat,vs=[.pointer (some ⟨q,0,none⟩),.int .i64 (fU c),.int .i64 best,.func (.func 235) #[] #[.pointer (some ⟨q,0,none⟩)],.int .i64 i]/\i+m=m6 c+1-fU c/\fU c<=i/\fU c<=best/\best+fU c<=m6 c/\(∀a,fU c<=a->a<i->Fb c best<=Fb c a)/\Chg [] w2 w') (m6 c+1-2*fU c) ?_ ?_))))))))))
  ·exact⟨fU c,fU c,rfl,by omega,aM _,aM _,by omega,fun a h h2=>by omega,Chg.refl _⟩
  ·rintro m vs J w3 ⟨i,best,rfl,him,hli,hlb,hbm,hmin,hc3⟩;refine ae (zSR (zm rfl ?_));have hq3:=hq2.chg0 hc3;have hn3:=(h1.chg0 hc2).chg0 hc3;refine a7 rfl (aC Di rfl rfl (hq3.c rfl)) (ah rfl C237 (H7 w3 v c hn3) ?_);rintro _ _ ⟨rfl,rfl⟩;refine zmv rfl (bg rfl rfl (by omega)) (a7 rfl (gd rfl rfl) ?_);refine a8 (a6 (az rfl (fun hle=>?_) (fun hle=>?_)))
   ·refine aw (a6 (ae (aq (zSR (zmm rfl ?_)))));have hob8:∃z,m=z+1:=⟨m-1,by omega⟩
    obtain⟨m,rfl⟩:=hob8;refine ah rfl (u3 rfl Tryz.func235 rfl rfl) (vV w3 v c i q hn3 hq3 hli (by omega) h3 hz9) ?_;rintro _ w4 ⟨rfl,hc4⟩;refine zmm rfl (ah rfl (u3 rfl Tryz.func235 rfl rfl) (vV w4 v c best q (hn3.chg0 hc4) (hq3.chg0 hc4) hlb hbm h3 hz9) ?_);rintro _ w5 ⟨rfl,hc5⟩;refine a7 rfl (bL rfl rfl) (a8 (a6 ?_));have hc35:=(hc3.tr hc4).tr hc5;refine az rfl (fun hlt=>?_) (fun hlt=>?_)
    ·refine ag (zma rfl (a8 (ay (a6 (ag (zmv rfl (aB rfl rfl (by omega)) (za rfl ?_)))))));refine a8 (a6 (aS (m) (bx (by omega) ?_)));refine⟨i+1,i,rfl,by omega,by omega,hli,by omega,fun a h h2=>?_,hc35⟩;by_cases ha:a<i
     ·have:=hmin a h ha;omega
     ·have:a=i:=by omega
      subst this;exact aM _
    ·refine aw (ay (a6 (ag (zmv rfl (aB rfl rfl (by omega)) (za rfl ?_)))));refine a8 (a6 (aS (m) (bx (by omega) ?_)));refine⟨i+1,best,rfl,by omega,by omega,hlb,hbm,fun a h h2=>?_,hc35⟩;by_cases ha:a<i
     ·exact hmin a h ha
     ·have:a=i:=by omega
      subst this;omega
   ·refine aO (an (an (aE (a6 (ae (ag ?_))))));have hb:=hmin n0 g1 (by omega);refine a7 rfl (aC Di rfl rfl (hq3.c rfl)) (zm rfl (ah rfl C236 (Hq w3 v c best hn3 hlb hbm h3 (by omega)) ?_));rintro _ w4 ⟨u,u',rfl,hu,hu',hc4⟩;refine zx rfl (zx rfl (zx rfl (zaa rfl (za rfl (a8 (a6 (zrf ?_)))))));have hc03:Chg [] w w3:=(hc1.tr hc2).tr hc3;have k03:=hc03.1;exact⟨best,u,u',hlb,hbm,by omega,rfl,⟨hu.at_,fun x hx=>(hu.sub x hx).imp id (fun h=>by omega)⟩,⟨hu'.at_,fun x hx=>(hu'.sub x hx).imp id (fun h=>by omega)⟩,hc03.tr hc4⟩
theorem uR(w:World)(v:NV)(ks:List Bs)(ids:List UInt32)(i:Nat)(h:NAt w v (.br ks ids))(hi:i<ids.length)(hl:ids.length=ks.length+1)(hk:0<ks.length)(hm:ids.length<=10000) :
  Ret Tryz.prog 169 #[v.ptr,.int .i64 i] w fun _ w'=>(∃kv iv,NAt w' ⟨v.b,v.p,kv,iv⟩ (.br (ks.take (i-1)++ks.drop (i-1+1)) (ids.take i++ids.drop (i+1)))/\∀x∈ax kv++ax iv,w.heap.size<=x)/\Chg [v.b] w w':=by
 obtain⟨b,vp,vk,vi⟩:=v;obtain⟨hB,hp,hkk,hii,hap⟩:=h;replace hB:Blk w b [.bool false,vp,vk,vi]:=hB;replace hkk:Sl w vk ks:=hkk;replace hii:Sl w vi ids:=hii;have hbl:=hB.lt;have hpb:∀x∈ax vp,x≠b:=fun x hx=>hap x (cG _ hx);have hib:∀x∈ax vi,x≠b:=fun x hx=>hap x (cj _ (cj _ hx));obtain⟨pk,ck,rfl⟩:∃p c,vk=.slice p ks.length c:=hkk.form rfl;have hmax:max ((i:Int)-1) 0=((i-1:Nat):Int):=by omega
 refine enter [] Tryz.func169 rfl rfl (al rfl) (zSR (zmv rfl (bg rfl rfl (by omega)) (a7 rfl (sZ rfl rfl) (za rfl ?_))));refine a8 (a6 (ae (zSR (zm rfl (zn rfl rfl (a7 rfl (aa bQ rfl I70 rfl rfl) ?_))))));rw[hmax];refine a7 rfl (aC cL rfl rfl (hB.c rfl)) (a7 rfl (aA rfl cL) (a7 rfl (dt rfl rfl) (a8 (a6 (bM rfl (by omega) ?_)))));refine ag (zmm rfl (zn rfl rfl (a7 rfl (aa bQ rfl I70 rfl rfl) ?_)));refine a7 rfl (aC cL rfl rfl (hB.c rfl)) (ah rfl C203 (wF w _ ks hkk (by omega)) ?_);rintro v1 w1 ⟨ho1,hi1,hc1⟩;refine zmm rfl (a7 rfl (aB rfl rfl (by omega)) ?_);have hob1:=ho1.sl.form rfl;obtain⟨p1,c1,rfl⟩:=hob1;refine ah rfl C210 (D6 w1 p1 c1 ks (i-1) ho1 (by omega) (by omega)) ?_;rintro v2 w2 ⟨ho2,hi2,hc2⟩;refine zn rfl rfl (a7 rfl (aa bQ rfl I70 rfl rfl) ?_);have hc02:=hc1.t0 hc2 (fun x hx=>hi1.ge x hx);have hk2:∀x∈ax v2,w.heap.size<=x:=fun x hx=>(hi2 x hx).elim (fun h=>hi1.ge x h) (fun h=>by have:=hc1.1;omega);have hB2:=hB.chg0 hc02;have hob2:=ho2.sl.form rfl;obtain⟨p2,c2,rfl⟩:=hob2;refine aP rfl (bG I70 rfl rfl (hB2) rfl rfl ((by decide:2<4)) rfl (rfl)) ?_;rintro w3 ⟨hB3,hc3,hs3⟩;refine a8 (a6 (ag (zmm rfl (zn rfl rfl (a7 rfl (aa bQ rfl I41 rfl rfl) ?_)))));replace hB3:Blk w3 b [.bool false,vp,.slice p2 (ks.take (i-1)++ks.drop (i-1+1)).length c2,vi]:=hB3;refine a7 rfl (aC aX rfl rfl (hB3.c rfl)) ?_;have hi3:=(hii.mod0 hc02).mod hc3 (fun x hx hh=>by simp at hh;exact hib x hx hh);have ho3:=ho2.mod hc3 (fun x hx hh=>by simp at hh;have:=hk2 x hx;omega);refine ah rfl C200 (qq w3 _ ids hi3 (by omega)) ?_;rintro v4 w4 ⟨ho4,hi4,hc4⟩;refine zmm rfl (a7 rfl (aB rfl rfl (by omega)) ?_);have hob3:=ho4.sl.form rfl;obtain⟨p4,c4,rfl⟩:=hob3;refine ah rfl C211 (D5 w4 p4 c4 ids i ho4 hi (by omega)) ?_;rintro v5 w5 ⟨ho5,hi5,hc5⟩;refine zn rfl rfl (a7 rfl (aa bQ rfl I41 rfl rfl) ?_);have hc35:=hc4.t0 hc5 (fun x hx=>hi4.ge x hx);have k02:=hc02.1;have k3:=hc3.1;have k4:=hc4.1;have hi5':∀x∈ax v5,w3.heap.size<=x:=fun x hx=>(hi5 x hx).elim (fun h=>hi4.ge x h) (fun h=>by omega);have hB5:=hB3.chg0 hc35;have hob4:=ho5.sl.form rfl;obtain⟨p5,c5,rfl⟩:=hob4;refine aP rfl (bG I41 rfl rfl (hB5) rfl rfl ((by decide:3<4)) rfl (rfl)) ?_;rintro w6 ⟨hB6,hc6,hs6⟩;refine a8 (g0 ?_);replace hB6:Blk w6 b [.bool false,vp,.slice p2 (ks.take (i-1)++ks.drop (i-1+1)).length c2,.slice p5 (ids.take i++ids.drop (i+1)).length c5]:=hB6;refine⟨⟨_,_,⟨hB6,?_,?_,?_,fun x hx=>?_⟩,fun x hx=>?_⟩,?_⟩
 ·exact(((hp.mod0 hc02).mod hc3 (fun x hx hh=>by simp at hh;exact hpb x hx hh)).mod0 hc35).mod hc6 (fun x hx hh=>by simp at hh;exact hpb x hx hh)
 ·exact(ho3.mod0 hc35).sl.mod hc6 (fun x hx hh=>by simp at hh;have:=hk2 x hx;omega)
 ·exact ho5.sl.mod hc6 (fun x hx hh=>by simp at hh;have:=hi5' x hx;omega)
 ·rcases List.mem_append.1 hx with hx|hx
  ·exact hpb x hx
  ·rcases List.mem_append.1 hx with hx|hx
   ·have:=hk2 x hx;show x≠b;omega
   ·have:=hi5' x hx;show x≠b;omega
 ·rcases List.mem_append.1 hx with hx|hx
  ·exact hk2 x hx
  ·have:=hi5' x hx;omega
 ·exact((hc02.tr0' hc3).tr (hc35.mono (by simp))).tr hc6
theorem CT.good{V:UInt32->Bs}{d:Nat}{c:Cn}{pg:List UInt32}{m:List Pr}(h:CT V d c pg m)(hz:cnZ c<=480)(hf:jB c):wo c:=by
 have:=h.ok (.inl (by omega))
 cases c with
 | leaf ps => exact ⟨this.1, hz⟩
 | br ks ids => exact ⟨hf, this.2.1, this.1, hz⟩
theorem uc(c:TC)(w:World)(s:TP)(id:UInt32)(n:Cn)(h:c.pg w s)(hw:s.P.now.written id=true)(hv:s.V id=cnB n)(hg:wo n) :
  Ret Tryz.prog 59 #[c.pv,.int .u32 id.toNat] w fun r w'=>(∃v:NV,r=.tuple #[v.ptr,.int .i64 0]/\NAt w' v n/\∀x∈v.F,w.heap.size<=x)/\Chg [] w w':=by
 refine enter [4,5] Tryz.func59 rfl rfl (al rfl) (zSR (zaa rfl (zNR (zmm rfl (ah rfl C102 (GA h id hw) ?_)))));rintro v1 w1 ⟨⟨rv,rfl,hs1⟩,_,hc1⟩;rw[hv] at hs1;refine zm rfl (zx rfl (zx rfl (zaa rfl (a8 (a6 (ae (zSR (zmv rfl (bS rfl rfl) (a8 (a6 (aI rfl (fun h=>h rfl) ?_)))))))))));refine aw (a6 (ae (zSR (zm rfl (ah rfl C103 (E8 w1 rv n hs1) ?_)))));rintro _ _ ⟨rfl,rfl⟩;refine a8 (a6 (aq (zSR (a7 rfl (dB rfl rfl) (za rfl (a8 (a6 ?_)))))));cases n with
 | leaf ps =>
  replace hg:leafOk ps:=hg
  skip
  refine bh (rfl) ?_;refine zSR (zm rfl (ah rfl C104 (Bb w1 rv ps hs1 hg) ?_));rintro _ w2 ⟨⟨lv,rfl,ho2,hi2⟩,hc2⟩;refine zm rfl (zx rfl (zx rfl (zaa rfl (zNR (zm rfl ?_)))));have hob5:=ho2.sl.form rfl;obtain⟨pl,cl,rfl⟩:=hob5;refine a7 rfl (bP bQ wD rfl (zs:=[.bool false,.slice none 0 0,.slice none 0 0,.slice none 0 0]) rfl rfl (bI rfl rfl rfl (al rfl) (bI rfl rfl rfl (al rfl) (dP (cs':=[.bool true,.slice pl ps.length cl,.slice none 0 0,.slice none 0 0]) rfl)))) ?_;refine aY rfl (cT (l:=[.bool true,.slice pl ps.length cl,.slice none 0 0,.slice none 0 0]) rfl rfl) ?_;rintro _ w3 ⟨b3,rfl,hn3,hB3,hc3,hl3⟩;refine zma rfl (za rfl (a8 (a6 (zrb ?_))));have k1:=hc1.1;have k2:=hc2.1;refine⟨⟨⟨b3,.slice pl ps.length cl,.slice none 0 0,.slice none 0 0⟩,rfl,⟨hB3,(ho2.mod0 hc3).sl,Sl.nil _ _,Sl.nil _ _,fun x hx=>?_⟩,fun x hx=>?_⟩,(hc1.tr hc2).tr hc3⟩
  ·simp only[ax,cy] at hx
   have:=ho2.sl.lt x hx;show x≠b3;omega
  ·simp only[NV.F,ax,cy,bV] at hx;rcases hx with rfl|hx
   ·omega
   ·have:=hi2.ge x hx;omega
 | br ks ids =>
  replace hg:brOk ks ids:=hg
  skip
  refine aK (rfl) ?_;refine zSR (a7 rfl (dB rfl rfl) (za rfl ?_));refine a8 (a6 (bh (rfl) (zSR (zm rfl (ah rfl C105 (xk w1 rv ks ids hs1 hg) ?_)))));rintro _ w2 ⟨⟨kv,iv,rfl,hok,hoi,hik,hii⟩,hc2⟩;refine zm rfl (zx rfl (zx rfl (zx rfl (zaa rfl (za rfl (zNR (zmm rfl ?_)))))));have hob6:=hok.sl.form rfl;obtain⟨pk,ck,rfl⟩:=hob6;have hob7:=hoi.sl.form rfl;obtain⟨pi,ci,rfl⟩:=hob7;refine a7 rfl (bP bQ wD rfl (zs:=[.bool false,.slice none 0 0,.slice none 0 0,.slice none 0 0]) rfl rfl (bI rfl rfl rfl (al rfl) (bI rfl rfl rfl (al rfl) (dP (cs':=[.bool false,.slice none 0 0,.slice pk ks.length ck,.slice pi ids.length ci]) rfl)))) ?_;refine aY rfl (cT (l:=[.bool false,.slice none 0 0,.slice pk ks.length ck,.slice pi ids.length ci]) rfl rfl) ?_;rintro _ w3 ⟨b3,rfl,hn3,hB3,hc3,hl3⟩;refine zma rfl (za rfl (a8 (a6 (zrb ?_))));have k1:=hc1.1;have k2:=hc2.1;refine⟨⟨⟨b3,.slice none 0 0,.slice pk ks.length ck,.slice pi ids.length ci⟩,rfl,⟨hB3,Sl.nil _ _,(hok.mod0 hc3).sl,(hoi.mod0 hc3).sl,fun x hx=>?_⟩,fun x hx=>?_⟩,(hc1.tr hc2).tr hc3⟩
  ·have hx:x∈ax (.slice pk ks.length ck)++ax (.slice pi ids.length ci):=hx;rcases List.mem_append.1 hx with hx|hx
   ·have:=hok.sl.lt x hx;show x≠b3;omega
   ·have:=hoi.sl.lt x hx;show x≠b3;omega
  ·have hx:x∈b3::(ax (.slice pk ks.length ck)++ax (.slice pi ids.length ci)):=hx;rcases List.mem_cons.1 hx with rfl|hx
   ·omega
   ·rcases List.mem_append.1 hx with hx|hx
    ·have:=hik.ge x hx;omega
    ·have:=hii.ge x hx;omega
theorem vN(p:Nat->Bool):∀n:Nat,(∀j,j<n->p j=false)∨∃i,i<n/\p i=true/\∀j,j<i->p j=false
 | 0 => .inl (fun j h => by omega)
 | n + 1 => by
  rcases vN p n with h|⟨i,h1,h2,h3⟩
  ·cases hn:p n with
   | true => exact .inr ⟨n, by omega, hn, h⟩
   | false => exact .inl (fun j hj => by
     by_cases hjn:j=n
     ·rw[hjn];exact hn
     ·exact h j (by omega))
  ·exact .inr ⟨i,by omega,h2,h3⟩
theorem TC.ed.upM{c:TC}{xb:Nat}{w w':World}{e:TE}{s':TP}{mv':Value}{made':List UInt32}(h:c.ed xb w e)(hp:c.pg w' s')(hB:Blk w' xb [c.pv,mv',e.gv])(ho:Own w' mv' made')(hg:Own w' e.gv e.gone)(hin:In mv' (ax e.mv) w.heap.size):c.ed xb w' ⟨s',mv',e.gv,made',e.gone⟩:=by
 have hlt:=h.lt;have hw:=h.pg.2.1;refine⟨hp,hB,ho,hg,fun hx=>?_,h.x2,fun x hx hh=>?_,fun x hx=>?_⟩
 ·rcases hin xb hx with q|q
  ·exact h.x1 q
  ·have:=hlt xb (by simp[EF]);omega
 ·rcases hin x hx with q|q
  ·exact h.ap x q hh
  ·have:=hlt x (by simp[EF,hh]);omega
 ·simp only[EF,bV,fQ] at hx;rcases hx with rfl|hx|hx
  ·exact h.fr _ (by simp[EF])
  ·rcases hin x hx with q|q
   ·exact h.fr x (by simp[EF,q])
   ·refine⟨?_,fun hh=>?_⟩
    ·have:=(h.pg.1.2.1).1;omega
    ·have:=h.pg.lt x hh;omega
  ·exact h.fr x (by simp[EF,hx])
theorem TC.ed.upG{c:TC}{xb:Nat}{w w':World}{e:TE}{s':TP}{gv':Value}{gone':List UInt32}(h:c.ed xb w e)(hp:c.pg w' s')(hB:Blk w' xb [c.pv,e.mv,gv'])(hm:Own w' e.mv e.made)(ho:Own w' gv' gone')(hin:In gv' (ax e.gv) w.heap.size):c.ed xb w' ⟨s',e.mv,gv',e.made,gone'⟩:=by
 have hlt:=h.lt;refine⟨hp,hB,hm,ho,h.x1,fun hx=>?_,fun x hx hh=>?_,fun x hx=>?_⟩
 ·rcases hin xb hx with q|q
  ·exact h.x2 q
  ·have:=hlt xb (by simp[EF]);omega
 ·rcases hin x hh with q|q
  ·exact h.ap x hx q
  ·have:=hlt x (by simp[EF,hx]);omega
 ·simp only[EF,bV,fQ] at hx;rcases hx with rfl|hx|hx
  ·exact h.fr _ (by simp[EF])
  ·exact h.fr x (by simp[EF,hx])
  ·rcases hin x hx with q|q
   ·exact h.fr x (by simp[EF,q])
   ·refine⟨?_,fun hh=>?_⟩
    ·have:=(h.pg.1.2.1).1;omega
    ·have:=h.pg.lt x hh;omega
def mZ(n:Nat)(P:Pg):Prop:=∀j,j<n->P.free (UInt32.ofNat j)=false
theorem oC(c:TC)(xb:Nat)(w:World)(e:TE)(v:NV)(n:Cn)(h:c.ed xb w e)(hn:NAt w v n)(hg:wo n)(hz:cnZ n<=480)(hm:e.made.length<=1000)(hk:e.s.k+1<=40000) :
  Ret Tryz.prog 94 #[.pointer (some ⟨xb,0,none⟩),v.ptr] w fun r w'=>(r=.tuple #[.int .u32 0,.int .i64 70]/\mZ c.n e.s.P/\c.to xb w w' e e)∨∃id e',r=.tuple #[.int .u32 id.toNat,.int .i64 0]/\c.to xb w w' e e'/\Stp c.n e e' [id] []/\e'.s.V id=cnB n:=by
 obtain⟨s,mv,gv,made,gone⟩:=e;have hn4:=h.pg.n4;refine enter [4,5] Tryz.func94 rfl rfl (al rfl) (zSR (a7 rfl (gB (v:=.int .u32 ((0:UInt32).toNat:Nat)) rfl) (za rfl ?_)));refine zNR (zm rfl (ah rfl C148 (Ff w v n hn hg) ?_));rintro _ w1 ⟨bv,rfl,ho1,hi1,hc1⟩;refine zm rfl (zx rfl (zx rfl (zaa rfl (a8 (a6 (ae (zSR (zmv rfl (bS rfl rfl) (a8 (a6 (aI rfl (fun h=>h rfl) ?_)))))))))));refine zKR (zm rfl (zn rfl rfl (a7 rfl (aa lT rfl I24 rfl rfl) ?_)));have h1:=h.chg0 hc1;refine a7 rfl (aC nt rfl rfl (h1.blk.c rfl)) ?_;rcases vN (fun j=>s.P.free (UInt32.ofNat j)) c.n with hno|⟨i,hi,hfi,hfl⟩
 ·refine ah rfl C149 (CR h1.pg hno) ?_;rintro _ w2 ⟨rfl,hS2,hc2⟩;refine zm rfl (zx rfl (zx rfl (zaa rfl (a8 (a6 (ae (zSR (zmv rfl (bS rfl rfl) (a8 (a6 (bM rfl (by decide) ?_)))))))))));refine zSR (zmv rfl (gB (v:=.int .u32 ((0:UInt32).toNat:Nat)) rfl) (za rfl ?_));refine a8 (a6 (zrt ?_));have h2:c.ed xb w2 ⟨s,mv,gv,made,gone⟩:=⟨hS2,h1.blk.chg hc2 (h1.fr xb (by simp[EF])).2,h1.mo.mod hc2 (fun x hx=>(h1.fr x (by simp[EF,hx])).2),h1.go.mod hc2 (fun x hx=>(h1.fr x (by simp[EF,hx])).2),h1.x1,h1.x2,h1.ap,h1.fr⟩
  exact .inl ⟨rfl,hno,h2,fun x hx=>.inl hx,(hc1.tr0' (hc2.mono (fun x hx _=>cG _ hx)))⟩
 ·have hob1:∃id,id=UInt32.ofNat i:=⟨_,rfl⟩
  obtain⟨id,hid⟩:=hob1;have hidn:id.toNat<c.n:=by rw[hid,fF];omega
  have hfi:s.P.free id=true:=by rw[hid];exact hfi
  refine ah rfl C149 (HB h1.pg i hi hfl (by rw[<-hid];exact hfi)) ?_;rintro v2 w2 ⟨hv2,hS2,hc2⟩;rw[<-hid] at hv2 hS2;subst hv2;refine zm rfl (zx rfl (zx rfl (zaa rfl (a8 (a6 (ae (zSR (zmv rfl (bS rfl rfl) (a8 (a6 (aI rfl (fun h=>h rfl) ?_)))))))))));refine zKR (zmm rfl (zn rfl rfl (a7 rfl (aa lT rfl I41 rfl rfl) ?_)));have hB2:=h1.blk.chg hc2 (h1.fr xb (by simp[EF])).2;have hm2:=h1.mo.mod hc2 (fun x hx=>(h1.fr x (by simp[EF,hx])).2);have hg2:=h1.go.mod hc2 (fun x hx=>(h1.fr x (by simp[EF,hx])).2);have hlt1:=h1.lt;have hge1:=h1.ge;have k2:=hc2.1;have k1:=hc1.1;have hbv:∀x∈ax bv,x∉c.F++EF xb ⟨s,mv,gv,made,gone⟩/\x<w1.heap.size:=fun x hx=>⟨fun hh=>by
   have h3:=hi1.ge x hx;have h4:=h.lt x hh
   omega,ho1.sl.lt x hx⟩
  have ho2:=ho1.mod hc2 (fun x hx hh=>(hbv x hx).1 (cG _ hh));refine a7 rfl (aC aX rfl rfl (hB2.c rfl)) (zm rfl (iB (id) aX I25 rfl rfl rfl (by decide) (by decide) rfl rfl rfl rfl (hm2) (fun _=>rfl) (by omega) ?_));rintro s3 v3 w3 h3;refine zn rfl rfl (a7 rfl (aa lT rfl I41 rfl rfl) ?_);have hin3:=h3.inn;have hmod3:=h3.mod;have hx3:xb∉ax mv:=h1.x1;have hB3:=hB2.chg hmod3 hx3;have hg3:=hg2.mod hmod3 (fun x hx hh=>h1.ap x hh hx);have ho3:=ho2.mod hmod3 (fun x hx hh=>(hbv x hx).1 (by simp[EF,hh]));have hS3:=PS.chg hS2 hmod3 (fun x hx hh=>(h1.fr x (by simp[EF,hh])).2 hx) (fun x hx=>(h1.fr x (by simp[EF,hx])).1);have hown3:=h3.own;have hob2:=hown3.sl.form rfl;obtain⟨p3,c3,rfl⟩:=hob2;have k3:=hmod3.1;have hxv3:xb∉ax (.slice p3 (made++[id]).length c3):=fun hh=>by
   rcases hin3 xb hh with q|q
   ·exact hx3 q
   ·have:=hlt1 xb (by simp[EF]);omega
  refine aP rfl (bG I41 rfl rfl (hB3) rfl rfl ((by decide:1<3)) rfl (rfl)) ?_;rintro w4 ⟨hB4,hc4,hs4⟩;refine zNR (zmm rfl (zn rfl rfl (a7 rfl (aa lT rfl I24 rfl rfl) ?_)));have hB4:Blk w4 xb [c.pv,.slice p3 (made++[id]).length c3,gv]:=hB4;have hg4:=hg3.mod hc4 (fun x hx hh=>by simp at hh;subst hh;exact h1.x2 hx);have hm4:=hown3.mod hc4 (fun x hx hh=>by simp at hh;subst hh;exact hxv3 hx);have ho4:=ho3.mod hc4 (fun x hx hh=>by simp at hh;subst hh;exact(hbv _ hx).1 (by simp[EF]));have hS4:=PS.chg hS3 hc4 (fun x hx hh=>by simp at hh;subst hh;exact(h1.fr _ (by simp[EF])).2 hx) (fun x hx=>by simp at hx;subst hx;exact(h1.fr _ (by simp[EF])).1);have hob3:=free_iff.1 hfi;obtain⟨hfu,hfk⟩:=hob3;refine a7 rfl (aC nt rfl rfl (hB4.c rfl)) (zmm rfl (ah rfl C150 (Ef hS4 hk id (by rw[fresh_iff];exact⟨by show eU s.P.now.used id id=true;simp[eU],hfk⟩) bv (cnB n) (by rw[mX];exact hz) (.inl ho4.sl) (fun _ x hx hh=>(hbv x hx).1 (cG _ hh))) ?_));rintro _ w5 ⟨rfl,⟨ds5,hS5⟩,hc5⟩;refine zaa rfl (a8 (a6 (zrf ?_)));have hmF:∀x∈ax (.slice p3 (made++[id]).length c3),x∉c.F:=fun x hx hh=>by
   rcases hin3 x hx with q|q
   ·exact(h1.fr x (by simp[EF,q])).2 hh
   ·have:=hlt1 x (cG _ hh);omega
  have hB5:=hB4.chg hc5 (h1.fr xb (by simp[EF])).2;have hm5:=hm4.mod hc5 (fun x hx=>hmF x hx);have hg5:=hg4.mod hc5 (fun x hx=>(h1.fr x (by simp[EF,hx])).2);have hin:In (.slice p3 (made++[id]).length c3) (ax mv) w1.heap.size:=fun x hx=>(hin3 x hx).imp (fun q=>q) (fun q=>by omega);refine .inr ⟨id,_,rfl,⟨h1.upM (s':=⟨s.k+1,ds5,_,_⟩) hS5 hB5 hm5 hg5 hin,fun x hx=>?_,?_⟩,⟨Ext.one hfi hidn ?_,rfl,(cy _).symm,rfl⟩,?_⟩
  ·simp only[EF,bV,fQ] at hx ⊢;rcases hx with rfl|hx|hx
   ·exact .inl (.inl rfl)
   ·rcases hin x hx with q|q
    ·exact .inl (.inr (.inl q))
    ·exact .inr (by omega)
   ·exact .inl (.inr (.inr hx))
  ·refine hc1.tr0' (((hc2.mono (fun x hx _=>cG _ hx)).tr (hmod3.mono (fun x hx _=>?_))).tr ((hc4.mono (fun x hx _=>?_)).tr (hc5.mono (fun x hx _=>cG _ hx))))
   ·simp[EF,hx]
   ·simp at hx;simp[EF,hx]
  ·cases hwr:s.P.now.written id with
   | false => rfl
   | true => rw [h.pg.wu hwr] at hfu; cases hfu
  ·show wM s.V id (cnB n) id=cnB n;simp[wM]
theorem nX(c:TC)(xb:Nat)(w:World)(e:TE)(id:UInt32)(n:Cn)(deep:Nat)(h:c.ed xb w e)(hd:deep<=40)(hw:e.s.P.now.written id=true)(hv:e.s.V id=cnB n)(hg:wo n)(hl:e.gone.length<=1000) :
  Ret Tryz.prog 153 #[.pointer (some ⟨xb,0,none⟩),.int .u32 id.toNat,.int .i64 deep] w fun r w'=>∃v e',r=.tuple #[v.ptr,.int .i64 0]/\c.to xb w w' e e'/\Stp c.n e e' [] [id]/\e'.s=e.s/\c.has xb e' w.heap.size w' v n:=by
 obtain⟨s,mv,gv,made,gone⟩:=e;refine enter [6,7] Tryz.func153 rfl rfl (al rfl) (zSR (zaa rfl (a8 (a6 (ae (zSR (zmv rfl (dt rfl rfl) (a8 (a6 (aI rfl (by omega) ?_))))))))));refine zKR (zm rfl (zn rfl rfl (a7 rfl (aa lT rfl I24 rfl rfl) ?_)));refine a7 rfl (aC nt rfl rfl (h.blk.c rfl)) (zm rfl (ah rfl C59 (uc c w s id n h.pg hw hv hg) ?_));rintro _ w1 ⟨⟨v,rfl,hn1,hv1⟩,hc1⟩;refine zm rfl (zx rfl (zx rfl (zaa rfl (a8 (a6 (ae (zSR (zmv rfl (dB rfl rfl) (a8 (a6 ?_))))))))));have h1:=h.chg0 hc1;refine bM rfl (rfl) ?_;refine ag (zmm rfl (zn rfl rfl (a7 rfl (aa lT rfl I41 rfl rfl) ?_)));have hlt1:=h1.lt;have hnl1:=hn1.lt;have k1:=hc1.1;have hg1:=h1.go;have hob4:=hg1.sl.form rfl;obtain⟨pg1,cg1,hgf⟩:=hob4;refine a7 rfl (aC aX rfl rfl (h1.blk.c rfl)) (zm rfl (iB (id) aX I25 rfl rfl rfl (by decide) (by decide) rfl rfl rfl rfl (hg1) (fun _=>rfl) (by omega) ?_));rintro s3 v3 w3 h3;refine zn rfl rfl (a7 rfl (aa lT rfl I41 rfl rfl) ?_);have hin3:=h3.inn;have hmod3:=h3.mod;have hown3:=h3.own;have k3:=hmod3.1;have hlt:=h.lt;have hnE:∀x∈v.F,x∉EF xb ⟨s,mv,gv,made,gone⟩:=fun x hx hh=>by
  have:=hv1 x hx
  have:=hlt x (cj _ hh)
  omega
 have hn3:=hn1.chg hmod3 (fun x hx hh=>hnE x hx (by simp[EF,hh]));have hB3:=h1.blk.chg hmod3 h1.x2;have hm3:=h1.mo.mod hmod3 (fun x hx hh=>h1.ap x hx hh);have hS3:=h1.pg.chg hmod3 (fun x hx hh=>(h1.fr x (by simp[EF,hh])).2 hx) (fun x hx=>(h1.fr x (by simp[EF,hx])).1);have hob5:=hown3.sl.form rfl;obtain⟨p3,c3,rfl⟩:=hob5;have hxv3:xb∉ax (.slice p3 (gone++[id]).length c3):=fun hh=>by
  rcases hin3 xb hh with q|q
  ·exact h1.x2 q
  ·have:=hlt1 xb (by simp[EF]);omega
 refine aP rfl (bG I41 rfl rfl (hB3) rfl rfl ((by decide:2<3)) rfl (rfl)) ?_;rintro w4 ⟨hB4,hc4,hs4⟩;refine zNR (zmm rfl (zaa rfl (a8 (a6 (zrf ?_)))));have hB4:Blk w4 xb [c.pv,mv,.slice p3 (gone++[id]).length c3]:=hB4;have hm4:=hm3.mod hc4 (fun x hx hh=>by simp at hh;subst hh;exact h1.x1 hx);have hg4:=hown3.mod hc4 (fun x hx hh=>by simp at hh;subst hh;exact hxv3 hx);have hS4:=hS3.chg hc4 (fun x hx hh=>by simp at hh;subst hh;exact(h1.fr _ (by simp[EF])).2 hx) (fun x hx=>by simp at hx;subst hx;exact(h1.fr _ (by simp[EF])).1);have hn4:=hn3.chg hc4 (fun x hx hh=>by simp at hh;subst hh;exact hnE _ hx (by simp[EF]));refine⟨v,_,rfl,⟨h1.upG hS4 hB4 hm4 hg4 hin3,fun x hx=>?_,?_⟩,⟨Ext.refl _ _ _,(cy _).symm,rfl,rfl⟩,rfl,hn4,fun x hx=>⟨hv1 x hx,fun hh=>?_⟩⟩
 ·simp only[EF,bV,fQ] at hx ⊢;rcases hx with rfl|hx|hx
  ·exact .inl (.inl rfl)
  ·exact .inl (.inr (.inl hx))
  ·rcases hin3 x hx with q|q
   ·exact .inl (.inr (.inr q))
   ·exact .inr (by omega)
 ·refine hc1.tr0' ((hmod3.mono (fun x hx _=>?_)).tr (hc4.mono (fun x hx _=>?_)))
  ·simp[EF,hx]
  ·simp at hx;simp[EF,hx]
 ·simp only[EF,bV,fQ] at hh;rcases hh with rfl|hh|hh
  ·exact hnE _ hx (by simp[EF])
  ·exact hnE _ hx (by simp[EF,hh])
  ·rcases hin3 x hh with q|q
   ·exact hnE _ hx (by simp[EF,q])
   ·have:=hnl1 x hx;omega
theorem undo_ok(c:TC)(xb:Nat)(w:World)(e:TE)(h:c.ed xb w e)(hu:∀x∈e.made,e.s.P.now.used x=true)(hnd:e.made.Nodup)(hl:e.made.length<=1000) :
  Ret Tryz.prog 95 #[.pointer (some ⟨xb,0,none⟩)] w fun _ w'=>(∃s',c.pg w' s'/\s'.V=e.s.V/\s'.k=e.s.k/\s'.P.now.used=(fun x => !e.made.elem x&&e.s.P.now.used x)/\s'.P.now.written=(fun x => !e.made.elem x&&e.s.P.now.written x)/\s'.P.kept=e.s.P.kept/\s'.P.at_=e.s.P.at_)/\Chg c.F w w':=by
 obtain⟨s,mv,gv,made,gone⟩:=e;replace hl:made.length<=1000:=hl;have hmo:Own w mv made:=h.mo;have hfm:∀x∈ax mv,x∉c.F:=fun x hx=>(h.fr x (by simp[EF,hx])).2;have hfx:xb∉c.F:=(h.fr xb (by simp[EF])).2;have hB:Blk w xb [c.pv,mv,gv]:=h.blk;have hob6:∃p c,mv=.slice p made.length c:=hmo.sl.form rfl;obtain⟨pm,cm,rfl⟩:=hob6;refine enter [] Tryz.func95 rfl rfl (al rfl) (zSR (zm rfl (zn rfl rfl (a7 rfl (aa lT rfl I41 rfl rfl) (a7 rfl (aC aX rfl rfl (hB.c rfl)) (a7 rfl (aA rfl aX) (zm rfl (a8 (a6 (aq (bf [0,7,8,9] (fun m vs w'=>∃(i:Nat) (s':TP),vs=[.pointer (some ⟨xb,0,none⟩),.slice pm made.length cm,.int .i64 made.length,.int .i64 i]/\i+m=made.length/\c.pg w' s'/\s'.V=s.V/\s'.k=s.k/\s'.P.now.used=(fun x => !(made.take i).elem x&&s.P.now.used x)/\s'.P.now.written=(fun x => !(made.take i).elem x&&s.P.now.written x)/\s'.P.kept=s.P.kept/\s'.P.at_=s.P.at_/\Chg c.F w w') (made.length) ?_ ?_)))))))))))
 ·exact⟨0,s,rfl,by omega,h.pg,rfl,rfl,by funext x;rfl,by funext x;rfl,rfl,rfl,Chg.refl' _ _⟩
 ·rintro m vs J w1 ⟨i,s1,rfl,hi,hS1,hV1,hk1,hu1,hw1,hkp1,hat1,hc1⟩;refine zSR (a7 rfl (bL rfl rfl) ?_);refine a8 (a6 (ae (az rfl (fun hlt=>?_) (fun hlt=>?_))))
  ·refine aw (a6 (ae (aq (ae (ag ?_)))));have hob7:∃q,m=q+1:=⟨m-1,by omega⟩
   obtain⟨m,rfl⟩:=hob7;have hob8:∃a,made[i]?=some a:=⟨_,bX (by omega)⟩
   obtain⟨a,ha⟩:=hob8;have hm1:=hmo.mod hc1 hfm;have hB1:=hB.chg hc1 hfx;have hob9:=List.getElem?_eq_some_iff.1 ha;obtain⟨hil,hae⟩:=hob9;have hup:made.take (i+1)=made.take i++[a]:=by rw[<-hae,fG hil]
   have hna:a∉made.take i:=fun hh=>by
    have:=hnd.sublist (oh (i+1) made)
    rw[hup,jY] at this;exact this.2.2 a hh a (by simp) rfl
   have hel:∀x,(made.take (i+1)).elem x=(decide (x=a)||(made.take i).elem x):=fun x=>by
    rw[hup];simp only[List.elem_eq_mem,fQ,g8];by_cases h1:x=a <;> by_cases h2:x∈made.take i <;> simp[h1,h2]
   refine bF rfl (aU (i) aX I25 rfl (hm1.sl) rfl rfl (by first|rfl|omega) (by omega)) ?_;rintro _ ⟨bi,oi,rfl,hei,hbi⟩;refine a7 rfl (aC bw rfl rfl (((hm1.sl.at hei ha).c0 rfl:_=some (Value.int .u32 a.toNat)))) ?_;refine za rfl (a8 (a6 (ag (zm rfl (zn rfl rfl (a7 rfl (aa lT rfl I24 rfl rfl) (a7 rfl (aC nt rfl rfl (hB1.c rfl)) (zm rfl ?_))))))));have hua:s1.P.now.used a=true:=by
    rw[hu1];have h1:=hu a (j5 ha);have h2:(made.take i).elem a=false:=by simpa [List.elem_eq_mem] using hna
    simp only[h2,rX,ju];exact h1
   refine ah rfl C128 (vX hS1 a hua) ?_;rintro _ w2 ⟨rfl,hS2,hc2⟩;refine a8 (ay (a6 (ag (a7 rfl (aB rfl rfl (by omega)) (zm rfl ?_)))));refine a8 (a6 (aS (m) (bx (by omega) ?_)));refine⟨i+1,⟨s1.k,s1.ds,{ s1.P with now:={ s1.P.now with used:=eN s1.P.now.used a,written:=eN s1.P.now.written a } },s1.V⟩,rfl,by omega,hS2,hV1,hk1,?_,?_,hkp1,hat1,hc1.tr hc2⟩
   ·show eN s1.P.now.used a=_;rw[hu1];funext x;show(!decide (x=a)&&(!(made.take i).elem x&&s.P.now.used x))=_;rw[hel];cases decide (x=a) <;> cases (made.take i).elem x <;> rfl
   ·show eN s1.P.now.written a=_;rw[hw1];funext x;show(!decide (x=a)&&(!(made.take i).elem x&&s.P.now.written x))=_;rw[hel];cases decide (x=a) <;> cases (made.take i).elem x <;> rfl
  ·refine aO (an (an (aE (g0 ?_))));have hil:i=made.length:=by omega
   subst hil;rw[cZ] at hu1 hw1;exact⟨⟨s1,hS1,hV1,hk1,hu1,hw1,hkp1,hat1⟩,hc1⟩
theorem Dt{α:Type}(a:List α)(x y:α)(b:List α):(a++x::b).set a.length y=a++y::b:=by simp
theorem Au{α:Type}(a:List α)(x:α)(b:List α):(a++x::b).take (a.length+1)=a++[x]:=by
 rw[show a++x::b=(a++[x])++b by simp];exact cI (by simp)
theorem nQ{α:Type}(a:List α)(x:α)(b:List α):(a++x::b).drop (a.length+1)=b:=by
 rw[show a++x::b=(a++[x])++b by simp];exact eG (by simp)
theorem bT(t:List Kd):(bu t).length=t.length:=df ..
theorem TC.ed.w0lo{c:TC}{xb:Nat}{w:World}{e:TE}{lo:Nat}(h:c.ed xb w e)(hf:∀x∈c.F,x<lo):c.w0.heap.size<=lo:=by
 have h1:=h.pg.ge c.R.pb (by simp[TC.F,PF]);have h2:=hf c.R.pb (by simp[TC.F,PF]);omega
theorem vF{A B pg:List UInt32}{i:UInt32}:(A++(i::pg++B)).Perm (A++(pg++B)++[i]):=by
 rw[Bo];exact List.perm_middle.trans (yE _ _).symm
theorem GL{A B p1 p2:List UInt32}{i j:UInt32}:(A++(i::p1++(j::p2++B))).Perm (A++(p1++p2++B)++[i,j]):=by
 have h1:(A++(i::p1++(j::p2++B))).Perm (A++(p1++(j::p2++B))++[i]):=vF;refine h1.trans ?_;have h2:((A++p1)++(j::p2++B)).Perm ((A++p1)++(p2++B)++[j]):=vF;have h3:=h2.append_right [i];simp only[bO] at h3 ⊢;refine h3.trans (pJ _ (pJ _ (pJ _ (pJ _ ?_))));exact List.Perm.swap _ _ _
def ReplR(fl:Prop)(c:TC)(xb:Nat)(lo:Nat)(w:World)(e:TE)(v:NV)(z:Nat)(d:Nat)(pg:List UInt32)(m:List Pr)(r:Value)(w':World):Prop :=
 ∃e' new,c.ed xb w' e'/\(∀x∈EF xb e',x∈EF xb e∨w.heap.size<=x)/\Chg (v.b::(c.F++EF xb e)) w w'/\Stp c.n e e' new [] /\
  ((r=.int .i64 70/\mZ c.n e'.s.P/\new.length<=1) ∨
   (r=.int .i64 0/\new.length<=2/\∃n' pg' kv iv,CT e'.s.V (d+1) n' pg' m/\pg'.Perm (pg++new)/\cnZ n'<=z+66/\(fl->jB n')/\c.has xb e' lo w' ⟨v.b,v.p,kv,iv⟩ n'))
theorem mN(c:TC)(xb:Nat)(w:World)(e:TE)(v u:NV)(lo d:Nat)(K1 K2:List Bs)(A B:List Kd)(id0:UInt32)(n:Cn)(pg:List UInt32)(m:List Pr)
  (h:c.ed xb w e) (hv:c.has xb e lo w v (.br (K1++K2) (bu A++id0::bu B))) (hu:c.has xb e lo w u n) (hf:∀x∈c.F,x<lo)
  (hole:Hole e.s.V d K1 K2 A B m) (hct:CT e.s.V d n pg m) (hm:m≠[]) (hfull:jB n) (hno:wm n)
  (hw:∀x∈pgT A++(pg++pgT B),e.s.P.now.written x=true) (hml:e.made.length<=900) (hk:e.s.k+2<=40000) (hl:(bu A++id0::bu B).length<=10000) :
  Ret Tryz.prog 156 #[.pointer (some ⟨xb,0,none⟩),v.ptr,.int .i64 A.length,u.ptr] w (ReplR (K1++K2≠[]∨480<cnZ n) c xb lo w e v (cnZ (.br (K1++K2) (bu A++id0::bu B))) d (pgT A++(pg++pgT B)) (prT A++(m++prT B))):=by
 have hAK:=hole.la;have hBK:=hole.lb;have hKl:(K1++K2).length<=10000:=by
  rw[aF,bY,bT,bT] at hl;rw[aF];omega
 have hIl:(bu A++id0::bu B).length=A.length+1+B.length:=by rw[aF,bY,bT,bT];omega
 have hzn:cnZ n<=900:=by
  cases n with
  | leaf ps => exact bq hno.2 (by decide)
  | br ks ids => exact bq hno.2.2 (by decide)
 have hlo:lo<=w.heap.size:=by
  have h1:=(hv.new v.b (by simp[NV.F])).1;have h2:=hv.at_.lt v.b (by simp[NV.F]);omega
 refine enter [8] Tryz.func156 rfl rfl (al rfl) (zSR (za rfl (a8 (a6 (ae (zSR (zm rfl (ah rfl C199 (u5 w u n hu.at_ (by omega)) ?_))))))));rintro _ w1 ⟨rfl,hc1⟩;refine a7 rfl (gd rfl rfl) (a8 (a6 ?_));have h1:=h.chg0 hc1;have hv1:=hv.still hc1;have hu1:=hu.still hc1;refine az rfl (fun hz=>?_) (fun hz=>?_)
 ·refine zSR (zmm rfl ?_);have hz4:cnZ n<=480:=by omega
  refine ah rfl C94 (oC c xb w1 e u n h1 hu1.at_ (CT.good hct hz4 hfull) hz4 (by omega) (by omega)) ?_;rintro v2 w2 hr2;obtain⟨id,er,e2,new,hv2,hto2,hst2,hres⟩:∃(id:UInt32) (er:Int) (e2:TE) (new:List UInt32),v2=.tuple #[.int .u32 id.toNat,.int .i64 er]/\c.to xb w1 w2 e e2/\Stp c.n e e2 new []/\((er=70/\mZ c.n e2.s.P/\new=[])∨(er=0/\new=[id]/\e2.s.V id=cnB n)):=by
   rcases hr2 with⟨q1,q2,q3⟩|⟨id,e2,q1,q2,q3,q4⟩
   ·exact⟨0,70,e,[],q1,q3,Stp.refl _ _,.inl ⟨rfl,q2,rfl⟩⟩
   ·exact⟨id,0,e2,[id],q1,q2,q3,.inr ⟨rfl,rfl,q4⟩⟩
  clear hr2
  subst hv2;have h2:=hto2.at_;have hv2':=hv1.step hto2 hf;have hn2:=hv2'.at_;obtain⟨vb,vp,vk,vi⟩:=v;have hB2:Blk w2 vb [.bool false,vp,vk,vi]:=hn2.blk;have hi2:Sl w2 vi (bu A++id0::bu B):=hn2.i;have hlt2:=h2.lt;have hvb:vb∉c.F++EF xb e2:=hv2'.far hf vb (by simp[NV.F]);refine zm rfl (zx rfl (zx rfl (zaa rfl (zNR (zmm rfl (zn rfl rfl (a7 rfl (aa bQ rfl I41 rfl rfl) (a7 rfl (aC aX rfl rfl (hB2.c rfl)) (ah rfl C200 (qq w2 vi _ hi2 (by omega)) ?_)))))))));rintro v3 w3 ⟨ho3,hin3,hc3⟩;refine zn rfl rfl (a7 rfl (aa bQ rfl I41 rfl rfl) ?_);have hB3:=hB2.chg0 hc3;have hob1:=ho3.sl.form rfl;obtain⟨p3,c3,rfl⟩:=hob1;have hin3':=hin3.ge;have hlt2':=hB2.lt;have hb3:∀x∈ax (.slice p3 (bu A++id0::bu B).length c3),x≠vb:=fun x hx=>by have:=hin3' x hx;omega
  refine aP rfl (bG I41 rfl rfl (hB3) rfl rfl ((by decide:3<4)) rfl (rfl)) ?_;rintro w4 ⟨hB4,hc4,hs4⟩;refine zNR (zm rfl (zn rfl rfl (a7 rfl (aa bQ rfl I41 rfl rfl) ?_)));replace hB4:Blk w4 vb [.bool false,vp,vk,.slice p3 (bu A++id0::bu B).length c3]:=hB4;have ho4:=ho3.mod hc4 (fun x hx hh=>by simp at hh;exact hb3 x hx hh);refine a7 rfl (aC aX rfl rfl (hB4.c rfl)) (zmm rfl (bF rfl (aU (A.length) aX I25 rfl (ho4.sl) rfl rfl (by first|rfl|omega) (by omega)) ?_));rintro _ ⟨bi,oi,rfl,hei,hbi⟩;refine aP rfl (bR (a:=id) I25 rfl (ho4) rfl (hei) rfl rfl (by omega)) ?_;rintro w5 ⟨ho5,hc5,hs5⟩;refine zNR (zma rfl (a8 (a6 (zrt ?_))));rw[<-bT A,Dt] at ho5;have hl5:(bu A++id0::bu B).length=(bu A++id::bu B).length:=by simp
  rw[hl5] at ho5 hc5;have hc5':Chg (ax (.slice p3 (bu A++id0::bu B).length c3)) w4 w5:=by rw[hl5];exact hc5
  have hc23:Chg [vb] w2 w3:=hc3.mono (by simp);have k2:=hto2.chg.1;have k1:=hc1.1;have k3:=hc3.1;have k4:=hc4.1;have hc25:Chg [vb] w2 w5:=(hc23.tr hc4).trans hc5' (fun _ hx _=>hx) (fun x hx hl=>by have:=hin3' x hx;omega);have hw0:=h.w0lo hf;have hlob:=(hv2'.new vb (by simp[NV.F])).1;have h5:c.ed xb w5 e2:=h2.chg hc25 (fun x hx hh=>by simp at hh;subst hh;exact hvb hx) (fun x hx=>by simp at hx;subst hx;omega);have hB5:=hB4.chg hc5' (fun hh=>hb3 vb hh rfl);rw[hl5] at hB5;have hnp:∀x∈ax vp,x≠vb:=fun x hx=>hn2.ap x (cG _ hx);have hnk:∀x∈ax vk,x≠vb:=fun x hx=>hn2.ap x (cj _ (cG _ hx));have hn5:NAt w5 ⟨vb,vp,vk,.slice p3 (bu A++id::bu B).length c3⟩ (.br (K1++K2) (bu A++id::bu B)):=⟨hB5,hn2.p.mod hc25 (fun x hx hh=>by simp at hh;exact hnp x hx hh),hn2.k.mod hc25 (fun x hx hh=>by simp at hh;exact hnk x hx hh),ho5.sl,fun x hx=>by
   rcases List.mem_append.1 hx with hx|hx
   ·exact hnp x hx
   ·rcases List.mem_append.1 hx with hx|hx
    ·exact hnk x hx
    ·have hx:x∈ax (.slice p3 (bu A++id::bu B).length c3):=hx;rw[<-hl5] at hx;exact hb3 x hx⟩
  have hhas:c.has xb e2 lo w5 ⟨vb,vp,vk,.slice p3 (bu A++id::bu B).length c3⟩ (.br (K1++K2) (bu A++id::bu B)):=⟨hn5,fun x hx=>by
   have hx:x∈vb::(ax vp++(ax vk++ax (.slice p3 (bu A++id::bu B).length c3))):=hx;rw[<-hl5] at hx;simp only[bV,fQ] at hx;rcases hx with rfl|hx|hx|hx
   ·exact hv2'.new _ (by simp[NV.F])
   ·exact hv2'.new _ (by simp[NV.F,hx])
   ·exact hv2'.new _ (by simp[NV.F,hx])
   ·have:=hin3' x hx
    exact⟨by omega,fun hh=>by have:=hlt2 x (cj _ hh);omega⟩⟩
  have hgrow:∀x∈EF xb e2,x∈EF xb e∨w.heap.size<=x:=fun x hx=>(hto2.grow x hx).imp (fun q=>q) (fun q=>by omega);have hchg:Chg (vb::(c.F++EF xb e)) w w5:=((hc1.mono (by simp)).tr (hto2.chg.mono (fun x hx _=>bN _ hx))).tr (hc25.mono (fun x hx _=>by simp at hx;subst hx;exact cK));refine⟨e2,new,h5,hgrow,hchg,hst2,?_⟩;rcases hres with⟨rfl,q2,rfl⟩|⟨rfl,rfl,q4⟩
  ·exact .inl ⟨rfl,q2,by simp⟩
  ·refine .inr ⟨rfl,by simp,_,_,_,_,?_,vF,?_,?_,hhas⟩
   ·have hold:=hst2.ext.old;exact(hole.mono (fun y hy=>hold y (hw y (by rcases List.mem_append.1 hy with q|q <;> simp[q])))).fill ((hct.mono (fun y hy=>hold y (hw y (by simp[hy])))).saved hz4 hfull q4) hm
   ·show brZ _ _<=brZ _ _+66;rw[Hw K1 K2 _ _ id id0];omega
   ·intro g;exact g.elim (fun g=>g) (fun g=>by omega)
 ·refine zKR (zm rfl ?_);have hz4:480<cnZ n:=by omega
  refine ah rfl C201 (EU w1 u n hu1.at_ hno hz4) ?_;rintro _ w2 ⟨q,u1,u2,hq1,hq2,hq3,rfl,hp1,hp2,hc2⟩;refine zm rfl (zx rfl (zx rfl (zx rfl (zaa rfl (za rfl (zNR (zmm rfl ?_)))))));have hob2:=hct.cuts hq1 hq2;obtain⟨pg1,pg2,m1,m2,rfl,rfl,hct1,hct2,hm1,hm2,hbl,hab,hko,hf1,hf2⟩:=hob2;have hz1:cnZ (wi n q)<=480:=bq (Nat.le_max_left _ _) hq3;have hz2:cnZ (tO n q)<=480:=bq (Nat.le_max_right _ _) hq3;have hob3:∃key,key=x3 n q:=⟨_,rfl⟩
  obtain⟨key,hkey⟩:=hob3;rw[<-hkey];rw[<-hkey] at hbl hab hko;have k1:=hc1.1;have k2:=hc2.1;have h2:=h1.chg0 hc2;have hv2:=hv1.still hc2;have hlt1:=h1.lt;have hu2:c.has xb e lo w2 u2 (tO n q):=⟨hp2.at_,fun x hx=>by
   rcases hp2.sub x hx with g|g
   ·exact hu1.new x g
   ·exact⟨by omega,fun hh=>by have:=hlt1 x (cj _ hh);omega⟩⟩
  have hold1:∀x∈pg1,e.s.P.now.written x=true:=fun x hx=>hw x (by simp[hx]);have hold2:∀x∈pg2,e.s.P.now.written x=true:=fun x hx=>hw x (by simp[hx]);have hc02:=hc1.tr hc2;refine ah rfl C94 (oC c xb w2 e u1 _ h2 hp1.at_ (CT.good hct1 hz1 hf1) hz1 (by omega) (by omega)) ?_;rintro v3 w3 hr3;rcases hr3 with⟨rfl,g2,g3⟩|⟨id1,e3,rfl,hto3,hst3,hV3⟩
  ·refine zm rfl (zx rfl (zx rfl (zaa rfl (a8 (a6 (ae (zSR (zmv rfl (bS rfl rfl) (a8 (a6 (bM rfl (by decide) ?_)))))))))));refine zSR (zma rfl (a8 (a6 (zrt ?_))));exact⟨e,[],g3.at_,fun x hx=>(g3.grow x hx).imp (fun g=>g) (fun g=>by omega),(hc02.mono (by simp)).tr (g3.chg.mono (fun x hx _=>bN _ hx)),Stp.refl _ _,.inl ⟨rfl,g2,by simp⟩⟩
  ·refine zm rfl (zx rfl (zx rfl (zaa rfl (a8 (a6 (ae (zSR (zmv rfl (bS rfl rfl) (a8 (a6 (aI rfl (fun h=>h rfl) ?_)))))))))));refine zKR (zmm rfl ?_);have hu3:=hu2.step hto3 hf;have hv3:=hv2.step hto3 hf;have hml3:e3.made.length<=901:=by rw[hst3.made,aF];simp;omega
   have hk3:e3.s.k=e.s.k+1:=hst3.k;have hold3:=hst3.ext.old;refine ah rfl C94 (oC c xb w3 e3 u2 _ hto3.at_ hu3.at_ (CT.good hct2 hz2 hf2) hz2 (by omega) (by omega)) ?_;rintro v4 w4 hr4;obtain⟨id2,er,e4,new,hv4,hto4,hst4,hres⟩:∃(id:UInt32) (er:Int) (e4:TE) (new:List UInt32),v4=.tuple #[.int .u32 id.toNat,.int .i64 er]/\c.to xb w3 w4 e3 e4/\Stp c.n e3 e4 new []/\((er=70/\mZ c.n e4.s.P/\new=[])∨(er=0/\new=[id]/\e4.s.V id=cnB (tO n q))):=by
    rcases hr4 with⟨g1,g2,g3⟩|⟨id,e4,g1,g2,g3,g4⟩
    ·exact⟨0,70,e3,[],g1,g3,Stp.refl _ _,.inl ⟨rfl,g2,rfl⟩⟩
    ·exact⟨id,0,e4,[id],g1,g2,g3,.inr ⟨rfl,rfl,g4⟩⟩
   clear hr4
   subst hv4;have h4:=hto4.at_;have hv4':=hv3.step hto4 hf;have hn4:=hv4'.at_;obtain⟨vb,vp,vk,vi⟩:=v;have hB4:Blk w4 vb [.bool false,vp,vk,vi]:=hn4.blk;have hi4:Sl w4 vi (bu A++id0::bu B):=hn4.i;have hk4:Sl w4 vk (K1++K2):=hn4.k;have hlt4:=h4.lt;have hbl4:=hB4.lt;have hvb:vb∉c.F++EF xb e4:=hv4'.far hf vb (by simp[NV.F]);have hnp:∀x∈ax vp,x≠vb:=fun x hx=>hn4.ap x (cG _ hx);have hni:∀x∈ax vi,x≠vb:=fun x hx=>hn4.ap x (cj _ (cj _ hx));refine zm rfl (zx rfl (zx rfl (zaa rfl (zNR (zmm rfl (zn rfl rfl (a7 rfl (aa bQ rfl I70 rfl rfl) (a7 rfl (aC cL rfl rfl (hB4.c rfl)) (ah rfl C203 (wF w4 vk _ hk4 (by omega)) ?_)))))))));rintro v5 w5 ⟨ho5,hin5,hc5⟩;refine zmm rfl ?_;have hin5':=hin5.ge;have k5:=hc5.1;have hob4:=ho5.sl.form rfl;obtain⟨p5,c5,rfl⟩:=hob4;refine aY rfl (nE key cL I9 rfl rfl rfl rfl rfl (by decide)) ?_;rintro _ w6 ⟨b6,rfl,hB6,hn6,hc6,hl6⟩;have hlt5:=ho5.sl.lt;refine ah rfl C202 (D3 w6 p5 c5 b6 (K1++K2) key A.length (ho5.mod0 hc6) hB6 (fun hh=>by have:=hlt5 b6 hh;omega) (by rw[aF];omega) (by omega)) ?_;rintro v7 w7 ⟨ho7,hin7,hc7⟩;refine zn rfl rfl (a7 rfl (aa bQ rfl I70 rfl rfl) ?_);have k6:=hc6.1;rw[cI hAK.symm,eG hAK.symm] at ho7;have hin7':∀x∈ax v7,w4.heap.size<=x:=fun x hx=>(hin7 x hx).elim (fun g=>hin5' x g) (fun g=>by omega);have hc47:=(hc5.tr hc6).t0 hc7 (fun x hx=>hin5' x hx);have hob5:=ho7.sl.form rfl;obtain⟨p7,c7,rfl⟩:=hob5;have hB7:=hB4.chg0 hc47;refine aP rfl (bG I70 rfl rfl (hB7) rfl rfl ((by decide:2<4)) rfl (rfl)) ?_;rintro w8 ⟨hB8,hc8,hs8⟩;refine zNR (zmm rfl (zn rfl rfl (a7 rfl (aa bQ rfl I41 rfl rfl) ?_)));replace hB8:Blk w8 vb [.bool false,vp,.slice p7 (K1++key::K2).length c7,vi]:=hB8;have hi8:=(hi4.mod0 hc47).mod hc8 (fun x hx hh=>by simp at hh;exact hni x hx hh);have ho8:=ho7.mod hc8 (fun x hx hh=>by simp at hh;have:=hin7' x hx;omega);refine a7 rfl (aC aX rfl rfl (hB8.c rfl)) (ah rfl C200 (qq w8 vi _ hi8 (by omega)) ?_);rintro v9 w9 ⟨ho9,hin9,hc9⟩;refine zmv rfl (aB rfl rfl (by omega)) (zm rfl ?_);have hin9':=hin9.ge;have k47:=hc47.1;have k8:=hc8.1;have k9:=hc9.1;have hob6:=ho9.sl.form rfl;obtain⟨p9,c9,rfl⟩:=hob6;refine aY rfl (nE id2 aX I25 rfl rfl rfl rfl rfl (by decide)) ?_;rintro _ w10 ⟨b10,rfl,hB10,hn10,hc10,hl10⟩;have hlt9:=ho9.sl.lt;refine ah rfl C204 (D2 w10 p9 c9 b10 (bu A++id0::bu B) id2 (A.length+1) (ho9.mod0 hc10) hB10 (fun hh=>by have:=hlt9 b10 hh;omega) (by omega) (by omega)) ?_;rintro v11 w11 ⟨ho11,hin11,hc11⟩;refine zn rfl rfl (a7 rfl (aa bQ rfl I41 rfl rfl) ?_);have k10:=hc10.1;have htk:(bu A++id0::bu B).take (A.length+1)=bu A++[id0]:=by rw[<-bT A];exact Au _ _ _
   have hdr:(bu A++id0::bu B).drop (A.length+1)=bu B:=by rw[<-bT A];exact nQ _ _ _
   rw[htk,hdr,bO,gN] at ho11;have hin11':∀x∈ax v11,w8.heap.size<=x:=fun x hx=>(hin11 x hx).elim (fun g=>hin9' x g) (fun g=>by omega);have hc811:=(hc9.tr hc10).t0 hc11 (fun x hx=>hin9' x hx);have hob7:=ho11.sl.form rfl;obtain⟨p11,c11,rfl⟩:=hob7;have hB11:=hB8.chg0 hc811;refine aP rfl (bG I41 rfl rfl (hB11) rfl rfl ((by decide:3<4)) rfl (rfl)) ?_;rintro w12 ⟨hB12,hc12,hs12⟩;refine zNR (zm rfl (zn rfl rfl (a7 rfl (aa bQ rfl I41 rfl rfl) ?_)));replace hB12:Blk w12 vb [.bool false,vp,.slice p7 (K1++key::K2).length c7,.slice p11 (bu A++id0::id2::bu B).length c11]:=hB12;have ho12:=ho11.mod hc12 (fun x hx hh=>by simp at hh;have:=hin11' x hx;omega);refine a7 rfl (aC aX rfl rfl (hB12.c rfl)) (zmm rfl (bF rfl (aU (A.length) aX I25 rfl (ho12.sl) rfl rfl (by first|rfl|omega) (by rw[aF,bT,bY];omega)) ?_));rintro _ ⟨bi,oi,rfl,hei,hbi⟩;refine aP rfl (bR (a:=id1) I25 rfl (ho12) rfl (hei) rfl rfl (by rw[aF,bT,bY];omega)) ?_;rintro w13 ⟨ho13,hc13,hs13⟩;refine zNR (zma rfl (a8 (a6 (zrf ?_))));rw[<-bT A,Dt] at ho13;have hl13:(bu A++id0::id2::bu B).length=(bu A++id1::id2::bu B).length:=by simp
   have hb13:∀x∈ax (.slice p11 (bu A++id0::id2::bu B).length c11),x≠vb:=fun x hx=>by have:=hin11' x hx;omega
   have hb7:∀x∈ax (.slice p7 (K1++key::K2).length c7),x≠vb:=fun x hx=>by have:=hin7' x hx;omega
   have hc813:Chg [vb] w8 w13:=((hc811.mono (by simp)).tr hc12).trans hc13 (fun _ hx _=>hx) (fun x hx hl=>by have:=hin11' x hx;omega);have hc413:Chg [vb] w4 w13:=((hc47.mono (by simp)).tr hc8).tr hc813;have hw0:=h.w0lo hf;have hlob:=(hv4'.new vb (by simp[NV.F])).1;have h13:c.ed xb w13 e4:=h4.chg hc413 (fun x hx hh=>by simp at hh;subst hh;exact hvb hx) (fun x hx=>by simp at hx;subst hx;omega);have hB13:=hB12.chg hc13 (fun hh=>hb13 vb hh rfl);rw[hl13] at hB13 ho13;have hp4:Sl w4 vp ([]:List Pr):=hn4.p;have hk13:Sl w13 (.slice p7 (K1++key::K2).length c7) (K1++key::K2):=ho8.sl.mod hc813 (fun x hx hh=>by simp at hh;exact hb7 x hx hh);have hn13:NAt w13 ⟨vb,vp,.slice p7 (K1++key::K2).length c7,.slice p11 (bu A++id1::id2::bu B).length c11⟩ (.br (K1++key::K2) (bu A++id1::id2::bu B)):=⟨hB13,hp4.mod hc413 (fun x hx hh=>by simp at hh;exact hnp x hx hh),hk13,ho13.sl,fun x hx=>by
    rcases List.mem_append.1 hx with hx|hx
    ·exact hnp x hx
    ·rcases List.mem_append.1 hx with hx|hx
     ·exact hb7 x hx
     ·have hx:x∈ax (.slice p11 (bu A++id1::id2::bu B).length c11):=hx;rw[<-hl13] at hx;exact hb13 x hx⟩
   have hhas:c.has xb e4 lo w13 ⟨vb,vp,.slice p7 (K1++key::K2).length c7,.slice p11 (bu A++id1::id2::bu B).length c11⟩ (.br (K1++key::K2) (bu A++id1::id2::bu B)):=⟨hn13,fun x hx=>by
    have hx:x∈vb::(ax vp++(ax (.slice p7 (K1++key::K2).length c7)++ax (.slice p11 (bu A++id1::id2::bu B).length c11))):=hx;rw[<-hl13] at hx;simp only[bV,fQ] at hx;rcases hx with rfl|hx|hx|hx
    ·exact hv4'.new _ (by simp[NV.F])
    ·exact hv4'.new _ (by simp[NV.F,hx])
    ·have:=hin7' x hx
     exact⟨by omega,fun hh=>by have:=hlt4 x (cj _ hh);omega⟩
    ·have:=hin11' x hx
     exact⟨by omega,fun hh=>by have:=hlt4 x (cj _ hh);omega⟩⟩
   have k3:=hto3.chg.1;have k4:=hto4.chg.1;have hto:=hto3.trans hto4;have hgrow:∀x∈EF xb e4,x∈EF xb e∨w.heap.size<=x:=fun x hx=>(hto.grow x hx).imp (fun g=>g) (fun g=>by omega);have hchg:Chg (vb::(c.F++EF xb e)) w w13:=((hc02.mono (by simp)).tr (hto.chg.mono (fun x hx _=>bN _ hx))).tr (hc413.mono (fun x hx _=>by simp at hx;subst hx;exact cK));have hst:=hst3.trans hst4;rw[cy] at hst;refine⟨e4,[id1]++new,h13,hgrow,hchg,hst,?_⟩;rcases hres with⟨rfl,g2,rfl⟩|⟨rfl,rfl,g4⟩
   ·exact .inl ⟨rfl,g2,by simp⟩
   ·refine .inr ⟨rfl,by simp,_,_,_,_,?_,GL,?_,?_,hhas⟩
    ·have hold:=hst.ext.old;have hw3:e3.s.P.now.written id1=true:=(hst3.ext.mem (by simp)).2;have hV1:e4.s.V id1=cnB (wi n q):=by rw[hst4.ext.old id1 hw3];exact hV3
     have t1:=(hct1.mono (fun y hy=>hold y (hold1 y hy))).saved hz1 hf1 hV1;have t2:=(hct2.mono (fun y hy=>hold y (hold2 y hy))).saved hz2 hf2 g4;have hh:=hole.mono (fun y hy=>hold y (hw y (by rcases List.mem_append.1 hy with g|g <;> simp[g])))
     exact hh.fill2 t1 t2 hm1 hm2 hko hbl hab
    ·show brZ _ _<=brZ _ _+66;rw[y7 K1 K2 _ _ id1 id0 id2 key]
     have:=hko.2;omega
    ·intro _;simp[jB]
end Go.Proofs.YtpbfapbajmdlkaaGreat
