/- Opened as often as one likes, by whatever key it was made, it is as it was; made anew it is empty. It holds for every input; there are no conditions. -/
import Derived.Test.YtpbfapbajmdlkaaGreatQ1
import Derived.Test.YtpbfapbajmdlkaaGreatQFacts
import Derived.Test.YtpbfapbajmdlkaaGreatSac1
namespace Go.Proofs.YtpbfapbajmdlkaaGreat
open Go Go.Sac
set_option maxRecDepth 100000
set_option maxHeartbeats 4000000
theorem qt(ks:List Bs)(i:Nat):dj (ks.take i)<=dj ks:=by have:=jJ ks i;omega
theorem yQ(w:World)(kv iv:Value)(ks:List Bs)(ids:List UInt32)(hs:Sl w kv ks)(hv:Sl w iv ids)(h:brOk ks ids) :
  Ret Tryz.prog 164 #[kv,iv] w λr w'=>∃bv,r=.tuple #[bv,.int .i64 0]/\Own w' bv (brB ks ids)/\In bv [] w.heap.size/\Chg [] w w':=by
 obtain⟨hfk,hfi⟩:=h.few;obtain⟨hne,hlen,hok,hz⟩:=h;have hpos:0<ks.length:=List.length_pos_iff.2 hne;obtain⟨p,cp,rfl⟩:=hs.form rfl;obtain⟨pi,ci,rfl⟩:=hv.form rfl;unfold brZ at hz;refine enter [4,5] Tryz.func164 O O (al O) (zSR (zaa O (a6 (aa (zSR (zmv O (aB O cO) (a7 O (bG (dy O O) (congrArg Value.bool (decide_eq_false (λh=>by omega)))) ?_)))))));refine zm O (ah O (zm O (ah O (a7 O (aB O aZ) (ah O (a7 O (bf O O (by omega)) (ah O (zm O (ah O (a7 O (aB O cO) (ah O (a7 O (bV O O) (a7 O (aK O) ?_)))))))))))));refine a6 (aI (congrArg Value.bool (decide_eq_false (λh=>h (by omega)))) ?_);refine zKR (za O (a6 (aa (zSR (zmv O (aB O cO) (zm O ?_))))));refine a6 (aq (aX [0,1,6,27,28,29] (λm vs w'=>∃i:Nat,vs=[.slice p ks.length cp,.slice pi ids.length ci,.int .i64 (7+dj (ks.take i)+4*i:Nat),.slice p ks.length cp,.int .i64 ks.length,.int .i64 i]/\i+m=ks.length/\Chg [] w w') (ks.length) ?_ ?_))
 ·exact⟨0,rfl,by omega,Chg.refl _⟩
 ·rintro m vs J w1 ⟨i,rfl,hi,hc1⟩;refine zSR (a7 O (bK O O) ?_);refine a6 (aa (aA O (λhlt=>?_) (λhlt=>?_)))
  ·refine zKN (aa (aq (zSR (zm O ?_))));have hob1:∃q,m=q+1:=⟨m-1,by omega⟩
   obtain⟨m,rfl⟩:=hob1;have hob2:∃a,ks[i]?=some a:=⟨_,bM (by omega)⟩
   obtain⟨a,ha⟩:=hob2;have hka:=hok.1 a (j1 ha);have hs1:=hs.mod0 hc1;have hup:dj (ks.take (i+1))=dj (ks.take i)+(a.length+2):=by
    have hob3:=List.getElem?_eq_some_iff.1 ha;obtain⟨q,rfl⟩:=hob3;exact lr q
   have hpt:=qt ks (i+1);refine bD O (aS (i) cO I9 O (hs1) O O (by first|rfl|omega) (by omega)) ?_;rintro _ ⟨bi,oi,rfl,hei,hbi⟩;refine a7 O (aD uU9 O O (((hs1.at hei ha).c0 rfl:_=some (str a)))) ?_;refine zaa O (a6 (aa (zSR (zm O (ag O C151 (zY a true (decide_eq_true hka) _) ?_)))));rintro _ _ ⟨rfl,rfl⟩;refine a7 O (cz O) (zm O (ah O (zm O (ah O ?_))));by_cases hi0:i=0
   ·refine a7 O (bG (dk O O) (bF (by omega))) ?_;refine ah O (zm O (aw O O (aw O O (aw O O (aw O O (aw O O (aw O O (aw O O (ah O (a7 O (aK O) (a7 O (aK O) (a6 (aI (rfl) (zKN (ae (zmm O (a7 O (hU O uU9) (a7 O (aC O O (by omega)) (a7 O (aC O O (by omega)) (a7 O (aC O O (by omega)) (a7 O (l9 O O) (za O ?_))))))))))))))))))))));refine bA (ax (aj (ae (a7 O (aC O O (by omega)) (zm O ?_)))));refine a6 (aT (m) (bq (by omega) ?_));refine⟨i+1,au rfl (au O (au (bL ?_) (au O (au O (au O bO))))),by omega,hc1⟩;rw[hup];omega
   ·refine a7 O (bG (dk O O) (bT (by omega))) ?_;refine ah O (zm O (ah O (zm O (ah O (zm O (ah O (a7 O (bf O O (by omega)) (ah O ?_))))))));have hob4:∃c,ks[i-1]?=some c:=⟨_,bM (by omega)⟩
    obtain⟨c,hc⟩:=hob4;have hca:ltB c a=true:=by
     have hob5:=List.getElem?_eq_some_iff.1 hc;obtain⟨q1,q2⟩:=hob5;have hob6:=List.getElem?_eq_some_iff.1 ha;obtain⟨q3,q4⟩:=hob6
     have:=List.pairwise_iff_getElem.1 hok.2 (i-1) i q1 q3 (by omega)
     rw[q2,q4] at this;exact this
    refine bD O (aS (i-1) cO I9 O (hs1) O O (by first|rfl|omega) (by omega)) ?_;rintro _ ⟨bj,oj,rfl,hej,hbj⟩;refine ah O (a7 O (aD uU9 O O (((hs1.at hej hc).c0 rfl:_=some (str c)))) ?_);refine ah O (zm O (ah O (a7 O (uX O O) (ah O (a7 O (aN O) (a7 O (aK O) (a6 (aI (congrArg Value.bool (by rw[hca];rfl)) ?_))))))));refine zKN (ae (zmm O (a7 O (hU O uU9) (a7 O (aC O O (by omega)) (a7 O (aC O O (by omega)) (a7 O (aC O O (by omega)) (a7 O (l9 O O) (za O ?_))))))));refine bA (ax (aj (ae (a7 O (aC O O (by omega)) (zm O ?_)))));refine a6 (aT (m) (bq (by omega) ?_));refine⟨i+1,au rfl (au O (au (bL ?_) (au O (au O (au O bO))))),by omega,hc1⟩;rw[hup];omega
  ·refine aO (an (an (aE (aj (aa (zSR (zmv O (dk O O) ?_)))))));refine a6 ?_;have hil:i=ks.length:=by omega
   subst hil;rw[cX];refine aJ O (by omega) ?_;refine zKR (aY O (tA [.int .u8 2] [(2:UInt8)] bg I5 O O O O O O (by decide) (by decide)) ?_);rintro _ w3 ⟨⟨b3,o3,c3,rfl⟩,ho3,hc3,hi3⟩;refine zmv O (aB O cO) (a7 O (dc O uU3 eA) ?_);have hu:(dm ((ks.length:Nat):Int)).toNat=ks.length:=by rw[dR,ef];omega
   refine ag O nM (gT _ _ (dm ((ks.length:Nat):Int)) 2 w3 ho3 (by decide) (by decide)) ?_;rintro v4 w4 ⟨ho4,hc4,hi4⟩;refine za O (a6 (aa (zSR (zmv O (aB O cO) (zm O (a6 (aq ?_)))))));rw[hu] at ho4;have hc14:Chg [] w w4:=(hc1.tr hc3).t0 hc4 (λx hx=>by have:=hi3.ge x hx;have:=hc1.1;omega);have hi4':In v4 [] w.heap.size:=hi4.mono (λx hx=>.inr (by have:=hi3.ge x hx;have:=hc1.1;omega)) (by have:=hc1.1;have:=hc3.1;omega);refine aX [1,9,65,66,67] (λm vs w'=>∃(i:Nat) (X:Bs) (bv:Value),vs=[.slice pi ids.length ci,bv,.slice p ks.length cp,.int .i64 ks.length,.int .i64 i]/\i+m=ks.length/\Chg [] w w'/\X=(2:UInt8)::(be 2 ks.length++(ks.take i).flatMap txt)/\Own w' bv X/\In bv [] w.heap.size) (ks.length) ?_ ?_
   ·exact⟨0,_,v4,rfl,by omega,hc14,rfl,by simpa using ho4,hi4'⟩
   ·rintro m vs J w5 ⟨i,X,bv,rfl,hi,hc5,hX,ho5,hi5⟩;refine zSR (a7 O (bK O O) ?_);refine a6 (aa ?_);have hob7:=ho5.sl.form rfl;obtain⟨pb,cb,rfl⟩:=hob7;have hs5:=hs.mod0 hc5;have hfl:=jh txt _ ig (ks.take i);have hpt:((ks.take i).map λk=>k.length+2).sum<=dj ks:=qt ks i;refine aA O (λhlt=>?_) (λhlt=>?_)
    ·refine zKN (aa (aq (aa (ae ?_))));have hob8:∃q,m=q+1:=⟨m-1,by omega⟩
     obtain⟨m,rfl⟩:=hob8;have hob9:∃a,ks[i]?=some a:=⟨_,bM (by omega)⟩
     obtain⟨a,ha⟩:=hob9;have hka:=hok.1 a (j1 ha);refine bD O (aS (i) cO I9 O (hs5) O O (by first|rfl|omega) (by omega)) ?_;rintro _ ⟨bi,oi,rfl,hei,hbi⟩;refine a7 O (aD uU9 O O (((hs5.at hei ha).c0 rfl:_=some (str a)))) ?_;refine za O (a6 (ae (zmm O (ag O IF (sr _ _ _ a ho5 (by rw[hX,cg,aF,aP];omega) (by omega)) ?_))));rintro v8 w8 ⟨ho8,hc8,hi8⟩;refine za O (bA (ax (aj (ae (a7 O (aC O O (by omega)) (zm O ?_))))));refine a6 ?_;have k5:=hc5.1;have hin8:∀x∈ay v8,w.heap.size<=x:=λx hx=>(hi8 x hx).elim (λh=>hi5.ge x h) (λh=>by omega);refine aT (m) (bq (by omega) ?_);refine⟨i+1,_,v8,rfl,by omega,hc5.t0 hc8 (λx hx=>hi5.ge x hx),rfl,?_,λx hx=>.inr (hin8 x hx)⟩;rw[hX] at ho8;have hob10:=List.getElem?_eq_some_iff.1 ha;obtain⟨hil,rfl⟩:=hob10;rw[<-fM hil,nO]
     simpa [txt] using ho8
    ·refine aO (an (an (aE (aj (zSR (zmv O (aB O bg) (za O ?_)))))));refine zNR (zmm O (a7 O (aB O aZ) (a7 O (fq O O (by omega)) ?_)));have hil:i=ks.length:=by omega
     subst hil;rw[cX] at hX hfl;have hXl:X.length=3+dj ks:=by rw[hX,cg,aF,aP,hfl];unfold dj;omega
     refine aY O (Gt (4*ids.length) bg uU3 I5 O O (by decide) (ho5) O O (by first|rfl|omega) (by omega)) ?_;rintro v9 w9 h9;refine za O (a6 (aa (zSR (zmv O (aB O aZ) (zm O (a6 (aq ?_)))))));have hob11:=h9.step hc5 hi5;obtain⟨ho9,hc9,hi9⟩:=hob11;refine aX [9,12,82,83,84] (λm vs w'=>∃(i:Nat),vs=[v9,.int .i64 X.length,.slice pi ids.length ci,.int .i64 ids.length,.int .i64 i]/\i+m=ids.length/\Chg [] w w'/\Own w' v9 (X++(kP (ids.take i)++List.replicate (4*m) 0))) (ids.length) ?_ ?_
     ·exact⟨0,rfl,by omega,hc9,by simpa [kP] using ho9⟩
     ·rintro m vs J w10 ⟨i,rfl,hi,hc10,ho10⟩;refine zSR (a7 O (bK O O) ?_);refine a6 (aa ?_);have hv10:=hv.mod0 hc10;refine aA O (λhlt=>?_) (λhlt=>?_)
      ·refine zKN (aa (aq (zSR (zm O ?_))));have hob12:∃q,m=q+1:=⟨m-1,by omega⟩
       obtain⟨m,rfl⟩:=hob12;have hob13:∃a,ids[i]?=some a:=⟨_,bM (by omega)⟩
       obtain⟨a,ha⟩:=hob13;have hil:=fx (ids.take i);rw[bz,ey (by omega)] at hil;have hpl:(fR a).length=4:=rfl;refine bD O (aS (i) aZ I25 O (hv10) O O (by first|rfl|omega) (by omega)) ?_;rintro _ ⟨bi,oi,rfl,hei,hbi⟩;refine a7 O (aD bu O O (((hv10.at hei ha).c0 rfl:_=some (Value.int .u32 a.toNat)))) ?_;refine zaa O (zNR (zm O (ag O C207 (yM a _) ?_)));rintro _ w11 ⟨rfl,hc11⟩;refine aU (List.replicate 4 (0:UInt8)) lB O O O ?_;rintro w12 b12 hn12 ha12 hc12 hl12;refine aQ O (bH 4 lB O (ha12) O O (rfl) (rfl)) ?_;rintro w13 ⟨ha13,hc13,hs13⟩;refine a6 ?_;have hc1013:=(hc11.tr hc12).t1 hc13 (by have:=hc11.1;omega);have ho13:=ho10.mod0 hc1013;have hlt13:=ho10.sl.lt;have k11:=hc11.1;refine aH bx (.pure 0 (.pure 1 (.pure 2 (.pure 3 (.pure 4 (.pure 5 (.pure 6 (.eff 7 [] .nil)))))))) (by kernel_rfl) ?_;refine ym O (ym O (ym O (yp O (λ_=>(fq O O (by omega))) ?_)));refine yp O (λ_=>(aC O O (by omega))) ?_;refine yex O (gW (X.length+4*i) bg I5 O ho13 O O (by omega) (by rw[aF,aF,cN];omega)) ?_;rintro v14 hsub14;refine yp O (λ_=>cI jx I5 O) ?_;refine cj O O O (dQ bg I5 O ho13 hsub14 (by rw[aF,aF,cN];omega) (((ha13.chg0 (drw _)).sl (n:=4) (c:=4) hpl (aM _)).src) O O) ?_;rintro w15 ⟨ho15,hc15,hs15⟩;refine⟨trivial,?_⟩;refine ez (ax (aj (ae (a7 O (aC O O (by omega)) (zm O ?_)))));refine a6 ?_;have hc15:Chg (ay v9) w13 w15:=hc15;refine aT (m) (bq (by omega) ?_);refine⟨i+1,rfl,by omega,(hc10.tr hc1013).t0 hc15 (λx hx=>hi9.ge x hx),?_⟩;rw[hpl,show(min 4 ((X++(kP (ids.take i)++List.replicate (4*(m+1)) (0:UInt8))).length-(X.length+4*i)))=4 by rw[aF,aF,cN];omega,cd (l:=fR a) (by omega),<-bP,kI (a:=X++kP (ids.take i)) (j:=4) (by rw[aF];omega) hpl.symm,jj,F8,show 4*(m+1)-4=4*m by omega] at ho15;have hob14:=List.getElem?_eq_some_iff.1 ha;obtain⟨hil2,rfl⟩:=hob14;rw[<-fM hil2];unfold kP at ho15 ⊢;rw[nO]
       simpa using ho15
      ·refine aO (an (an (aE (aj (zSR (zma O (za O (a6 (zrf ?_)))))))));have hil:i=ids.length:=by omega
       have hm0:m=0:=by omega
       subst hil hm0;rw[cX,hX] at ho10;refine⟨v9,rfl,?_,hi9,hc10⟩;unfold brB
       simpa using ho10
def cnL(c:Cn):Bool:=match c with
 | .leaf _ => true
 | .br _ _ => false
theorem EB(w:World)(bv:Value)(c:Cn)(hs:Sl w bv (cnB c)) :
  Ret Tryz.prog 103 #[bv] w λv w'=>v=.int .i64 (if cnL c then 1 else 2)/\w=w':=by
 have hob15:=hs.form rfl;obtain⟨p,cp,rfl⟩:=hob15;refine enter [2] Tryz.func103 O O (al O) (zSR (za O (a6 (aa (zSR (zmv O (aB O bg) ?_))))));cases c with
 | leaf ps =>
  have h0:(cnB (.leaf ps))[0]?=some 1:=rfl;have hu1:(1:UInt8).toNat=1:=rfl;have hl:0<(cnB (.leaf ps)).length:=by rw[nt];show 0<cT ps;unfold cT;omega
  skip
  refine a7 O (bG (dk O O) (bT (by omega))) ?_;refine zm O (ah O (zm O (ah O (bD O (aS (0) bg I5 O (hs) O O (by first|rfl|omega) (hl)) ?_))));rintro _ ⟨bi,oi,rfl,hei,hbi⟩;refine ah O (a7 O (aD uU5 O O (((hs.at hei h0).c0 rfl:_=some (Value.int .u8 (1:UInt8).toNat)))) ?_);refine ah O (a7 O (bG (qQ (b:=1) O O) (congrArg Value.bool (decide_eq_true (rfl)))) ?_);refine ah O (zm O (aw O O (aw O O (aw O O (aw O O (ah O (a7 O (aN O) (a7 O (aN O) (a6 (aW (rfl) (zSR (zm O (bD O (aS (0) bg I5 O (hs) O O (by first|rfl|omega) (hl)) ?_)))))))))))));rintro _ ⟨bj,oj,rfl,hej,hbj⟩;refine a7 O (aD uU5 O O (((hs.at hej h0).c0 rfl:_=some (Value.int .u8 (1:UInt8).toNat)))) ?_;refine a7 O (gg O uU5 uU3 (by omega)) (za O ?_);refine a6 (zrt ?_);exact⟨rfl,rfl⟩
 | br ks ids =>
  have h0:(cnB (.br ks ids))[0]?=some 2:=rfl;have hu2:(2:UInt8).toNat=2:=rfl;have hl:0<(cnB (.br ks ids)).length:=by rw[nt];show 0<brZ ks ids;unfold brZ;omega
  skip
  refine a7 O (bG (dk O O) (bT (by omega))) ?_;refine zm O (ah O (zm O (ah O (bD O (aS (0) bg I5 O (hs) O O (by first|rfl|omega) (hl)) ?_))));rintro _ ⟨bi,oi,rfl,hei,hbi⟩;refine ah O (a7 O (aD uU5 O O (((hs.at hei h0).c0 rfl:_=some (Value.int .u8 (2:UInt8).toNat)))) ?_);refine ah O (a7 O (bG (qQ (b:=1) O O) (bF (by decide))) ?_);refine ah O (zm O (ah O (zm O (ah O (bD O (aS (0) bg I5 O (hs) O O (by first|rfl|omega) (hl)) ?_)))));rintro _ ⟨bk,ok,rfl,hek,hbk⟩;refine ah O (a7 O (aD uU5 O O (((hs.at hek h0).c0 rfl:_=some (Value.int .u8 (2:UInt8).toNat)))) ?_);refine ah O (a7 O (qQ (b:=2) O O) (ah O (a7 O (aK O) (a7 O (aN O) ?_))));refine a6 (aW (rfl) (zSR (zm O (bD O (aS (0) bg I5 O (hs) O O (by first|rfl|omega) (hl)) ?_))));rintro _ ⟨bj,oj,rfl,hej,hbj⟩;refine a7 O (aD uU5 O O (((hs.at hej h0).c0 rfl:_=some (Value.int .u8 (2:UInt8).toNat)))) ?_;refine a7 O (gg O uU5 uU3 (by omega)) (za O ?_);refine a6 (zrt ?_);exact⟨rfl,rfl⟩
def RdAt(w:World)(rb:Nat)(bv:Value)(l:Bs):Prop:=Blk w rb [bv,.bool false]/\Sl w bv l/\rb∉ay bv
theorem Hs(w:World)(rb:Nat)(bv:Value)(l:Bs)(k:Nat)(hk:k<=4)(h:RdAt w rb bv l)(hl:k<=l.length/\l.length<=1000000) :
  Ret Tryz.prog 163 #[.pointer (some ⟨rb,0,none⟩),.int .i64 k] w λv w'=>v=.int .i64 (dB (l.take k))/\(∃bv',RdAt w' rb bv' (l.drop k)/\ay bv'=ay bv)/\Chg [rb] w w':=by
 obtain⟨hB,hs,hap⟩:=h;refine enter [4] Tryz.func163 O O (al O) (zSR (za O (zNR (zm O (zn O O (a7 O (a8 lh O I45 O O) (a7 O (aD bg O O (hB.c O)) (zm O (ag O C83 (jv bv l k w hs (by omega) (by omega)) ?_)))))))));rintro v1 w1 ⟨hv1,hh1⟩;unfold ou at hv1;rw[if_neg (by omega)] at hv1;obtain⟨r,rfl,hsr,hbr⟩:=hv1;have hob16:∃nn:UInt64,nn=UInt64.ofNat (dB (l.take k)):=⟨_,rfl⟩
 obtain⟨nn,hnn⟩:=hob16;have hlt:=oX (l.take k);rw[bz,ey hl.1] at hlt;have h4:256 ^ k<=256 ^ 4:=mN (by decide) hk;have hnt:nn.toNat=dB (l.take k):=by rw[hnn,ef];omega
 rw[<-hnn];have hob17:=hsr.form rfl;obtain⟨pr,cr,hrf⟩:=hob17;subst hrf;have hB1:=hB.heap hh1;refine zm O (zx O (zx O (zx O (zaa O (za O (zNR (zmm O (zmm O (zn O O (a7 O (a8 lh O I4 O O) (a7 O (aD uU4 O O (hB1.c O)) (zm O (ah O (zm O (ah O (a7 O (bV O O) (a7 O (aK O) (zn O O (a7 O (a8 lh O I45 O O) (aQ O (bJ I45 O O (hB1) O O ((by decide:0<2)) O (rfl)) ?_))))))))))))))))))));rintro w2 ⟨hB2,hc2,hs2⟩;refine zn O O (a7 O (a8 lh O I4 O O) (aQ O (bJ I4 O O (hB2) O O ((by decide:1<2)) O (rfl)) ?_));rintro w3 ⟨hB3,hc3,hs3⟩;refine zNR (zmv O (gg O eA uU3 (by omega)) (za O ?_));refine a6 (zrf ?_);have hc13:=hc2.tr hc3;have hap1:rb∉ay (.slice pr (l.drop k).length cr):=by rw[hbr];exact hap
 refine⟨congrArg (Value.int .i64) (by rw[hnt]),⟨_,⟨hB3,hsr.mod hc13 (λx hx hh=>by simp at hh;subst hh;exact hap1 hx),hap1⟩,hbr⟩,(Chg.heap hh1).tr hc13⟩
theorem RdAt.chg{w w':World}{rb:Nat}{bv:Value}{l:Bs}{S:List Nat}(h:RdAt w rb bv l)(hc:Chg S w w')(h1:rb∉S)(h2:∀x∈ay bv,x∉S):RdAt w' rb bv l :=
 ⟨h.1.chg hc h1,h.2.1.mod hc h2,h.2.2⟩
theorem zt(w:World)(rb:Nat)(bv:Value)(s z:Bs)(most:Nat)(hm:s.length<=most/\most<=60000)(h:RdAt w rb bv (txt s++z))(hl:(txt s++z).length<=1000000) :
  Ret Tryz.prog 162 #[.pointer (some ⟨rb,0,none⟩),.int .i64 most] w λv w'=>v=str s/\(∃bv',RdAt w' rb bv' z/\ay bv'=ay bv)/\Chg [rb] w w':=by
 obtain⟨hB,hs,hap⟩:=h;have hh:=GJ (s:=s) (by omega) z;have htl:=ig s;have hr:=GI s z;have ht:=GH s z;refine enter [4] Tryz.func162 O O (al O) (zSR (za O (zNR (zm O (zn O O (a7 O (a8 lh O I45 O O) (a7 O (aD bg O O (hB.c O)) (zm O (ag O C85 (nz bv (txt s++z) most w hs hl (by omega)) ?_)))))))));rintro v1 w1 ⟨hv1,hh1⟩;unfold pI at hv1;rw[hh,ht,hr,if_neg (by rw[aF];omega)] at hv1;obtain⟨r,rfl,hsr,hbr⟩:=hv1;have hob1:=hsr.form rfl;obtain⟨pr,cr,hrf⟩:=hob1;subst hrf;have hB1:=hB.heap hh1;refine zm O (zx O (zx O (zx O (zaa O (za O (zNR (zmm O (zmm O (zn O O (a7 O (a8 lh O I4 O O) (a7 O (aD uU4 O O (hB1.c O)) (zm O (ah O (zm O (ah O (a7 O (bV O O) (a7 O (aK O) (zn O O (a7 O (a8 lh O I45 O O) (aQ O (bJ I45 O O (hB1) O O ((by decide:0<2)) O (rfl)) ?_))))))))))))))))))));rintro w2 ⟨hB2,hc2,hs2⟩;refine zn O O (a7 O (a8 lh O I4 O O) (aQ O (bJ I4 O O (hB2) O O ((by decide:1<2)) O (rfl)) ?_));rintro w3 ⟨hB3,hc3,hs3⟩;refine zNR (zma O (a6 (zrf ?_)));have hc13:=hc2.tr hc3;have hap1:rb∉ay (.slice pr z.length cr):=by rw[hbr];exact hap
 exact⟨rfl,⟨_,⟨hB3,hsr.mod hc13 (λx hx hh=>by simp at hh;subst hh;exact hap1 hx),hap1⟩,hbr⟩,(Chg.heap hh1).tr hc13⟩
def cnN:Cn->Nat
 | .leaf ps => ps.length
 | .br ks _ => ks.length
def cnR:Cn->Bs
 | .leaf ps => ps.flatMap prB
 | .br ks ids => ks.flatMap txt ++ kP ids
theorem cn_head(c:Cn):∃x,cnB c=x::(be 2 (cnN c)++cnR c):=by cases c <;> exact⟨_,rfl⟩
theorem yg(w:World)(bv:Value)(c:Cn)(hs:Sl w bv (cnB c))(hz:cnZ c<=480)(hn:cnN c<=480) :
  Ret Tryz.prog 161 #[bv,.int .i64 (if cnL c then 1 else 2)] w λv w'=>∃rb bv',v=.tuple #[.pointer (some ⟨rb,0,none⟩),.int .i64 (cnN c),.bool true]/\RdAt w' rb bv' (cnR c)/\ay bv'=ay bv/\w.heap.size<=rb/\rb<w'.heap.size/\Chg [] w w':=by
 have hob2:=cn_head c;obtain⟨x,hx⟩:=hob2;have hlen:=nt c;have hltb:=hs.lt;have hob3:=hs.form rfl;obtain⟨p,cp,rfl⟩:=hob3;refine enter [4,5,6] Tryz.func161 O O (al O) (zSR (zaa O (za O (a6 (aa (zSR (zm O (ag O C103 (EB w _ c hs) ?_))))))));rintro _ _ ⟨rfl,rfl⟩;refine zmv O (bG (bV O O) (congrArg Value.bool (decide_eq_false (λh=>h O)))) ?_;refine zm O (ah O (zm O (ah O (a7 O (aB O bg) (ah O (a7 O (dk O O) (a7 O (aK O) (a6 (aI (bF (by omega)) ?_)))))))));refine zKR (zm O ?_);have hl1:1<=(cnB c).length:=by rw[hx,cg];omega
 refine bD O (eN 1 bg I5 O hs O O O hl1) ?_;rintro _ ⟨⟨p1,c1,rfl⟩,hs1,hb1⟩;refine a7 O (bW lh I249 O (zs:=[.slice none 0 0,.bool false]) O O (bR O O O (al O) (eb (cs':=[.slice p1 ((cnB c).length-1) c1,.bool false]) O))) ?_;refine aY O (cZ (l:=[.slice p1 ((cnB c).length-1) c1,.bool false]) O O) ?_;rintro _ w2 ⟨rb,rfl,hn2,hB2,hc2,hl2⟩;refine za O (zNR (zm O ?_));have hap:rb∉ay (.slice p1 ((cnB c).length-1) c1):=λh=>by rw[hb1] at h;have:=hltb rb h;omega
 have hs2:=hs1.mod0 hc2;rw[hx,List.drop_succ_cons,gS] at hs2;rw[<-hx] at hs2;refine ag O C163 (Hs w2 rb _ (be 2 (cnN c)++cnR c) 2 (by decide) ⟨hB2,hs2,hap⟩ ⟨by rw[aF,aP];omega,by rw[hx,cg] at hlen;omega⟩) ?_;rintro v3 w3 ⟨hv3,⟨bv3,hR3,hb3⟩,hc3⟩;rw[Eu (by omega)] at hv3;rw[ej (aP _ _)] at hR3;subst hv3;refine za O (zNR (zmm O (zm O (zn O O (a7 O (a8 lh O I4 O O) (a7 O (aD uU4 O O (hR3.1.c O)) (a7 O (cz O) (zm O (ah O (zm O (ah O (a7 O (fN O O) (a7 O (aN O) (zaa O (za O (a6 (zrf ?_)))))))))))))))));exact⟨rb,bv3,congrArg (λb=>Value.tuple #[.pointer (some ⟨rb,0,none⟩),.int .i64 (cnN c),.bool b]) (decide_eq_true (by omega:(cnN c:Int)<=480)),hR3,hb3.trans hb1,hn2,by have:=hc3.1;omega,hc2.t1 hc3 hn2⟩
theorem BH(w:World)(bv:Value)(l:List Pr)(hs:Sl w bv (rS l))(hok:leafOk l) :
  Ret Tryz.prog 104 #[bv] w λv w'=>(∃rv,v=.tuple #[rv,.int .i64 0]/\Own w' rv l/\In rv [] w.heap.size)/\Chg [] w w':=by
 have hfew:=hok.few;have hltb:=hs.lt;have hz:cT l<=480:=hok.2;have hs':Sl w bv (cnB (.leaf l)):=hs;have hob4:=hs.form rfl;obtain⟨p,cp,rfl⟩:=hob4;refine enter [2,3] Tryz.func104 O O (al O) (zSR (zaa O (zNR (zm O (ag O C161 (yg w _ (.leaf l) hs' hz (by show l.length<=480;omega)) ?_)))));rintro v1 w1 ⟨rb,b1,rfl,hR1,hb1,hn1,hl1,hc1⟩;have hR1:RdAt w1 rb b1 (l.flatMap prB):=hR1;refine zm O (zx O (zx O (zx O (zaa O (za O (a6 (aa (zSR (zmv O (cz O) (a6 (aI (rfl) (zKR (za O (a6 (aa (zSR (za O (a6 (aq (aX [0,4,5,7,8] (λm vs w'=>∃(i:Nat) (ov rv:Value),vs=[.slice p (rS l).length cp,.pointer (some ⟨rb,0,none⟩),.int .i64 l.length,ov,.int .i64 i]/\i+m=l.length/\RdAt w' rb rv ((l.drop i).flatMap prB)/\ay rv=ay b1/\Own w' ov (l.take i)/\In ov [] w1.heap.size/\Chg [] w w'/\w1.heap.size<=w'.heap.size) (l.length) ?_ ?_))))))))))))))))))))
 ·exact⟨0,_,b1,rfl,by omega,hR1,rfl,Own.nil _,In.nil,hc1,aM _⟩
 ·rintro m vs J w2 ⟨i,ov,rv,rfl,hi,hR2,hb2,ho2,hi2,hc2,hk2⟩;refine aa (zSR (zmm O ?_));by_cases hlt:i<l.length
  ·have hob5:∃q,m=q+1:=⟨m-1,by omega⟩
   obtain⟨m,rfl⟩:=hob5;have hpa:=hok.1.1 _ (lQ hlt);have hob6:∃a,a=l[i]:=⟨_,rfl⟩
   obtain⟨a,ha⟩:=hob6;rw[<-ha] at hpa;have hdr:(l.drop i).flatMap prB=txt a.1++(txt a.2++(l.drop (i+1)).flatMap prB):=by
    rw[ti prB hlt,<-ha];unfold prB;rw[bP]
   have hdl:((l.drop i).flatMap prB).length<=480:=by
    have h1:=ni (l.drop i);have h2:=je l i;have h3:3<=cT (l.take i):=by unfold cT;omega
    unfold rS at h1;rw[cg,aF,aP] at h1;omega
   rw[hdr] at hR2 hdl;have hdl2:=hdl;rw[aF] at hdl2;refine a7 O (bG (bK O O) (bT (by omega))) ?_;refine zm O (ah O (zm O (ah O (zn O O (ah O (a7 O (a8 lh O I4 O O) (ah O (a7 O (aD uU4 O O (hR2.1.c O)) (ah O (a7 O (cz O) (a7 O (aN O) (a6 (aW (rfl) (zKN (aa (aq (zSR (zm O (ag O C162 (zt w2 rb rv a.1 _ 60 (by omega) hR2 (by omega)) ?_)))))))))))))))))));rintro v3 w3 ⟨rfl,⟨b3,hR3,hb3⟩,hc3⟩;refine za O (a6 (ae (zmm O (zm O (ag O C162 (zt w3 rb b3 a.2 _ 150 (by omega) hR3 (by omega)) ?_)))));rintro v4 w4 ⟨rfl,⟨b4,hR4,hb4⟩,hc4⟩;refine a7 O (bW iM I49 O (zs:=[str [],str []]) O O (bR O O O (al O) (bR O O O (al O) (eb (cs':=[str a.1,str a.2]) O)))) ?_;have hrb:rb∉ay ov:=λh=>by have:=hi2.ge rb h;omega
   have hc24:=hc3.tr hc4;have ho4:=ho2.mod hc24 (λx hx hh=>by simp at hh;subst hh;exact hrb hx);refine iO (a) df I49 O O O (by decide) (by decide) O O O O (ho4) (λ_=>rfl) (by rw[bz];omega) ?_;rintro s5 v5 w5 h5;refine za O (bA (ax (aj (ae (zmv O (aC O O (by omega)) (za O ?_))))));refine a6 ?_;have k24:=hc24.1;have hc5:=h5.mod;have hin5:In v5 [] w1.heap.size:=λx hx=>.inr ((h5.inn x hx).elim (λh=>hi2.ge x h) (λh=>by omega));have k1:=hc1.1;refine aT (m) (bq (by omega) ?_);refine⟨i+1,v5,b4,rfl,by omega,hR4.chg hc5 hrb (λx hx hh=>?_),by rw[hb4,hb3,hb2],?_,hin5,(hc2.t0 hc24 (λx hx=>by simp at hx;omega)).t0 hc5 (λx hx=>by have:=hi2.ge x hx;omega),by have:=hc5.1;omega⟩
   ·rw[hb4,hb3,hb2,hb1] at hx
    have:=hltb x hx
    have:=hi2.ge x hh
    omega
   ·rw[<-fM hlt,<-ha];exact h5.own
  ·have hil:i=l.length:=by omega
   subst hil;rw[cX] at ho2;refine a7 O (bG (bK O O) (bF (by omega))) ?_;refine zm O (aw O O (aw O O (aw O O (aw O O (aw O O (a7 O (aK O) (a6 (aI (rfl) (aO (an (an (aE (aj (aa (zSR (zm O ?_))))))))))))))));have hlo:leafOk l:=hok;refine ag O C96 (uG w2 ov l ho2.sl (by omega)) ?_;rintro v3 w3 ⟨hc3,hv3⟩;rcases hv3 with⟨q,_⟩|⟨_,q,_⟩|⟨_,bv3,rfl,ho3,hi3⟩
   ·exact absurd hok.1 q
   ·omega
   ·have hR3:=hR2.chg hc3 (by simp) (by simp);have hob7:=ho3.sl.form rfl;obtain⟨p3,c3,hbf⟩:=hob7;subst hbf;refine zm O (zx O (zx O (zaa O (zNR (zm O (zn O O (a7 O (a8 lh O I4 O O) (a7 O (aD uU4 O O (hR3.1.c O)) (zm O (ah O (zm O (ah O (a7 O (bG (bV O O) (congrArg Value.bool (decide_eq_false (λh=>h O)))) ?_)))))))))))));refine a7 O (aK O) (zm O (ah O (zm O (ah O (a7 O (qV bg uU5 uU9 ho3.sl O) (ah O (zm O (ah O (a7 O (qV bg uU5 uU9 (hs.mod0 (hc2.tr hc3)) O) (ah O (a7 O (tw O O) (a7 O (aK O) (a6 (aI (congrArg Value.bool (decide_eq_false (λh=>h O))) ?_))))))))))))));refine zKR (zma O (za O (a6 (zrf ?_))));exact⟨⟨ov,rfl,ho2.mod0 hc3,hi2.mono (λ_ h=>.inl h) hc1.1⟩,hc2.tr hc3⟩
theorem xG(w:World)(bv:Value)(ks:List Bs)(ids:List UInt32)(hs:Sl w bv (brB ks ids))(hok:brOk ks ids) :
  Ret Tryz.prog 105 #[bv] w λv w'=>(∃kv iv,v=.tuple #[kv,iv,.int .i64 0]/\Own w' kv ks/\Own w' iv ids/\In kv [] w.heap.size/\In iv [] w.heap.size)/\Chg [] w w':=by
 have hob8:=hok.few;obtain⟨hfk,hfi⟩:=hob8;have hltb:=hs.lt;have hz:brZ ks ids<=480:=hok.2.2.2;have hlen:=hok.2.1;have hs':Sl w bv (cnB (.br ks ids)):=hs;have hbl:=wQ ks ids;have hob9:=hs.form rfl;obtain⟨p,cp,rfl⟩:=hob9;refine enter [2,3,4] Tryz.func105 O O (al O) (zSR (zaa O (za O (zNR (zm O (ag O C161 (yg w _ (.br ks ids) hs' hz (by show ks.length<=480;omega)) ?_))))));rintro v1 w1 ⟨rb,b1,rfl,hR1,hb1,hn1,hl1,hc1⟩;have hR1:RdAt w1 rb b1 (ks.flatMap txt++kP ids):=hR1;refine zm O (zx O (zx O (zx O (zaa O (za O (a6 (aa (zSR (zmv O (cz O) (a6 (aI (rfl) (zKR (za O (a6 (aa (zSR (za O (a6 (aq (aX [0,5,6,8,9] (λm vs w'=>∃(i:Nat) (ov rv:Value),vs=[.slice p (brB ks ids).length cp,.pointer (some ⟨rb,0,none⟩),.int .i64 ks.length,ov,.int .i64 i]/\i+m=ks.length/\RdAt w' rb rv ((ks.drop i).flatMap txt++kP ids)/\ay rv=ay b1/\Own w' ov (ks.take i)/\In ov [] w1.heap.size/\Chg [] w w'/\w1.heap.size<=w'.heap.size) (ks.length) ?_ ?_))))))))))))))))))))
 ·exact⟨0,_,b1,rfl,by omega,hR1,rfl,Own.nil _,In.nil,hc1,aM _⟩
 ·rintro m vs J w2 ⟨i,ov,rv,rfl,hi,hR2,hb2,ho2,hi2,hc2,hk2⟩;refine aa (zSR (zmm O ?_));by_cases hlt:i<ks.length
  ·have hob10:∃q,m=q+1:=⟨m-1,by omega⟩
   obtain⟨m,rfl⟩:=hob10;have hpa:=hok.2.2.1.1 _ (lQ hlt);have hob11:∃a,a=ks[i]:=⟨_,rfl⟩
   obtain⟨a,ha⟩:=hob11;rw[<-ha] at hpa;have hdr:(ks.drop i).flatMap txt++kP ids=txt a++((ks.drop (i+1)).flatMap txt++kP ids):=by
    rw[ti txt hlt,<-ha,bP]
   have hdl:((ks.drop i).flatMap txt++kP ids).length<=480:=by
    have h1:=jh txt _ ig (ks.drop i);have h2:=jJ ks i;rw[aF,h1,fx];unfold brZ at hz;unfold dj at h2 hz;omega
   rw[hdr] at hR2 hdl;refine a7 O (bG (bK O O) (bT (by omega))) ?_;refine zm O (ah O (zm O (ah O (zn O O (ah O (a7 O (a8 lh O I4 O O) (ah O (a7 O (aD uU4 O O (hR2.1.c O)) (ah O (a7 O (cz O) (a7 O (aN O) (a6 (aW (rfl) (zKN (aa (aq (ae (zmm O (ag O C162 (zt w2 rb rv a _ 60 (by omega) hR2 (by omega)) ?_)))))))))))))))))));rintro v3 w3 ⟨rfl,⟨b3,hR3,hb3⟩,hc3⟩;have hrb:rb∉ay ov:=λh=>by have:=hi2.ge rb h;omega
   have ho4:=ho2.mod hc3 (λx hx hh=>by simp at hh;subst hh;exact hrb hx);refine iO (a) cO I9 O O O (by decide) (by decide) O O O O (ho4) (λ_=>rfl) (by rw[bz];omega) ?_;rintro s5 v5 w5 h5;refine za O (bA (ax (aj (ae (zmv O (aC O O (by omega)) (za O ?_))))));refine a6 ?_;have k24:=hc3.1;have hc5:=h5.mod;have hin5:In v5 [] w1.heap.size:=λx hx=>.inr ((h5.inn x hx).elim (λh=>hi2.ge x h) (λh=>by omega));have k1:=hc1.1;refine aT (m) (bq (by omega) ?_);refine⟨i+1,v5,b3,rfl,by omega,hR3.chg hc5 hrb (λx hx hh=>?_),by rw[hb3,hb2],?_,hin5,(hc2.t0 hc3 (λx hx=>by simp at hx;omega)).t0 hc5 (λx hx=>by have:=hi2.ge x hx;omega),by have:=hc5.1;omega⟩
   ·rw[hb3,hb2,hb1] at hx
    have:=hltb x hx
    have:=hi2.ge x hh
    omega
   ·rw[<-fM hlt,<-ha];exact h5.own
  ·have hil:i=ks.length:=by omega
   subst hil;rw[cX] at ho2;rw[sB,yU,dG] at hR2;refine a7 O (bG (bK O O) (bF (by omega))) ?_;refine zm O (aw O O (aw O O (aw O O (aw O O (aw O O (a7 O (aK O) (a6 (aI (rfl) (aO (an (an (aE (aj (zSR (za O (a6 (aa (zSR (za O (a6 (aq (aX [0,5,6,8,10,11] (λm vs w'=>∃(i:Nat) (iv rv:Value),vs=[.slice p (brB ks ids).length cp,.pointer (some ⟨rb,0,none⟩),.int .i64 ks.length,ov,iv,.int .i64 i]/\i+m=ids.length/\RdAt w' rb rv (kP (ids.drop i))/\ay rv=ay b1/\Own w' ov ks/\Own w' iv (ids.take i)/\In iv [] w2.heap.size/\Chg [] w w'/\w2.heap.size<=w'.heap.size) (ids.length) ?_ ?_))))))))))))))))))))))
   ·exact⟨0,_,rv,rfl,by omega,hR2,hb2,ho2,Own.nil _,In.nil,hc2,aM _⟩
   ·rintro m vs J w3 ⟨i,iv,rv3,rfl,hi3,hR3,hb3,ho3,hv3,hi3n,hc3,hk3⟩;refine aa (zSR (zmm O ?_));have hltov:=ho2.sl.lt;by_cases hlt:i<ids.length
    ·have hob12:∃q,m=q+1:=⟨m-1,by omega⟩
     obtain⟨m,rfl⟩:=hob12;have hob13:∃a,a=ids[i]:=⟨_,rfl⟩
     obtain⟨a,ha⟩:=hob13;have hdr:kP (ids.drop i)=be 4 a.toNat++kP (ids.drop (i+1)):=by
      unfold kP;rw[ti (λj:UInt32=>be 4 j.toNat) hlt,<-ha]
     have hdl:=fx (ids.drop i);rw[bE] at hdl;rw[hdr] at hR3 hdl;refine a7 O (bG (fN O O) (bT (by omega))) ?_;refine zm O (ah O (zm O (ah O (zn O O (ah O (a7 O (a8 lh O I4 O O) (ah O (a7 O (aD uU4 O O (hR3.1.c O)) (ah O (a7 O (cz O) (a7 O (aN O) (a6 (aW (rfl) (zKN (aa (aq (ae (zmm O (ag O C163 (Hs w3 rb rv3 _ 4 (by decide) hR3 ⟨by omega,by omega⟩) ?_)))))))))))))))))));rintro v4 w4 ⟨hv4,⟨b4,hR4,hb4⟩,hc4⟩;rw[id_rest] at hR4;have hid:=id_head a (kP (ids.drop (i+1)));have hob14:∃nn:Nat,nn=dB ((be 4 a.toNat++kP (ids.drop (i+1))).take 4):=⟨_,rfl⟩
     obtain⟨nn,hnn⟩:=hob14;rw[<-hnn] at hv4 hid;subst hv4;have htu:gL ((nn:Nat):Int)=a:=by rw[kS,hid]
     have hrb:rb∉ay iv:=λh=>by have:=hi3n.ge rb h;have:=hc1.1;omega
     have hiv4:=hv3.mod hc4 (λx hx hh=>by simp at hh;subst hh;exact hrb hx);have ho4:=ho3.mod hc4 (λx hx hh=>by simp at hh;subst hh;have:=hi2.ge _ hx;omega);refine a7 O (eE O uU3 bu) (iO (gL ((nn:Nat):Int)) aZ I25 O O O (by decide) (by decide) O O O O (hiv4) (λ_=>rfl) (by rw[bz];omega) ?_);rintro s5 v5 w5 h5;refine za O (bA (ax (aj (ae (zmv O (aC O O (by omega)) (za O ?_))))));refine a6 ?_;have k24:=hc4.1;have hc5:=h5.mod;have hin5:In v5 [] w2.heap.size:=λx hx=>.inr ((h5.inn x hx).elim (λh=>hi3n.ge x h) (λh=>by omega));have k1:=hc1.1;refine aT (m) (bq (by omega) ?_);refine⟨i+1,v5,b4,rfl,by omega,hR4.chg hc5 hrb (λx hx hh=>?_),by rw[hb4,hb3],ho4.mod hc5 (λx hx hh=>?_),?_,hin5,(hc3.t0 hc4 (λx hx=>by simp at hx;omega)).t0 hc5 (λx hx=>by have:=hi3n.ge x hx;omega),by have:=hc5.1;omega⟩
     ·rw[hb4,hb3,hb1] at hx
      have:=hltb x hx
      have:=hi3n.ge x hh
      omega
     ·have:=hltov x hx
      have:=hi3n.ge x hh
      omega
     ·rw[<-fM hlt,<-ha]
      have:=h5.own
      rwa [htu] at this
    ·have hil:i=ids.length:=by omega
     subst hil;rw[cX] at hv3;refine a7 O (bG (fN O O) (bF (by omega))) ?_;refine zm O (aw O O (aw O O (aw O O (aw O O (aw O O (a7 O (aK O) (a6 (aI (rfl) (aO (an (an (aE (aj (aa (zSR (zmm O (ag O C164 (yQ w3 ov iv ks ids ho3.sl hv3.sl hok) ?_)))))))))))))))));rintro v4 w4 ⟨bv4,rfl,ho4,hi4,hc4⟩;have hR4:=hR3.chg hc4 (by simp) (by simp);have hob15:=ho4.sl.form rfl;obtain⟨p4,c4,hbf⟩:=hob15;subst hbf;refine zm O (zx O (zx O (zaa O (zNR (zm O (zn O O (a7 O (a8 lh O I4 O O) (a7 O (aD uU4 O O (hR4.1.c O)) (zm O (ah O (zm O (ah O (a7 O (bG (bV O O) (congrArg Value.bool (decide_eq_false (λh=>h O)))) ?_)))))))))))));refine a7 O (aK O) (zm O (ah O (zm O (ah O (a7 O (qV bg uU5 uU9 ho4.sl O) (ah O (zm O (ah O (a7 O (qV bg uU5 uU9 (hs.mod0 (hc3.tr hc4)) O) (ah O (a7 O (tw O O) (a7 O (aK O) (a6 (aI (congrArg Value.bool (decide_eq_false (λh=>h O))) ?_))))))))))))));refine zKR (zmm O (zaa O (za O (a6 (zrf ?_)))));exact⟨⟨ov,iv,rfl,ho3.mod0 hc4,hv3.mod0 hc4,hi2.mono (λ_ h=>.inl h) hc1.1,hi3n.mono (λ_ h=>.inl h) (by have:=hc1.1;omega)⟩,hc3.tr hc4⟩
theorem Blk.sl1{α:Type}[Flat α]{w:World}{b:Nat}{a:α}(h:Blk w b (Flat.enc a)):Sl w (.slice (some ⟨b,0,none⟩) 1 1) [a] :=
 ⟨_,1,rfl,aM _,rfl,h.at (by rw[gS];simp[bl])⟩
theorem kN{α:Type}{l:List α}{i:Nat}(h:i<=l.length):(l.take i).length=i/\(l.drop i).length=l.length-i:=by
 rw[bz,bE];omega
theorem xa(w:World)(v:Value)(l:List (Pr))(hs:Sl w v l)(hl:l.length<=100000) :
  Ret Tryz.prog 154 #[v] w λr w'=>Own w' r l/\In r [] w.heap.size/\Chg [] w w':=by
 obtain⟨p,cp,rfl⟩:=hs.form rfl;refine enter [2] Tryz.func154 O O (al O) (zSR (za O (a6 (aa (zSR (zm O ?_))))));cases p with
 | none =>
  have hnil:l=[]:=by obtain⟨p,c,he,_,h⟩:=hs;cases he;exact h
  skip
  refine a7 O (ld df O O (.inl O)) (a6 (aW (rfl) (zSR (za O (a6 (zrt ?_))))));subst hnil;exact⟨Own.nil _,In.nil,Chg.refl _⟩
 | some ad =>
  skip
  refine a7 O (ld df O O (.inr O)) (a6 (aI (bF (by simp)) ?_));refine zKR (aY O (DJ [] ([]:List (Pr)) df I49 O O O O O O (by decide)) ?_);rintro _ w1 ⟨⟨p1,c1,rfl⟩,ho1,hc1,hi1⟩;refine zm O (cJ df df I49 (.inr ⟨_,rfl⟩) O O O (by decide) O (ho1) ((hs.mod0 hc1).src) O O (by simp;omega) ?_);rintro v2 w2 h2;refine za O (a6 (zrf ?_));refine⟨h2.own,?_,hc1.t0 h2.mod (λx hx=>hi1.ge x hx)⟩;exact h2.inn.mono (λx hx=>.inr (hi1.ge x hx)) hc1.1
theorem Dv(w:World)(p:Option Addr)(cap vb:Nat)(l:List (Pr))(a:Pr)(i:Nat)(hs:Own w (.slice p l.length cap) l)(hv:Blk w vb (Flat.enc a))(hne:vb∉ay (.slice p l.length cap))(hi:i<=l.length)(hl:l.length<=100000) :
  Ret Tryz.prog 155 #[.slice p l.length cap,.int .i64 i,.slice (some ⟨vb,0,none⟩) 1 1] w λr w'=>Own w' r (l.take i++a::l.drop i)/\In r (ay (.slice p l.length cap)) w.heap.size/\Chg (ay (.slice p l.length cap)) w w':=by
 have hob1:=kN hi;obtain⟨htl,hdl⟩:=hob1;have hcl:l.length<=cap:=by obtain⟨p',c',he,h,_⟩:=hs;cases he;exact h
 refine enter [6] Tryz.func155 O O (al O) (zSR (za O (zNR (zmm O (bD O (eN i df I49 O hs.sl O O O hi) ?_)))));rintro _ ⟨⟨p1,c1,rfl⟩,hs1,hb1⟩;refine zNR (zmv O (aB O df) (za O (a6 (aa (zSR (zmv O (dy O O) (a6 (aI (rfl) (zKR (zmv O (aB O df) (za O (a6 (aa (zSR (zmm O (a7 O (dy O O) (a6 ?_)))))))))))))))));by_cases hin:i=l.length
 ·subst hin;refine bI O (rfl) ?_;refine zSR (zmm O (cJ df df I49 (.inr ⟨_,rfl⟩) O O O (by decide) O (hs) ((Blk.sl1 hv).src) O O (by simp;omega) ?_));rintro v2 w2 h2;refine za O (a6 (zrt ?_));rw[cX,sB];exact⟨h2.own,h2.inn,h2.mod⟩
 ·refine aJ O (by omega) ?_;refine zKN (aa (zSR (zmm O (a7 O (aC O O (by omega)) (zm O ?_)))));refine a7 O (ic O df) (a7 O (dk O O) (a6 ?_));by_cases hc:cap<l.length+1
  ·refine bI O (by omega) ?_;refine zSR (zmm O (a7 O (sG i df I49 O O O (by omega)) ?_));refine zmm O (a7 O (aC O O (by omega)) (zmv O (bf O O (by omega)) ?_));have hs2:Sl w (.slice p i cap) (l.take i):=(hs.front hi).sl;refine aY O (qX (l.length+1-i) ((([],[]):Pr)) df uU3 I49 O O O (by decide) htl hs2 O O (by omega) (by omega) (by omega)) ?_;rintro v3 w3 ⟨ho3,hc3,hi3⟩;refine za O (zNR (zmm O ?_));have hL:(l.take i++List.replicate (l.length+1-i) ((([],[]):Pr))).length=l.length+1:=by rw[aF,htl,cN];omega
   refine bD O (gW i df I49 O ho3 O O O (by rw[hL];omega)) ?_;rintro v4 hsub4;refine zm O (dO O (dQ df I49 O ho3 hsub4 (by rw[hL];omega) ((Blk.sl1 hv).mod0 hc3).src O O) ?_);rintro w5 ⟨ho5,hc5,hs5⟩;refine a6 (aa ?_);rw[hL,show min ([a]:List (Pr)).length (l.length+1-i)=1 by simp;omega,kI (a:=l.take i) (j:=1) htl.symm rfl,jj,show([a]:List (Pr)).take 1=[a] from rfl] at ho5;have hL5:(l.take i++[a]++List.replicate (l.length+1-i-1) ((([],[]):Pr))).length=l.length+1:=by rw[aF,aF,htl,cN,gB];omega
   have hc35:=hc3.t0 hc5 (λx hx=>hi3.ge x hx);have hs5:=hs.sl.mod0 hc35;refine aH bx (.pure 0 (.pure 1 (.pure 2 (.pure 3 (.pure 4 (.pure 5 (.pure 6 (.pure 7 (.eff 8 [] .nil))))))))) (by kernel_rfl) ?_;refine ym O (ym O (ym O (yp O (λ_=>(aC O O (by omega))) ?_)));refine yex O (gW (i+1) df I49 O ho5 O O (by omega) (by rw[hL5];omega)) ?_;rintro v6 hsub6;refine ym O (ym O (yex O (eN i df I49 O hs5 O O O hi) ?_));rintro _ ⟨⟨p7,c7,rfl⟩,hs7,hb7⟩;refine cj O O O (dQ df I49 O ho5 hsub6 (by rw[hL5];omega) ((hs7.mod0 (drw _)).src) O O) ?_;rintro w8 ⟨ho8,hc8,hs8⟩;refine⟨trivial,?_⟩;refine zPR (zma O (a6 (zrt ?_)));have hc8:Chg (ay v3) w5 w8:=hc8;rw[hL5,hdl,show min (l.length-i) (l.length+1-(i+1))=l.length-i by omega,kI (a:=l.take i++[a]) (j:=l.length-i) (by rw[aF,htl];rfl) (by rw[bz,hdl];omega),gj (l:=List.replicate (l.length+1-i-1) ((([],[]):Pr))) (by rw[cN];omega),cE,cd (l:=l.drop i) (by omega),bP] at ho8;exact⟨ho8,λx hx=>.inr (hi3.ge x hx),(hc35.t0 hc8 (λx hx=>hi3.ge x hx)).mono (by simp)⟩
  ·refine aJ O (by omega) ?_;refine zKR (zmm O (zmv O (aC O O (by omega)) ?_));obtain⟨b,off,rfl⟩:∃b off,p=some ⟨b,off,none⟩:=by
    obtain⟨p',c',he,_,h⟩:=hs;cases he;cases p with
    | none => have := h.2; omega
    | some ad => obtain ⟨b, off, sp⟩ := ad; obtain ⟨h1, _⟩ := h; simp only at h1; subst h1; exact ⟨b, off, rfl⟩
   have hob2:=zQ hs;obtain⟨c,hR,hsz,hcl2⟩:=hob2;have hnb:vb≠b:=λe=>hne (by rw[e];simp[ay]);have hsz':off+cap*2<=c.size:=hsz;have hroom1:off+(i+1)*Flat.sz (Pr)+(l.drop i).length*Flat.sz (Pr)<=c.size:=by
    rw[hdl]
    have:(i+1)*Flat.sz (Pr)+(l.length-i)*Flat.sz (Pr)<=cap*Flat.sz (Pr):=by rw[<-eY];exact ew _ (by omega)
    omega
   have hroom2:off+i*Flat.sz (Pr)+1*Flat.sz (Pr)<=c.size:=by
    have:i*Flat.sz (Pr)+1*Flat.sz (Pr)<=cap*Flat.sz (Pr):=by rw[<-eY];exact ew _ (by omega)
    omega
   refine a7 O (sG (l.length+1) df I49 O O (by omega) (by omega)) ?_;refine za O (a6 (aa (zSR (zmm O (zmm O (a7 O (aC O O (by omega)) ?_))))));refine a7 O (u4 (i+1) df I49 O O (by omega) (by omega) (by omega)) ?_;refine a7 O (DI Tryz.func197 (by kernel_rfl) O (by kernel_rfl) (e:=Extern.SlicesOverlaps.overlaps #[33,33] #[4]) (by kernel_rfl) (vJ df I49 hv hv.lt hnb hR (by omega))) ?_;refine a7 O (cz O) (a6 (aW (rfl) (aa ?_)));have hdc:∀q x,(bl (l.drop i))[q]?=some x->c[off+i*Flat.sz (Pr)+q]?=some x:=λq x hq=>by
    rw[<-fg,kZ] at hq;rw[mP];exact hcl2 _ _ hq
   refine aH bx (.pure 0 (.pure 1 (.pure 2 (.pure 3 (.pure 4 (.pure 5 (.pure 6 (.pure 7 (.eff 8 [] .nil))))))))) (by kernel_rfl) ?_;refine ym O (ym O (ym O (yp O (λ_=>(aC O O (by omega))) ?_)));refine yp O (λ_=>u4 (i+1) df I49 O O (by omega) (by omega) (by omega)) ?_;refine ym O (ym O (yp O (λ_=>u4 i df I49 O O O (by omega) (by omega)) ?_));refine cj O O O (oQ (m:=l.drop i) df I49 O O O (by rw[hdl];omega) (hR.at hdc:At _ b (off+i*Flat.sz (Pr)) _) hR hroom1) ?_;rintro w2 ⟨hR2,hc2,hs2⟩;refine⟨trivial,?_⟩;refine zPR (zmm O ?_);have hc2:Chg [b] w w2:=hc2;have hR2:Row w2 b (gn c (off+(i+1)*Flat.sz (Pr)) (bl (l.drop i))):=hR2;refine a7 O (u4 i df I49 O O O (by omega) (by omega)) ?_;refine zm O (dO O (oQ (m:=([a]:List (Pr))) df I49 O O O (by simp;omega) ((hv.nb hc2 hnb).at (off:=0) (by rw[gS];simp[bl])) hR2 (by rw[cY];exact hroom2)) ?_);rintro w3 ⟨hR3,hc3,hs3⟩;refine zNR (zma O (a6 (zrt ?_)));have hR3:Row w3 b (gn (gn c (off+(i+1)*Flat.sz (Pr)) (bl (l.drop i))) (off+i*Flat.sz (Pr)) (Flat.enc a)):=by
    have:bl ([a]:List (Pr))=Flat.enc a:=by simp[bl]
    rw[<-this];exact hR3
   refine⟨hR3.own (by rw[aF,cg,htl,hdl];omega) (by rw[aF,cg,htl,hdl];omega) (by rw[cY,cY];exact hsz) (zL hi (by omega) hsz hcl2),λx hx=>.inl hx,?_⟩;exact hc2.tr hc3
theorem Dy(w:World)(p:Option Addr)(cap:Nat)(l:List (Pr))(i:Nat)(hs:Own w (.slice p l.length cap) l)(hi:i<l.length)(hl:l.length<=100000) :
  Ret Tryz.prog 168 #[.slice p l.length cap,.int .i64 i,.int .i64 ((i:Int)+1)] w λr w'=>Own w' r (l.take i++l.drop (i+1))/\In r (ay (.slice p l.length cap)) w.heap.size/\Chg (ay (.slice p l.length cap)) w w':=by
 have hob3:=kN (mO hi);obtain⟨htl,_⟩:=hob3;have hob4:=kN (show i+1<=l.length from hi);obtain⟨_,hdl⟩:=hob4;have hcl:l.length<=cap:=by obtain⟨p',c',he,h,_⟩:=hs;cases he;exact h
 refine enter [6] Tryz.func168 O O (al O) (zSR (za O (zNR (zmm O (zmm O (a7 O (aB O df) (bD O (Ca df I49 O O O O (by omega) (by omega) (by omega)) ?_)))))));rintro _ _;refine a6 (aa (zSR (zmm O (a7 O (dy O O) (a6 (aJ O (by omega) ?_))))));refine zKR (zmv O (aB O df) (za O ?_));refine a6 (aa (aH bx (.pure 0 (.pure 1 (.pure 2 (.pure 3 (.pure 4 (.pure 5 (.eff 6 [] (.pure 7 .nil)))))))) (by kernel_rfl) ?_));refine ym O (ym O (yp O (λ_=>sG i df I49 O O O (by omega)) ?_));refine ym O (ym O (yex O (eN (i+1) df I49 O hs.sl O O (by omega) (by omega)) ?_));rintro _ ⟨⟨p2,c2,rfl⟩,hs2,hb2⟩;refine fj O (zo (n:=i) (q:=l.length-(i+1)) df df (.inr ⟨_,rfl⟩) I49 O htl hdl (hs.front (mO hi)) ((hs2.mod0 (drw _)).src) O O (by omega)) ?_;rintro _ w3 ⟨rfl,ho3,hc3,hs3⟩;refine⟨trivial,?_⟩;refine ya O (zPR (zmm O (a7 O (aB O df) (zm O ?_))));have hbe:∀n,ay (.slice p n cap)=ay (.slice p l.length cap):=λn=>qB;have hc3:Chg (ay (.slice p i cap)) w w3:=hc3;rw[hbe] at hc3;have hL:(l.take i++l.drop (i+1)).length=i+(l.length-(i+1)):=by rw[aF,htl,hdl]
 refine a7 O (BW (i+(l.length-(i+1))) 1 df I49 O O O O (by omega) (by omega)) ?_;refine dO O (ve ((([],[]):Pr)) df I49 O O O hL ho3 O (by omega)) ?_;rintro w4 ⟨ho4,hc4,hs4⟩;refine zNR (zma O (a6 (zrf ?_)));rw[hbe] at hc4;exact⟨ho4,λx hx=>.inl (by rw[<-hbe (i+(l.length-(i+1)))];exact hx),hc3.tr hc4⟩
theorem x9(w:World)(v:Value)(l:List (Bs))(hs:Sl w v l)(hl:l.length<=100000) :
  Ret Tryz.prog 203 #[v] w λr w'=>Own w' r l/\In r [] w.heap.size/\Chg [] w w':=by
 have hob5:=hs.form rfl;obtain⟨p,cp,rfl⟩:=hob5;refine enter [2] Tryz.func203 O O (al O) (zSR (za O (a6 (aa (zSR (zm O ?_))))));cases p with
 | none =>
  have hnil:l=[]:=by obtain⟨p,c,he,_,h⟩:=hs;cases he;exact h
  skip
  refine a7 O (ld cO O O (.inl O)) (a6 (aW (rfl) (zSR (za O (a6 (zrt ?_))))));subst hnil;exact⟨Own.nil _,In.nil,Chg.refl _⟩
 | some ad =>
  skip
  refine a7 O (ld cO O O (.inr O)) (a6 (aI (bF (by simp)) ?_));refine zKR (aY O (DJ [] ([]:List (Bs)) cO I9 O O O O O O (by decide)) ?_);rintro _ w1 ⟨⟨p1,c1,rfl⟩,ho1,hc1,hi1⟩;refine zm O (cJ cO cO I9 (.inr ⟨_,rfl⟩) O O O (by decide) O (ho1) ((hs.mod0 hc1).src) O O (by simp;omega) ?_);rintro v2 w2 h2;refine za O (a6 (zrf ?_));refine⟨h2.own,?_,hc1.t0 h2.mod (λx hx=>hi1.ge x hx)⟩;exact h2.inn.mono (λx hx=>.inr (hi1.ge x hx)) hc1.1
theorem Du(w:World)(p:Option Addr)(cap vb:Nat)(l:List (Bs))(a:Bs)(i:Nat)(hs:Own w (.slice p l.length cap) l)(hv:Blk w vb (Flat.enc a))(hne:vb∉ay (.slice p l.length cap))(hi:i<=l.length)(hl:l.length<=100000) :
  Ret Tryz.prog 202 #[.slice p l.length cap,.int .i64 i,.slice (some ⟨vb,0,none⟩) 1 1] w λr w'=>Own w' r (l.take i++a::l.drop i)/\In r (ay (.slice p l.length cap)) w.heap.size/\Chg (ay (.slice p l.length cap)) w w':=by
 have hob6:=kN hi;obtain⟨htl,hdl⟩:=hob6;have hcl:l.length<=cap:=by obtain⟨p',c',he,h,_⟩:=hs;cases he;exact h
 refine enter [6] Tryz.func202 O O (al O) (zSR (za O (zNR (zmm O (bD O (eN i cO I9 O hs.sl O O O hi) ?_)))));rintro _ ⟨⟨p1,c1,rfl⟩,hs1,hb1⟩;refine zNR (zmv O (aB O cO) (za O (a6 (aa (zSR (zmv O (dy O O) (a6 (aI (rfl) (zKR (zmv O (aB O cO) (za O (a6 (aa (zSR (zmm O (a7 O (dy O O) (a6 ?_)))))))))))))))));by_cases hin:i=l.length
 ·subst hin;refine bI O (rfl) ?_;refine zSR (zmm O (cJ cO cO I9 (.inr ⟨_,rfl⟩) O O O (by decide) O (hs) ((Blk.sl1 hv).src) O O (by simp;omega) ?_));rintro v2 w2 h2;refine za O (a6 (zrt ?_));rw[cX,sB];exact⟨h2.own,h2.inn,h2.mod⟩
 ·refine aJ O (by omega) ?_;refine zKN (aa (zSR (zmm O (a7 O (aC O O (by omega)) (zm O ?_)))));refine a7 O (ic O cO) (a7 O (dk O O) (a6 ?_));by_cases hc:cap<l.length+1
  ·refine bI O (by omega) ?_;refine zSR (zmm O (a7 O (sG i cO I9 O O O (by omega)) ?_));refine zmm O (a7 O (aC O O (by omega)) (zmv O (bf O O (by omega)) ?_));have hs2:Sl w (.slice p i cap) (l.take i):=(hs.front hi).sl;refine aY O (qX (l.length+1-i) (([]:Bs)) cO uU3 I9 O O O (by decide) htl hs2 O O (by omega) (by omega) (by omega)) ?_;rintro v3 w3 ⟨ho3,hc3,hi3⟩;refine za O (zNR (zmm O ?_));have hL:(l.take i++List.replicate (l.length+1-i) (([]:Bs))).length=l.length+1:=by rw[aF,htl,cN];omega
   refine bD O (gW i cO I9 O ho3 O O O (by rw[hL];omega)) ?_;rintro v4 hsub4;refine zm O (dO O (dQ cO I9 O ho3 hsub4 (by rw[hL];omega) ((Blk.sl1 hv).mod0 hc3).src O O) ?_);rintro w5 ⟨ho5,hc5,hs5⟩;refine a6 (aa ?_);rw[hL,show min ([a]:List (Bs)).length (l.length+1-i)=1 by simp;omega,kI (a:=l.take i) (j:=1) htl.symm rfl,jj,show([a]:List (Bs)).take 1=[a] from rfl] at ho5;have hL5:(l.take i++[a]++List.replicate (l.length+1-i-1) (([]:Bs))).length=l.length+1:=by rw[aF,aF,htl,cN,gB];omega
   have hc35:=hc3.t0 hc5 (λx hx=>hi3.ge x hx);have hs5:=hs.sl.mod0 hc35;refine aH bx (.pure 0 (.pure 1 (.pure 2 (.pure 3 (.pure 4 (.pure 5 (.pure 6 (.pure 7 (.eff 8 [] .nil))))))))) (by kernel_rfl) ?_;refine ym O (ym O (ym O (yp O (λ_=>(aC O O (by omega))) ?_)));refine yex O (gW (i+1) cO I9 O ho5 O O (by omega) (by rw[hL5];omega)) ?_;rintro v6 hsub6;refine ym O (ym O (yex O (eN i cO I9 O hs5 O O O hi) ?_));rintro _ ⟨⟨p7,c7,rfl⟩,hs7,hb7⟩;refine cj O O O (dQ cO I9 O ho5 hsub6 (by rw[hL5];omega) ((hs7.mod0 (drw _)).src) O O) ?_;rintro w8 ⟨ho8,hc8,hs8⟩;refine⟨trivial,?_⟩;refine zPR (zma O (a6 (zrt ?_)));have hc8:Chg (ay v3) w5 w8:=hc8;rw[hL5,hdl,show min (l.length-i) (l.length+1-(i+1))=l.length-i by omega,kI (a:=l.take i++[a]) (j:=l.length-i) (by rw[aF,htl];rfl) (by rw[bz,hdl];omega),gj (l:=List.replicate (l.length+1-i-1) (([]:Bs))) (by rw[cN];omega),cE,cd (l:=l.drop i) (by omega),bP] at ho8;exact⟨ho8,λx hx=>.inr (hi3.ge x hx),(hc35.t0 hc8 (λx hx=>hi3.ge x hx)).mono (by simp)⟩
  ·refine aJ O (by omega) ?_;refine zKR (zmm O (zmv O (aC O O (by omega)) ?_));obtain⟨b,off,rfl⟩:∃b off,p=some ⟨b,off,none⟩:=by
    obtain⟨p',c',he,_,h⟩:=hs;cases he;cases p with
    | none => have := h.2; omega
    | some ad => obtain ⟨b, off, sp⟩ := ad; obtain ⟨h1, _⟩ := h; simp only at h1; subst h1; exact ⟨b, off, rfl⟩
   have hob7:=zQ hs;obtain⟨c,hR,hsz,hcl2⟩:=hob7;have hnb:vb≠b:=λe=>hne (by rw[e];simp[ay]);have hsz':off+cap*1<=c.size:=hsz;have hroom1:off+(i+1)*Flat.sz (Bs)+(l.drop i).length*Flat.sz (Bs)<=c.size:=by
    rw[hdl]
    have:(i+1)*Flat.sz (Bs)+(l.length-i)*Flat.sz (Bs)<=cap*Flat.sz (Bs):=by rw[<-eY];exact ew _ (by omega)
    omega
   have hroom2:off+i*Flat.sz (Bs)+1*Flat.sz (Bs)<=c.size:=by
    have:i*Flat.sz (Bs)+1*Flat.sz (Bs)<=cap*Flat.sz (Bs):=by rw[<-eY];exact ew _ (by omega)
    omega
   refine a7 O (sG (l.length+1) cO I9 O O (by omega) (by omega)) ?_;refine za O (a6 (aa (zSR (zmm O (zmm O (a7 O (aC O O (by omega)) ?_))))));refine a7 O (u4 (i+1) cO I9 O O (by omega) (by omega) (by omega)) ?_;refine a7 O (DI Tryz.func238 (by kernel_rfl) O (by kernel_rfl) (e:=Extern.SlicesOverlaps.overlaps #[70,70] #[4]) (by kernel_rfl) (vJ cO I9 hv hv.lt hnb hR (by omega))) ?_;refine a7 O (cz O) (a6 (aW (rfl) (aa ?_)));have hdc:∀q x,(bl (l.drop i))[q]?=some x->c[off+i*Flat.sz (Bs)+q]?=some x:=λq x hq=>by
    rw[<-fg,kZ] at hq;rw[mP];exact hcl2 _ _ hq
   refine aH bx (.pure 0 (.pure 1 (.pure 2 (.pure 3 (.pure 4 (.pure 5 (.pure 6 (.pure 7 (.eff 8 [] .nil))))))))) (by kernel_rfl) ?_;refine ym O (ym O (ym O (yp O (λ_=>(aC O O (by omega))) ?_)));refine yp O (λ_=>u4 (i+1) cO I9 O O (by omega) (by omega) (by omega)) ?_;refine ym O (ym O (yp O (λ_=>u4 i cO I9 O O O (by omega) (by omega)) ?_));refine cj O O O (oQ (m:=l.drop i) cO I9 O O O (by rw[hdl];omega) (hR.at hdc:At _ b (off+i*Flat.sz (Bs)) _) hR hroom1) ?_;rintro w2 ⟨hR2,hc2,hs2⟩;refine⟨trivial,?_⟩;refine zPR (zmm O ?_);have hc2:Chg [b] w w2:=hc2;have hR2:Row w2 b (gn c (off+(i+1)*Flat.sz (Bs)) (bl (l.drop i))):=hR2;refine a7 O (u4 i cO I9 O O O (by omega) (by omega)) ?_;refine zm O (dO O (oQ (m:=([a]:List (Bs))) cO I9 O O O (by simp;omega) ((hv.nb hc2 hnb).at (off:=0) (by rw[gS];simp[bl])) hR2 (by rw[cY];exact hroom2)) ?_);rintro w3 ⟨hR3,hc3,hs3⟩;refine zNR (zma O (a6 (zrt ?_)));have hR3:Row w3 b (gn (gn c (off+(i+1)*Flat.sz (Bs)) (bl (l.drop i))) (off+i*Flat.sz (Bs)) (Flat.enc a)):=by
    have:bl ([a]:List (Bs))=Flat.enc a:=by simp[bl]
    rw[<-this];exact hR3
   refine⟨hR3.own (by rw[aF,cg,htl,hdl];omega) (by rw[aF,cg,htl,hdl];omega) (by rw[cY,cY];exact hsz) (zL hi (by omega) hsz hcl2),λx hx=>.inl hx,?_⟩;exact hc2.tr hc3
theorem Dx(w:World)(p:Option Addr)(cap:Nat)(l:List (Bs))(i:Nat)(hs:Own w (.slice p l.length cap) l)(hi:i<l.length)(hl:l.length<=100000) :
  Ret Tryz.prog 210 #[.slice p l.length cap,.int .i64 i,.int .i64 ((i:Int)+1)] w λr w'=>Own w' r (l.take i++l.drop (i+1))/\In r (ay (.slice p l.length cap)) w.heap.size/\Chg (ay (.slice p l.length cap)) w w':=by
 have hob8:=kN (mO hi);obtain⟨htl,_⟩:=hob8;have hob9:=kN (show i+1<=l.length from hi);obtain⟨_,hdl⟩:=hob9;have hcl:l.length<=cap:=by obtain⟨p',c',he,h,_⟩:=hs;cases he;exact h
 refine enter [6] Tryz.func210 O O (al O) (zSR (za O (zNR (zmm O (zmm O (a7 O (aB O cO) (bD O (Ca cO I9 O O O O (by omega) (by omega) (by omega)) ?_)))))));rintro _ _;refine a6 (aa (zSR (zmm O (a7 O (dy O O) (a6 (aJ O (by omega) ?_))))));refine zKR (zmv O (aB O cO) (za O ?_));refine a6 (aa (aH bx (.pure 0 (.pure 1 (.pure 2 (.pure 3 (.pure 4 (.pure 5 (.eff 6 [] (.pure 7 .nil)))))))) (by kernel_rfl) ?_));refine ym O (ym O (yp O (λ_=>sG i cO I9 O O O (by omega)) ?_));refine ym O (ym O (yex O (eN (i+1) cO I9 O hs.sl O O (by omega) (by omega)) ?_));rintro _ ⟨⟨p2,c2,rfl⟩,hs2,hb2⟩;refine fj O (zo (n:=i) (q:=l.length-(i+1)) cO cO (.inr ⟨_,rfl⟩) I9 O htl hdl (hs.front (mO hi)) ((hs2.mod0 (drw _)).src) O O (by omega)) ?_;rintro _ w3 ⟨rfl,ho3,hc3,hs3⟩;refine⟨trivial,?_⟩;refine ya O (zPR (zmm O (a7 O (aB O cO) (zm O ?_))));have hbe:∀n,ay (.slice p n cap)=ay (.slice p l.length cap):=λn=>qB;have hc3:Chg (ay (.slice p i cap)) w w3:=hc3;rw[hbe] at hc3;have hL:(l.take i++l.drop (i+1)).length=i+(l.length-(i+1)):=by rw[aF,htl,hdl]
 refine a7 O (BW (i+(l.length-(i+1))) 1 cO I9 O O O O (by omega) (by omega)) ?_;refine dO O (ve (([]:Bs)) cO I9 O O O hL ho3 O (by omega)) ?_;rintro w4 ⟨ho4,hc4,hs4⟩;refine zNR (zma O (a6 (zrf ?_)));rw[hbe] at hc4;exact⟨ho4,λx hx=>.inl (by rw[<-hbe (i+(l.length-(i+1)))];exact hx),hc3.tr hc4⟩
theorem IA(w:World)(n:Nat)(hn:n<=100000) :
  Ret Tryz.prog 243 #[.slice none 0 0,.int .i64 n] w λr w'=>Own w' r ([]:List (Bs))/\In r [] w.heap.size/\Chg [] w w':=by
 refine enter [4] Tryz.func243 O O (al O) (zSR (za O (a6 (aa (zSR (zmv O (bK O O) (a6 (aJ O (by omega) ?_))))))));refine zKN (aa (zSR (zmm O (a7 O (ic O cO) ?_))));refine zmv O (aB O cO) (a7 O (bf O O (by omega)) (a7 O (bf O O (by omega)) (za O ?_)));refine zNR (zmv O (dk O O) (a6 ?_));by_cases h0:n=0
 ·refine aJ O (by omega) ?_;refine zKR (zma O (a6 (zrf ?_)));exact⟨Own.nil _,In.nil,Chg.refl _⟩
 ·refine bI O (by omega) ?_;refine ae (zmm O (a7 O (ic O cO) ?_));refine a7 O (sG 0 cO I9 O O O (by omega)) ?_;refine zm O (aY O (qX (n:=0) (l:=([]:List (Bs))) n (([]:Bs)) cO uU3 I9 O O O (by decide) O (Sl.nil w 0) O O (by omega) (by omega) (by omega)) ?_);rintro v3 w3 ⟨ho3,hc3,hi3⟩;refine zmv O (aB O cO) ?_;have hob10:=ho3.sl.form rfl;obtain⟨p3,c3,hf3⟩:=hob10;subst hf3;have hfr:=ho3.front (eh _);have hib:In (.slice p3 0 c3) [] w.heap.size:=λx hx=>hi3 x (by rw[qB (l':=0) (c':=c3)];exact hx);refine a7 O (sG 0 cO I9 O O O (by omega)) ?_;refine za O (zNR (zma O (a6 (zrf ?_))));exact⟨hfr,hib,hc3⟩
theorem qE(w:World)(v:Value)(L:List j8)(ls:List (List (Bs)))(hv:Sl w v L)(hlen:ls.length=L.length)(hls:∀(i:Nat) (s:j8) (l:List (Bs)),L[i]?=some s->ls[i]?=some l->Sl w s.1 l)(hn:ls.flatten.length<=100000)(hL:L.length<=1000) :
  Ret Tryz.prog 212 #[v] w λr w'=>Own w' r ls.flatten/\In r [] w.heap.size/\Chg [] w w':=by
 have hob11:=hv.form rfl;obtain⟨p,cp,rfl⟩:=hob11;have hup:∀i l,ls[i]?=some l->(ls.take (i+1)).flatten=(ls.take i).flatten++l:=λi l h=>by
  have hob12:=List.getElem?_eq_some_iff.1 h;obtain⟨q,rfl⟩:=hob12;rw[<-fM q,lR];simp
 have hle:∀i,(ls.take i).flatten.length<=ls.flatten.length:=λi=>by
  have h:=congrArg List.length (congrArg List.flatten (eZ i ls));rw[lR,aF] at h;omega
 refine enter [2] Tryz.func212 O O (al O) (zSR (za O (zNR (za O (a6 (aa (zSR (zmv O (aB O xV) (zm O (a6 (aq (aX [0,3,9,10,11] (λm vs w'=>∃i:Nat,vs=[.slice p L.length cp,.int .i64 (ls.take i).flatten.length,.slice p L.length cp,.int .i64 L.length,.int .i64 i]/\i+m=L.length/\Chg [] w w') (L.length) ?_ ?_))))))))))))
 ·exact⟨0,rfl,by omega,Chg.refl _⟩
 ·rintro m vs J w1 ⟨i,rfl,hi,hc1⟩;refine zSR (a7 O (bK O O) ?_);refine a6 (aa (aA O (λhlt=>?_) (λhlt=>?_)))
  ·refine zKN (aa (aq (aa (ae ?_))));have hob13:∃q,m=q+1:=⟨m-1,by omega⟩
   obtain⟨m,rfl⟩:=hob13;have hob14:∃s,L[i]?=some s:=⟨_,bM (by omega)⟩
   obtain⟨s,hs⟩:=hob14;have hob15:∃l,ls[i]?=some l:=⟨_,bM (by omega)⟩
   obtain⟨l,hl⟩:=hob15;have hob16:=(hls i s l hs hl).form rfl;obtain⟨ps,cs,hsf⟩:=hob16;have hfl:=congrArg List.length (hup i l hl);rw[aF] at hfl;have hle1:=hle (i+1);have hv1:=hv.mod0 hc1;refine bD O (aS (i) xV I70 O (hv1) O O (by first|rfl|omega) (by omega)) ?_;rintro _ ⟨bi,oi,rfl,hei,hbi⟩;refine a7 O (aD cO O O (((hv1.at hei hs).c0 (congrArg some hsf):_=some (Value.slice ps l.length cs)))) ?_;refine za O (zNR (zmm O (a7 O (aB O cO) (a7 O (aC O O (by omega)) (za O ?_)))));refine zNR (zmv O (bK O O) (a6 (aJ O (by omega) ?_)));refine bQ (ax (aj (ae (a7 O (aC O O (by omega)) (zm O ?_)))));refine a6 (aT (m) (bq (by omega) ?_));refine⟨i+1,au rfl (au (bL ?_) (au O (au O (au O bO)))),by omega,hc1⟩;omega
  ·refine aO (an (an (aE (aj (zSR (zm O ?_))))));have hil:i=L.length:=by omega
   subst hil;rw[<-hlen,cX];refine ag O C243 (IA _ ls.flatten.length hn) ?_;rintro v2 w2 ⟨ho2,hi2,hc2⟩;refine za O (a6 (aa (zSR (zmv O (aB O xV) (zm O (a6 (aq ?_)))))));have hc02:=hc1.tr hc2;refine aX [6,25,26,27] (λm vs w'=>∃(i:Nat) (ov:Value),vs=[ov,.slice p L.length cp,.int .i64 L.length,.int .i64 i]/\i+m=ls.length/\Chg [] w w'/\Own w' ov (ls.take i).flatten/\In ov [] w.heap.size) (ls.length) ?_ ?_
   ·exact⟨0,v2,by rw[hlen];rfl,by omega,hc02,ho2,hi2.mono (λ_ h=>.inl h) hc1.1⟩
   ·rintro m vs J w3 ⟨i,ov,rfl,hi3,hc3,ho3,hi3n⟩;refine zSR (a7 O (bK O O) ?_);refine a6 (aa (aA O (λhlt=>?_) (λhlt=>?_)))
    ·refine zKN (aa (aq (aa (ae ?_))));have hob17:∃q,m=q+1:=⟨m-1,by omega⟩
     obtain⟨m,rfl⟩:=hob17;have hob18:∃s,L[i]?=some s:=⟨_,bM (by omega)⟩
     obtain⟨s,hs⟩:=hob18;have hob19:∃l,ls[i]?=some l:=⟨_,bM (by omega)⟩
     obtain⟨l,hl⟩:=hob19;have hsl:=hls i s l hs hl;have hob20:=hsl.form rfl;obtain⟨ps,cs,hsf⟩:=hob20;rw[hsf] at hsl;have hfl:=congrArg List.length (hup i l hl);rw[aF] at hfl;have hle1:=hle (i+1);have hv3:=hv.mod0 hc3;refine bD O (aS (i) xV I70 O (hv3) O O (by first|rfl|omega) (by omega)) ?_;rintro _ ⟨bi,oi,rfl,hei,hbi⟩;refine a7 O (aD cO O O (((hv3.at hei hs).c0 (congrArg some hsf):_=some (Value.slice ps l.length cs)))) ?_;refine za O (a6 (ae (zmm O (cJ cO cO I9 (.inr ⟨_,rfl⟩) O O O (by decide) O (ho3) ((hsl.mod0 hc3).src) O O (by omega) ?_))));rintro v4 w4 h4;refine za O (bA (ax (aj (ae (a7 O (aC O O (by omega)) (zm O ?_))))));refine a6 ?_;have k1:=hc1.1;have k3:=hc3.1;refine aT (m) (bq (by omega) ?_);refine⟨i+1,v4,rfl,by omega,hc3.t0 h4.mod (λx hx=>by have:=hi3n.ge x hx;omega),by rw[hup i l hl];exact h4.own,λx hx=>.inr ?_⟩;rcases h4.inn x hx with q|q
     ·exact hi3n.ge x q
     ·omega
    ·refine aO (an (an (aE (aj (zSR (zma O (a6 (zrf ?_))))))));have hil:i=ls.length:=by omega
     subst hil;rw[cX] at ho3;exact⟨ho3,hi3n,hc3⟩
theorem qF(w:World)(v:Value)(l:List (UInt32))(hs:Sl w v l)(hl:l.length<=100000) :
  Ret Tryz.prog 200 #[v] w λr w'=>Own w' r l/\In r [] w.heap.size/\Chg [] w w':=by
 have hob21:=hs.form rfl;obtain⟨p,cp,rfl⟩:=hob21;refine enter [2] Tryz.func200 O O (al O) (zSR (za O (a6 (aa (zSR (zm O ?_))))));cases p with
 | none =>
  have hnil:l=[]:=by obtain⟨p,c,he,_,h⟩:=hs;cases he;exact h
  skip
  refine a7 O (ld aZ O O (.inl O)) (a6 (aW (rfl) (zSR (za O (a6 (zrt ?_))))));subst hnil;exact⟨Own.nil _,In.nil,Chg.refl _⟩
 | some ad =>
  skip
  refine a7 O (ld aZ O O (.inr O)) (a6 (aI (bF (by simp)) ?_));refine zKR (aY O (DJ [] ([]:List (UInt32)) aZ I25 O O O O O O (by decide)) ?_);rintro _ w1 ⟨⟨p1,c1,rfl⟩,ho1,hc1,hi1⟩;refine zm O (cJ aZ aZ I25 (.inr ⟨_,rfl⟩) O O O (by decide) O (ho1) ((hs.mod0 hc1).src) O O (by simp;omega) ?_);rintro v2 w2 h2;refine za O (a6 (zrf ?_));refine⟨h2.own,?_,hc1.t0 h2.mod (λx hx=>hi1.ge x hx)⟩;exact h2.inn.mono (λx hx=>.inr (hi1.ge x hx)) hc1.1
theorem Dt(w:World)(p:Option Addr)(cap vb:Nat)(l:List (UInt32))(a:UInt32)(i:Nat)(hs:Own w (.slice p l.length cap) l)(hv:Blk w vb (Flat.enc a))(hne:vb∉ay (.slice p l.length cap))(hi:i<=l.length)(hl:l.length<=100000) :
  Ret Tryz.prog 204 #[.slice p l.length cap,.int .i64 i,.slice (some ⟨vb,0,none⟩) 1 1] w λr w'=>Own w' r (l.take i++a::l.drop i)/\In r (ay (.slice p l.length cap)) w.heap.size/\Chg (ay (.slice p l.length cap)) w w':=by
 have hob22:=kN hi;obtain⟨htl,hdl⟩:=hob22;have hcl:l.length<=cap:=by obtain⟨p',c',he,h,_⟩:=hs;cases he;exact h
 refine enter [6] Tryz.func204 O O (al O) (zSR (za O (zNR (zmm O (bD O (eN i aZ I25 O hs.sl O O O hi) ?_)))));rintro _ ⟨⟨p1,c1,rfl⟩,hs1,hb1⟩;refine zNR (zmv O (aB O aZ) (za O (a6 (aa (zSR (zmv O (dy O O) (a6 (aI (rfl) (zKR (zmv O (aB O aZ) (za O (a6 (aa (zSR (zmm O (a7 O (dy O O) (a6 ?_)))))))))))))))));by_cases hin:i=l.length
 ·subst hin;refine bI O (rfl) ?_;refine zSR (zmm O (cJ aZ aZ I25 (.inr ⟨_,rfl⟩) O O O (by decide) O (hs) ((Blk.sl1 hv).src) O O (by simp;omega) ?_));rintro v2 w2 h2;refine za O (a6 (zrt ?_));rw[cX,sB];exact⟨h2.own,h2.inn,h2.mod⟩
 ·refine aJ O (by omega) ?_;refine zKN (aa (zSR (zmm O (a7 O (aC O O (by omega)) (zm O ?_)))));refine a7 O (ic O aZ) (a7 O (dk O O) (a6 ?_));by_cases hc:cap<l.length+1
  ·refine bI O (by omega) ?_;refine zSR (zmm O (a7 O (sG i aZ I25 O O O (by omega)) ?_));refine zmm O (a7 O (aC O O (by omega)) (zmv O (bf O O (by omega)) ?_));have hs2:Sl w (.slice p i cap) (l.take i):=(hs.front hi).sl;refine aY O (qX (l.length+1-i) ((0:UInt32)) aZ uU3 I25 O O O (by decide) htl hs2 O O (by omega) (by omega) (by omega)) ?_;rintro v3 w3 ⟨ho3,hc3,hi3⟩;refine za O (zNR (zmm O ?_));have hL:(l.take i++List.replicate (l.length+1-i) ((0:UInt32))).length=l.length+1:=by rw[aF,htl,cN];omega
   refine bD O (gW i aZ I25 O ho3 O O O (by rw[hL];omega)) ?_;rintro v4 hsub4;refine zm O (dO O (dQ aZ I25 O ho3 hsub4 (by rw[hL];omega) ((Blk.sl1 hv).mod0 hc3).src O O) ?_);rintro w5 ⟨ho5,hc5,hs5⟩;refine a6 (aa ?_);rw[hL,show min ([a]:List (UInt32)).length (l.length+1-i)=1 by simp;omega,kI (a:=l.take i) (j:=1) htl.symm rfl,jj,show([a]:List (UInt32)).take 1=[a] from rfl] at ho5;have hL5:(l.take i++[a]++List.replicate (l.length+1-i-1) ((0:UInt32))).length=l.length+1:=by rw[aF,aF,htl,cN,gB];omega
   have hc35:=hc3.t0 hc5 (λx hx=>hi3.ge x hx);have hs5:=hs.sl.mod0 hc35;refine aH bx (.pure 0 (.pure 1 (.pure 2 (.pure 3 (.pure 4 (.pure 5 (.pure 6 (.pure 7 (.eff 8 [] .nil))))))))) (by kernel_rfl) ?_;refine ym O (ym O (ym O (yp O (λ_=>(aC O O (by omega))) ?_)));refine yex O (gW (i+1) aZ I25 O ho5 O O (by omega) (by rw[hL5];omega)) ?_;rintro v6 hsub6;refine ym O (ym O (yex O (eN i aZ I25 O hs5 O O O hi) ?_));rintro _ ⟨⟨p7,c7,rfl⟩,hs7,hb7⟩;refine cj O O O (dQ aZ I25 O ho5 hsub6 (by rw[hL5];omega) ((hs7.mod0 (drw _)).src) O O) ?_;rintro w8 ⟨ho8,hc8,hs8⟩;refine⟨trivial,?_⟩;refine zPR (zma O (a6 (zrt ?_)));have hc8:Chg (ay v3) w5 w8:=hc8;rw[hL5,hdl,show min (l.length-i) (l.length+1-(i+1))=l.length-i by omega,kI (a:=l.take i++[a]) (j:=l.length-i) (by rw[aF,htl];rfl) (by rw[bz,hdl];omega),gj (l:=List.replicate (l.length+1-i-1) ((0:UInt32))) (by rw[cN];omega),cE,cd (l:=l.drop i) (by omega),bP] at ho8;exact⟨ho8,λx hx=>.inr (hi3.ge x hx),(hc35.t0 hc8 (λx hx=>hi3.ge x hx)).mono (by simp)⟩
  ·refine aJ O (by omega) ?_;refine zKR (zmm O (zmv O (aC O O (by omega)) ?_));obtain⟨b,off,rfl⟩:∃b off,p=some ⟨b,off,none⟩:=by
    obtain⟨p',c',he,_,h⟩:=hs;cases he;cases p with
    | none => have := h.2; omega
    | some ad => obtain ⟨b, off, sp⟩ := ad; obtain ⟨h1, _⟩ := h; simp only at h1; subst h1; exact ⟨b, off, rfl⟩
   have hob23:=zQ hs;obtain⟨c,hR,hsz,hcl2⟩:=hob23;have hnb:vb≠b:=λe=>hne (by rw[e];simp[ay]);have hsz':off+cap*1<=c.size:=hsz;have hroom1:off+(i+1)*Flat.sz (UInt32)+(l.drop i).length*Flat.sz (UInt32)<=c.size:=by
    rw[hdl]
    have:(i+1)*Flat.sz (UInt32)+(l.length-i)*Flat.sz (UInt32)<=cap*Flat.sz (UInt32):=by rw[<-eY];exact ew _ (by omega)
    omega
   have hroom2:off+i*Flat.sz (UInt32)+1*Flat.sz (UInt32)<=c.size:=by
    have:i*Flat.sz (UInt32)+1*Flat.sz (UInt32)<=cap*Flat.sz (UInt32):=by rw[<-eY];exact ew _ (by omega)
    omega
   refine a7 O (sG (l.length+1) aZ I25 O O (by omega) (by omega)) ?_;refine za O (a6 (aa (zSR (zmm O (zmm O (a7 O (aC O O (by omega)) ?_))))));refine a7 O (u4 (i+1) aZ I25 O O (by omega) (by omega) (by omega)) ?_;refine a7 O (DI Tryz.func240 (by kernel_rfl) O (by kernel_rfl) (e:=Extern.SlicesOverlaps.overlaps #[41,41] #[4]) (by kernel_rfl) (vJ aZ I25 hv hv.lt hnb hR (by omega))) ?_;refine a7 O (cz O) (a6 (aW (rfl) (aa ?_)));have hdc:∀q x,(bl (l.drop i))[q]?=some x->c[off+i*Flat.sz (UInt32)+q]?=some x:=λq x hq=>by
    rw[<-fg,kZ] at hq;rw[mP];exact hcl2 _ _ hq
   refine aH bx (.pure 0 (.pure 1 (.pure 2 (.pure 3 (.pure 4 (.pure 5 (.pure 6 (.pure 7 (.eff 8 [] .nil))))))))) (by kernel_rfl) ?_;refine ym O (ym O (ym O (yp O (λ_=>(aC O O (by omega))) ?_)));refine yp O (λ_=>u4 (i+1) aZ I25 O O (by omega) (by omega) (by omega)) ?_;refine ym O (ym O (yp O (λ_=>u4 i aZ I25 O O O (by omega) (by omega)) ?_));refine cj O O O (oQ (m:=l.drop i) aZ I25 O O O (by rw[hdl];omega) (hR.at hdc:At _ b (off+i*Flat.sz (UInt32)) _) hR hroom1) ?_;rintro w2 ⟨hR2,hc2,hs2⟩;refine⟨trivial,?_⟩;refine zPR (zmm O ?_);have hc2:Chg [b] w w2:=hc2;have hR2:Row w2 b (gn c (off+(i+1)*Flat.sz (UInt32)) (bl (l.drop i))):=hR2;refine a7 O (u4 i aZ I25 O O O (by omega) (by omega)) ?_;refine zm O (dO O (oQ (m:=([a]:List (UInt32))) aZ I25 O O O (by simp;omega) ((hv.nb hc2 hnb).at (off:=0) (by rw[gS];simp[bl])) hR2 (by rw[cY];exact hroom2)) ?_);rintro w3 ⟨hR3,hc3,hs3⟩;refine zNR (zma O (a6 (zrt ?_)));have hR3:Row w3 b (gn (gn c (off+(i+1)*Flat.sz (UInt32)) (bl (l.drop i))) (off+i*Flat.sz (UInt32)) (Flat.enc a)):=by
    have:bl ([a]:List (UInt32))=Flat.enc a:=by simp[bl]
    rw[<-this];exact hR3
   refine⟨hR3.own (by rw[aF,cg,htl,hdl];omega) (by rw[aF,cg,htl,hdl];omega) (by rw[cY,cY];exact hsz) (zL hi (by omega) hsz hcl2),λx hx=>.inl hx,?_⟩;exact hc2.tr hc3
theorem Dw(w:World)(p:Option Addr)(cap:Nat)(l:List (UInt32))(i:Nat)(hs:Own w (.slice p l.length cap) l)(hi:i<l.length)(hl:l.length<=100000) :
  Ret Tryz.prog 211 #[.slice p l.length cap,.int .i64 i,.int .i64 ((i:Int)+1)] w λr w'=>Own w' r (l.take i++l.drop (i+1))/\In r (ay (.slice p l.length cap)) w.heap.size/\Chg (ay (.slice p l.length cap)) w w':=by
 have hob24:=kN (mO hi);obtain⟨htl,_⟩:=hob24;have hob25:=kN (show i+1<=l.length from hi);obtain⟨_,hdl⟩:=hob25;have hcl:l.length<=cap:=by obtain⟨p',c',he,h,_⟩:=hs;cases he;exact h
 refine enter [6] Tryz.func211 O O (al O) (zSR (za O (zNR (zmm O (zmm O (a7 O (aB O aZ) (bD O (Ca aZ I25 O O O O (by omega) (by omega) (by omega)) ?_)))))));rintro _ _;refine a6 (aa (zSR (zmm O (a7 O (dy O O) (a6 (aJ O (by omega) ?_))))));refine zKR (zmv O (aB O aZ) (za O ?_));refine a6 (aa (aH bx (.pure 0 (.pure 1 (.pure 2 (.pure 3 (.pure 4 (.pure 5 (.eff 6 [] (.pure 7 .nil)))))))) (by kernel_rfl) ?_));refine ym O (ym O (yp O (λ_=>sG i aZ I25 O O O (by omega)) ?_));refine ym O (ym O (yex O (eN (i+1) aZ I25 O hs.sl O O (by omega) (by omega)) ?_));rintro _ ⟨⟨p2,c2,rfl⟩,hs2,hb2⟩;refine fj O (zo (n:=i) (q:=l.length-(i+1)) aZ aZ (.inr ⟨_,rfl⟩) I25 O htl hdl (hs.front (mO hi)) ((hs2.mod0 (drw _)).src) O O (by omega)) ?_;rintro _ w3 ⟨rfl,ho3,hc3,hs3⟩;refine⟨trivial,?_⟩;refine ya O (zPR (zmm O (a7 O (aB O aZ) (zm O ?_))));have hbe:∀n,ay (.slice p n cap)=ay (.slice p l.length cap):=λn=>qB;have hc3:Chg (ay (.slice p i cap)) w w3:=hc3;rw[hbe] at hc3;have hL:(l.take i++l.drop (i+1)).length=i+(l.length-(i+1)):=by rw[aF,htl,hdl]
 refine a7 O (BW (i+(l.length-(i+1))) 1 aZ I25 O O O O (by omega) (by omega)) ?_;refine dO O (ve ((0:UInt32)) aZ I25 O O O hL ho3 O (by omega)) ?_;rintro w4 ⟨ho4,hc4,hs4⟩;refine zNR (zma O (a6 (zrf ?_)));rw[hbe] at hc4;exact⟨ho4,λx hx=>.inl (by rw[<-hbe (i+(l.length-(i+1)))];exact hx),hc3.tr hc4⟩
theorem Iz(w:World)(n:Nat)(hn:n<=100000) :
  Ret Tryz.prog 244 #[.slice none 0 0,.int .i64 n] w λr w'=>Own w' r ([]:List (UInt32))/\In r [] w.heap.size/\Chg [] w w':=by
 refine enter [4] Tryz.func244 O O (al O) (zSR (za O (a6 (aa (zSR (zmv O (bK O O) (a6 (aJ O (by omega) ?_))))))));refine zKN (aa (zSR (zmm O (a7 O (ic O aZ) ?_))));refine zmv O (aB O aZ) (a7 O (bf O O (by omega)) (a7 O (bf O O (by omega)) (za O ?_)));refine zNR (zmv O (dk O O) (a6 ?_));by_cases h0:n=0
 ·refine aJ O (by omega) ?_;refine zKR (zma O (a6 (zrf ?_)));exact⟨Own.nil _,In.nil,Chg.refl _⟩
 ·refine bI O (by omega) ?_;refine ae (zmm O (a7 O (ic O aZ) ?_));refine a7 O (sG 0 aZ I25 O O O (by omega)) ?_;refine zm O (aY O (qX (n:=0) (l:=([]:List (UInt32))) n ((0:UInt32)) aZ uU3 I25 O O O (by decide) O (Sl.nil w 0) O O (by omega) (by omega) (by omega)) ?_);rintro v3 w3 ⟨ho3,hc3,hi3⟩;refine zmv O (aB O aZ) ?_;have hob26:=ho3.sl.form rfl;obtain⟨p3,c3,hf3⟩:=hob26;subst hf3;have hfr:=ho3.front (eh _);have hib:In (.slice p3 0 c3) [] w.heap.size:=λx hx=>hi3 x (by rw[qB (l':=0) (c':=c3)];exact hx);refine a7 O (sG 0 aZ I25 O O O (by omega)) ?_;refine za O (zNR (zma O (a6 (zrf ?_))));exact⟨hfr,hib,hc3⟩
theorem qD(w:World)(v:Value)(L:List j8)(ls:List (List (UInt32)))(hv:Sl w v L)(hlen:ls.length=L.length)(hls:∀(i:Nat) (s:j8) (l:List (UInt32)),L[i]?=some s->ls[i]?=some l->Sl w s.1 l)(hn:ls.flatten.length<=100000)(hL:L.length<=1000) :
  Ret Tryz.prog 213 #[v] w λr w'=>Own w' r ls.flatten/\In r [] w.heap.size/\Chg [] w w':=by
 have hob27:=hv.form rfl;obtain⟨p,cp,rfl⟩:=hob27;have hup:∀i l,ls[i]?=some l->(ls.take (i+1)).flatten=(ls.take i).flatten++l:=λi l h=>by
  have hob28:=List.getElem?_eq_some_iff.1 h;obtain⟨q,rfl⟩:=hob28;rw[<-fM q,lR];simp
 have hle:∀i,(ls.take i).flatten.length<=ls.flatten.length:=λi=>by
  have h:=congrArg List.length (congrArg List.flatten (eZ i ls));rw[lR,aF] at h;omega
 refine enter [2] Tryz.func213 O O (al O) (zSR (za O (zNR (za O (a6 (aa (zSR (zmv O (aB O vw) (zm O (a6 (aq (aX [0,3,9,10,11] (λm vs w'=>∃i:Nat,vs=[.slice p L.length cp,.int .i64 (ls.take i).flatten.length,.slice p L.length cp,.int .i64 L.length,.int .i64 i]/\i+m=L.length/\Chg [] w w') (L.length) ?_ ?_))))))))))))
 ·exact⟨0,rfl,by omega,Chg.refl _⟩
 ·rintro m vs J w1 ⟨i,rfl,hi,hc1⟩;refine zSR (a7 O (bK O O) ?_);refine a6 (aa (aA O (λhlt=>?_) (λhlt=>?_)))
  ·refine zKN (aa (aq (aa (ae ?_))));have hob29:∃q,m=q+1:=⟨m-1,by omega⟩
   obtain⟨m,rfl⟩:=hob29;have hob30:∃s,L[i]?=some s:=⟨_,bM (by omega)⟩
   obtain⟨s,hs⟩:=hob30;have hob31:∃l,ls[i]?=some l:=⟨_,bM (by omega)⟩
   obtain⟨l,hl⟩:=hob31;have hob32:=(hls i s l hs hl).form rfl;obtain⟨ps,cs,hsf⟩:=hob32;have hfl:=congrArg List.length (hup i l hl);rw[aF] at hfl;have hle1:=hle (i+1);have hv1:=hv.mod0 hc1;refine bD O (aS (i) vw I41 O (hv1) O O (by first|rfl|omega) (by omega)) ?_;rintro _ ⟨bi,oi,rfl,hei,hbi⟩;refine a7 O (aD aZ O O (((hv1.at hei hs).c0 (congrArg some hsf):_=some (Value.slice ps l.length cs)))) ?_;refine za O (zNR (zmm O (a7 O (aB O aZ) (a7 O (aC O O (by omega)) (za O ?_)))));refine zNR (zmv O (bK O O) (a6 (aJ O (by omega) ?_)));refine bQ (ax (aj (ae (a7 O (aC O O (by omega)) (zm O ?_)))));refine a6 (aT (m) (bq (by omega) ?_));refine⟨i+1,au rfl (au (bL ?_) (au O (au O (au O bO)))),by omega,hc1⟩;omega
  ·refine aO (an (an (aE (aj (zSR (zm O ?_))))));have hil:i=L.length:=by omega
   subst hil;rw[<-hlen,cX];refine ag O C244 (Iz _ ls.flatten.length hn) ?_;rintro v2 w2 ⟨ho2,hi2,hc2⟩;refine za O (a6 (aa (zSR (zmv O (aB O vw) (zm O (a6 (aq ?_)))))));have hc02:=hc1.tr hc2;refine aX [6,25,26,27] (λm vs w'=>∃(i:Nat) (ov:Value),vs=[ov,.slice p L.length cp,.int .i64 L.length,.int .i64 i]/\i+m=ls.length/\Chg [] w w'/\Own w' ov (ls.take i).flatten/\In ov [] w.heap.size) (ls.length) ?_ ?_
   ·exact⟨0,v2,by rw[hlen];rfl,by omega,hc02,ho2,hi2.mono (λ_ h=>.inl h) hc1.1⟩
   ·rintro m vs J w3 ⟨i,ov,rfl,hi3,hc3,ho3,hi3n⟩;refine zSR (a7 O (bK O O) ?_);refine a6 (aa (aA O (λhlt=>?_) (λhlt=>?_)))
    ·refine zKN (aa (aq (aa (ae ?_))));have hob33:∃q,m=q+1:=⟨m-1,by omega⟩
     obtain⟨m,rfl⟩:=hob33;have hob34:∃s,L[i]?=some s:=⟨_,bM (by omega)⟩
     obtain⟨s,hs⟩:=hob34;have hob35:∃l,ls[i]?=some l:=⟨_,bM (by omega)⟩
     obtain⟨l,hl⟩:=hob35;have hsl:=hls i s l hs hl;have hob36:=hsl.form rfl;obtain⟨ps,cs,hsf⟩:=hob36;rw[hsf] at hsl;have hfl:=congrArg List.length (hup i l hl);rw[aF] at hfl;have hle1:=hle (i+1);have hv3:=hv.mod0 hc3;refine bD O (aS (i) vw I41 O (hv3) O O (by first|rfl|omega) (by omega)) ?_;rintro _ ⟨bi,oi,rfl,hei,hbi⟩;refine a7 O (aD aZ O O (((hv3.at hei hs).c0 (congrArg some hsf):_=some (Value.slice ps l.length cs)))) ?_;refine za O (a6 (ae (zmm O (cJ aZ aZ I25 (.inr ⟨_,rfl⟩) O O O (by decide) O (ho3) ((hsl.mod0 hc3).src) O O (by omega) ?_))));rintro v4 w4 h4;refine za O (bA (ax (aj (ae (a7 O (aC O O (by omega)) (zm O ?_))))));refine a6 ?_;have k1:=hc1.1;have k3:=hc3.1;refine aT (m) (bq (by omega) ?_);refine⟨i+1,v4,rfl,by omega,hc3.t0 h4.mod (λx hx=>by have:=hi3n.ge x hx;omega),by rw[hup i l hl];exact h4.own,λx hx=>.inr ?_⟩;rcases h4.inn x hx with q|q
     ·exact hi3n.ge x q
     ·omega
    ·refine aO (an (an (aE (aj (zSR (zma O (a6 (zrf ?_))))))));have hil:i=ls.length:=by omega
     subst hil;rw[cX] at ho3;exact⟨ho3,hi3n,hc3⟩
theorem cNaN_ok(a:Bs)(w:World):Ret Tryz.prog 208 #[str a] w λv w'=>v=.bool false/\w=w':=by
 refine enter [2] Tryz.func208 O O (al O) (zSR (za O (zNR (zmm O (a7 O (tw O O) (za O (a6 (zrf ?_))))))));exact⟨congrArg Value.bool (decide_eq_false (λh=>h O)),rfl⟩
theorem sNaN_ok(a:Bs)(w:World):Ret Tryz.prog 166 #[str a] w λv w'=>v=.bool false/\w=w':=by
 refine enter [2] Tryz.func166 O O (al O) (zSR (za O (zNR (zmm O (a7 O (tw O O) (za O (a6 (zrf ?_))))))));exact⟨congrArg Value.bool (decide_eq_false (λh=>h O)),rfl⟩
theorem Iu(a b:Bs)(w:World):Ret Tryz.prog 165 #[str a,str b] w λv w'=>v=.bool (ltB a b)/\w=w':=by
 refine enter [4] Tryz.func165 O O (al O) (zSR (za O (zNR (zm O (ag O C208 (cNaN_ok a w) ?_)))));rintro _ _ ⟨rfl,rfl⟩;refine zm O (aw O O (aw O O (aw O O (a7 O (aK O) (zm O (ah O (zm O (ah O (zm O (ah O (a7 O (zi O O) (a7 O (aK O) (za O (a6 (zrf ?_)))))))))))))));exact⟨rfl,rfl⟩
theorem E9(i j:Nat)(h:i+j<=1000000):(pF (dm ((i:Int)+(j:Int))) 1).toNat=(i+j) / 2:=by
 have e:dm ((i:Int)+(j:Int))=UInt64.ofNat (i+j):=dR (i+j);rw[e];unfold pF;rw[ef,ef,fp (a:=i+j) (by omega),zc];omega
theorem BinS_ok(w:World)(v:Value)(ks:List Bs)(x:Bs)(hv:Sl w v ks)(hs:kE ks)(hl:ks.length<=100000) :
  Ret Tryz.prog 106 #[v,str x] w λr w'=>r=.tuple #[.int .i64 (gy ks x),.bool (decide (ks[gy ks x]?=some x))]/\w=w':=by
 have hob1:=hv.form rfl;obtain⟨p,cp,rfl⟩:=hob1;refine enter [4,5] Tryz.func106 O O (al O) (zSR (zaa O (zNR (zmv O (aB O cO) (za O (zNR (zma O (za O (a6 (aa (aq (aX [0,1,6,7,8] (λm vs w'=>∃i j:Nat,vs=[.slice p ks.length cp,str x,.int .i64 ks.length,.int .i64 i,.int .i64 j]/\i+m=j/\j<=ks.length/\w=w'/\(∀a (h:a<ks.length),a<i->ltB ks[a] x=true)/\∀a (h:a<ks.length),j<=a->ltB ks[a] x=false) (ks.length) ?_ ?_))))))))))))
 ·exact⟨0,ks.length,rfl,by omega,aM _,rfl,λa h h2=>by omega,λa h h2=>by omega⟩
 ·rintro m vs J w1 ⟨i,j,rfl,hij,hj,rfl,h1,h2⟩;refine aa (zSR (zmm O (a7 O (bK O O) ?_)));refine a6 ?_;have hh:=E9 i j (by omega);refine aA O (λhlt=>?_) (λhlt=>?_)
  ·refine zKN (aq (zSR (zmm O (a7 O (aC O O (by omega)) (a7 O (dc O uU3 pD) (a7 O (nQ O O (s:=1) O) (a7 O (gg O pD uU3 (by omega)) (za O ?_))))))));refine zNR (zmm O ?_);have hml:(i+j) / 2<ks.length:=by omega
   refine bD O (aS ((i+j) / 2) cO I9 O (hv) O O (by first|rfl|omega) (hml)) ?_;rintro _ ⟨bi,oi,rfl,hei,hbi⟩;refine a7 O (aD uU9 O O (((hv.at hei (bM hml)).c0 rfl:_=some (str (ks[(i+j) / 2]))))) ?_;refine zm O (ag O C165 (Iu (ks[(i+j) / 2]) x w) ?_);rintro _ _ ⟨rfl,rfl⟩;refine a6 (bX O (λhb=>?_) (λhb=>?_))
   ·refine ae (zmv O (aC O O (by omega)) (za O ?_));refine bA (ax (aj (aT (j-((i+j) / 2+1)) (bq (by omega) ?_))));refine⟨(i+j) / 2+1,j,au rfl (au O (au O (au (bL (by omega)) (au O bO)))),by omega,hj,rfl,λa h h3=>?_,h2⟩;by_cases ha:a=(i+j) / 2
    ·subst ha;exact hb
    ·exact ff (List.pairwise_iff_getElem.1 hs a ((i+j) / 2) h hml (by omega)) hb
   ·refine ae (zma O (bA (ax (aj (aT ((i+j) / 2-i) (bq (by omega) ?_))))));refine⟨i,(i+j) / 2,au rfl (au O (au O (au O (au (bL (by omega)) bO)))),by omega,by omega,rfl,h1,λa h h3=>?_⟩;by_cases ha:a=(i+j) / 2
    ·subst ha;exact hb
    ·have:=List.pairwise_iff_getElem.1 hs ((i+j) / 2) a hml h (by omega)
     exact jd (qq hb this)
  ·refine aO (an (an (aE (aj (zSR (zmm O (zm O ?_)))))));have hc:gy ks x=i:=Er (by omega) (λa h h3=>h1 a h h3) (λh=>h2 i h (by omega));rw[hc];by_cases hin:i<ks.length
   ·refine a7 O (bG (bK O O) (bT (by omega))) ?_;refine zm O (ah O (zm O (ah O (zm O (ah O (bD O (aS (i) cO I9 O (hv) O O (by first|rfl|omega) (hin)) ?_))))));rintro _ ⟨bi,oi,rfl,hei,hbi⟩;refine ah O (a7 O (aD uU9 O O (((hv.at hei (bM hin)).c0 rfl:_=some (str (ks[i]))))) ?_);refine ah O (zm O (ah O ?_));by_cases he:ks[i]=x
    ·refine a7 O (bG (uZ O O) (congrArg Value.bool (decide_eq_true (he)))) (ah O (zm O (aw O O (aw O O (aw O O (aw O O (aw O O (aw O O (aw O O (aw O O (aw O O (ah O (a7 O (aN O) (a7 O (aN O) (zaa O (a6 (zrf ?_)))))))))))))))));exact⟨congrArg (λb=>Value.tuple #[.int .i64 i,.bool b]) (decide_eq_true (by rw[bM hin,he])).symm,rfl⟩
    ·refine a7 O (bG (uZ O O) (congrArg Value.bool (decide_eq_false (he)))) (ah O (zm O (ah O (zm O (ah O (zm O (ah O (bD O (aS (i) cO I9 O (hv) O O (by first|rfl|omega) (hin)) ?_))))))));rintro _ ⟨bj,oj,rfl,hej,hbj⟩;refine ah O (a7 O (aD uU9 O O (((hv.at hej (bM hin)).c0 rfl:_=some (str (ks[i]))))) ?_);refine ah O (ag O C166 (sNaN_ok (ks[i]) w) ?_);rintro _ _ ⟨rfl,rfl⟩;refine ah O (zm O (aw O O (aw O O (ah O (a7 O (aK O) (ah O (a7 O (aK O) (a7 O (aN O) (zaa O (a6 (zrf ?_)))))))))));exact⟨congrArg (λb=>Value.tuple #[.int .i64 i,.bool b]) (decide_eq_false (by rw[bM hin];simpa using he)).symm,rfl⟩
   ·refine a7 O (bG (bK O O) (bF (by omega))) ?_;refine zm O (aw O O (aw O O (aw O O (aw O O (aw O O (aw O O (aw O O (aw O O (aw O O (aw O O (aw O O (aw O O (aw O O (aw O O (aw O O (aw O O (aw O O (a7 O (aK O) (zaa O (a6 (zrf ?_)))))))))))))))))))));exact⟨congrArg (λb=>Value.tuple #[.int .i64 i,.bool b]) (decide_eq_false (by rw[nN (by omega)];simp)).symm,rfl⟩
theorem CmpS_ok(a b:Bs)(w:World):Ret Tryz.prog 109 #[str a,str b] w λv w'=>v=.int .i64 (BA a b)/\w=w':=by
 have h2:Ret Tryz.prog 167 #[str a,str b] w λv w'=>v=.int .i64 (BA a b)/\w=w':=by
  refine enter [4] Tryz.func167 O O (al O) (zSR (za O (zNR (zmm O (a7 O (DI Tryz.func209 (by kernel_rfl) O (by kernel_rfl) (e:=Extern.BytealgCompare.compare) (by kernel_rfl) (Lib.run_compareString _ _ _)) ?_)))));refine za O (a6 (zrf ?_));exact⟨rfl,rfl⟩
 refine enter [4] Tryz.func109 O O (al O) (zSR (za O (zNR (zmm O (ag O C167 (h2) ?_)))));rintro _ _ ⟨rfl,rfl⟩;refine za O (a6 (zrf ?_));exact⟨rfl,rfl⟩
theorem Be(p:Pr)(k:Bs)(w:World):Ret Tryz.prog 108 #[.agg #[str p.1,str p.2],str k] w λv w'=>v=.int .i64 (BA p.1 k)/\Chg [] w w':=by
 refine enter [4] Tryz.func108 O O (al O) (zSR (aY O (cZ (l:=[str p.1,str p.2]) O O) ?_));rintro _ w1 ⟨b1,rfl,hn1,hB1,hc1,hl1⟩;refine za O (zNR (a7 O (a8 iM O I9 O O) (a7 O (aD uU9 O O (hB1.c O)) (zm O (ag O C109 (CmpS_ok p.1 k w1) ?_)))));rintro _ _ ⟨rfl,rfl⟩;refine za O (a6 (zrf ?_));exact⟨rfl,hc1⟩
theorem BinP_ok(w:World)(v:Value)(l:List Pr)(x:Bs)(hv:Sl w v l)(hs:ec l)(hl:l.length<=100000) :
  Ret Tryz.prog 107 #[v,str x,.func (.func 108) #[] #[]] w λr w'=>r=.tuple #[.int .i64 (dV l x),.bool (fA l x)]/\Chg [] w w':=by
 have hob2:=hv.form rfl;obtain⟨p,cp,rfl⟩:=hob2;refine enter [6,7] Tryz.func107 O O (al O) (zSR (zaa O (zNR (zmv O (aB O df) (za O (zNR (zma O (za O (a6 (aa (aq (aX [0,1,2,8,9,10] (λm vs w'=>∃i j:Nat,vs=[.slice p l.length cp,str x,.func (.func 108) #[] #[],.int .i64 l.length,.int .i64 i,.int .i64 j]/\i+m=j/\j<=l.length/\Chg [] w w'/\(∀a (h:a<l.length),a<i->ltB l[a].1 x=true)/\∀a (h:a<l.length),j<=a->ltB l[a].1 x=false) (l.length) ?_ ?_))))))))))))
 ·exact⟨0,l.length,rfl,by omega,aM _,Chg.refl _,λa h h2=>by omega,λa h h2=>by omega⟩
 ·rintro m vs J w1 ⟨i,j,rfl,hij,hj,hc1,h1,h2⟩;refine aa (zSR (zmm O (a7 O (bK O O) ?_)));refine a6 ?_;have hv1:=hv.mod0 hc1;have hh:=E9 i j (by omega);refine aA O (λhlt=>?_) (λhlt=>?_)
  ·refine zKN (aq (zSR (zmm O (a7 O (aC O O (by omega)) (a7 O (dc O uU3 pD) (a7 O (nQ O O (s:=1) O) (a7 O (gg O pD uU3 (by omega)) (za O ?_))))))));refine zNR (zmm O (zm O ?_));have hml:(i+j) / 2<l.length:=by omega
   have hob3:∃a,a=l[(i+j) / 2]:=⟨_,rfl⟩
   obtain⟨a,ha⟩:=hob3;have hga:l[(i+j) / 2]?=some a:=by rw[ha];exact bM hml
   refine bD O (aS ((i+j) / 2) df I49 O (hv1) O O (by first|rfl|omega) (hml)) ?_;rintro _ ⟨bi,oi,rfl,hei,hbi⟩;refine a7 O (cK iM O I49 O (hv1.at hei hga) O) (zm O (ag O (ux O Tryz.func108 O O) (Be a x w1) ?_));rintro _ w2 ⟨rfl,hc2⟩;refine a7 O (bK O O) (a6 ?_);have hc12:=hc1.tr hc2;refine aA O (λhb=>?_) (λhb=>?_)
   ·refine ae (zmv O (aC O O (by omega)) (za O ?_));refine bA (ax (aj ?_));have hb:ltB l[(i+j) / 2].1 x=true:=by rw[<-ha];exact(Es _ _).1 hb
    refine aT (j-((i+j) / 2+1)) (bq (by omega) ?_);refine⟨(i+j) / 2+1,j,au rfl (au O (au O (au O (au (bL (by omega)) (au O bO))))),by omega,hj,hc12,λa h h3=>?_,h2⟩;by_cases ha:a=(i+j) / 2
    ·subst ha;exact hb
    ·exact ff (List.pairwise_iff_getElem.1 hs a ((i+j) / 2) h hml (by omega)) hb
   ·refine ae (zma O (bA (ax (aj ?_))));have hb:ltB l[(i+j) / 2].1 x=false:=by rw[<-ha];exact Bool.eq_false_iff.2 (λh=>hb ((Es _ _).2 h))
    refine aT ((i+j) / 2-i) (bq (by omega) ?_);refine⟨i,(i+j) / 2,au rfl (au O (au O (au O (au O (au (bL (by omega)) bO))))),by omega,by omega,hc12,h1,λa h h3=>?_⟩;by_cases ha:a=(i+j) / 2
    ·subst ha;exact hb
    ·have:=List.pairwise_iff_getElem.1 hs ((i+j) / 2) a hml h (by omega)
     exact jd (qq hb this)
  ·refine aO (an (an (aE (aj (zSR (zmm O (zm O ?_)))))));have hc:dV l x=i:=Er (by rw[kU];omega) (λa h h3=>by rw[kU] at h;rw[oZ h];exact h1 a h h3) (λh=>by rw[kU] at h;rw[oZ h];exact h2 i h (by omega));have hhas:fA l x=decide (∃h:i<l.length,(l[i]'h).1=x):=by unfold fA;simp only[hc]
   rw[hc,hhas];by_cases hin:i<l.length
   ·have hob4:∃a,a=l[i]:=⟨_,rfl⟩
    obtain⟨a,ha⟩:=hob4;have hga:l[i]?=some a:=by rw[ha];exact bM hin
    refine a7 O (bG (bK O O) (bT (by omega))) ?_;refine zm O (ah O (zm O (ah O (zm O (ah O (zm O (ah O (bD O (aS (i) df I49 O (hv1) O O (by first|rfl|omega) (hin)) ?_))))))));rintro _ ⟨bi,oi,rfl,hei,hbi⟩;refine ah O (a7 O (cK iM O I49 O (hv1.at hei hga) O) (ah O (zm O (ah O (ag O (ux O Tryz.func108 O O) (Be a x w1) ?_)))));rintro _ w2 ⟨rfl,hc2⟩;refine ah O (a7 O (dy O O) (a7 O (aN O) (zaa O (a6 (zrf ?_)))));refine⟨congrArg (λb=>Value.tuple #[.int .i64 i,.bool b]) (?_:decide (BA a.1 x=0)=_),hc1.tr hc2⟩;rw[decide_eq_decide,cmpB_eq,ha];exact⟨λh=>⟨hin,h⟩,λ⟨_,h⟩=>h⟩
   ·refine a7 O (bG (bK O O) (bF (by omega))) ?_;refine zm O (aw O O (aw O O (aw O O (aw O O (aw O O (aw O O (aw O O (aw O O (a7 O (aK O) (zaa O (a6 (zrf ?_))))))))))));exact⟨congrArg (λb=>Value.tuple #[.int .i64 i,.bool b]) (decide_eq_false (λ⟨h,_⟩=>hin h)).symm,hc1⟩
structure TC where
 w0:World
 b:Nat
 kv:Value
 r:Nat
 R:PR
 n:Nat
 key:List UInt8
structure TP where
 k:Nat
 ds:DSt
 P:Pg
 V:UInt32->Bs
def TC.F(c:TC):List Nat:=PF c.R++DF c.b c.kv c.r
def TC.pg(c:TC)(w:World)(s:TP):Prop:=PS c.w0 w c.b c.kv c.r c.R c.n s.k c.key s.ds s.P s.V
abbrev TC.pv(c:TC):Value:=.pointer (some ⟨c.R.pb,0,none⟩)
section
variable {c:TC}{w w':World}{s:TP}
theorem TC.pg.lt(h:c.pg w s):∀x∈c.F,x<w.heap.size:=PS.lt h
theorem TC.pg.ge(h:c.pg w s):∀x∈c.F,c.w0.heap.size<=x:=PS.ge h
theorem TC.pg.chg{S:List Nat}(h:c.pg w s)(hm:Chg S w w')(hn:∀x∈c.F,x∉S)(hs:∀x∈S,c.w0.heap.size<=x):c.pg w' s:=PS.chg h hm hn hs
theorem TC.pg.chg0(h:c.pg w s)(hm:Chg [] w w'):c.pg w' s:=PS.chg0 h hm
theorem TC.pg.n4(h:c.pg w s):4<=c.n/\c.n<=400:=h.2.2.2.1.ok.size
theorem TC.pg.wu(h:c.pg w s){x:UInt32}(hx:s.P.now.written x=true):s.P.now.used x=true:=h.2.2.2.1.ok.written x hx
theorem TC.pg.un(h:c.pg w s){x:UInt32}(hx:s.P.now.used x=true):x.toNat<c.n:=h.2.2.2.1.ok.used x hx
end
structure TE where
 s:TP
 mv:Value
 gv:Value
 made:List UInt32
 gone:List UInt32
def EF(xb:Nat)(e:TE):List Nat:=xb::(ay e.mv++ay e.gv)
structure TC.ed(c:TC)(xb:Nat)(w:World)(e:TE):Prop where
 pg:c.pg w e.s
 blk:Blk w xb [c.pv,e.mv,e.gv]
 mo:Own w e.mv e.made
 go:Own w e.gv e.gone
 x1:xb∉ay e.mv
 x2:xb∉ay e.gv
 ap:∀x∈ay e.mv,x∉ay e.gv
 fr:∀x∈EF xb e,c.w0.heap.size<=x/\x∉c.F
structure Stp(n:Nat)(e e':TE)(new out:List UInt32):Prop where
 ext:Ext n e.s.P e'.s.P e.s.V e'.s.V new
 made:e'.made=e.made++new
 gone:e'.gone=e.gone++out
 k:e'.s.k=e.s.k+new.length
structure TC.to(c:TC)(xb:Nat)(w w':World)(e e':TE):Prop where
 at_:c.ed xb w' e'
 grow:∀x∈EF xb e',x∈EF xb e∨w.heap.size<=x
 chg:Chg (c.F++EF xb e) w w'
theorem Stp.refl(n:Nat)(e:TE):Stp n e e [] []:=⟨Ext.refl _ _ _,(cE _).symm,(cE _).symm,rfl⟩
theorem Stp.trans{n:Nat}{e e' e'':TE}{a b a' b':List UInt32}(h:Stp n e e' a b)(h':Stp n e' e'' a' b'):Stp n e e'' (a++a') (b++b') :=
 ⟨h.ext.trans h'.ext,by rw[h'.made,h.made,bP],by rw[h'.gone,h.gone,bP],by rw[h'.k,h.k,aF];omega⟩
section
variable {c:TC}{xb:Nat}{w w' w'':World}{e e' e'':TE}
theorem TC.ed.lt(h:c.ed xb w e):∀x∈c.F++EF xb e,x<w.heap.size:=by
 intro x hx;rcases List.mem_append.1 hx with hx|hx
 ·exact h.pg.lt x hx
 ·simp only[EF,bZ,fX] at hx;rcases hx with rfl|hx|hx
  ·exact h.blk.lt
  ·exact h.mo.sl.lt x hx
  ·exact h.go.sl.lt x hx
theorem TC.ed.ge(h:c.ed xb w e):∀x∈c.F++EF xb e,c.w0.heap.size<=x:=by
 intro x hx;rcases List.mem_append.1 hx with hx|hx
 ·exact h.pg.ge x hx
 ·exact(h.fr x hx).1
theorem TC.ed.chg{S:List Nat}(h:c.ed xb w e)(hm:Chg S w w')(hn:∀x∈c.F++EF xb e,x∉S)(hs:∀x∈S,c.w0.heap.size<=x):c.ed xb w' e :=
 ⟨h.pg.chg hm (λx hx=>hn x (cL _ hx)) hs,h.blk.chg hm (hn xb (by simp[EF])),h.mo.mod hm (λx hx=>hn x (by simp[EF,hx])),h.go.mod hm (λx hx=>hn x (by simp[EF,hx])),h.x1,h.x2,h.ap,h.fr⟩
theorem TC.ed.chg0(h:c.ed xb w e)(hm:Chg [] w w'):c.ed xb w' e:=h.chg hm (by simp) (by simp)
theorem TC.to.refl(h:c.ed xb w e):c.to xb w w e e:=⟨h,λ_ hx=>.inl hx,Chg.refl' _ _⟩
theorem TC.to.still(h:c.ed xb w e)(hm:Chg [] w w'):c.to xb w w' e e:=⟨h.chg0 hm,λx hx=>.inl hx,hm.mono (by simp)⟩
theorem TC.to.trans(h:c.to xb w w' e e')(h':c.to xb w' w'' e' e''):c.to xb w w'' e e'':=by
 have hk:=h.chg.1;refine⟨h'.at_,λx hx=>?_,h.chg.trans h'.chg (λ_ hx _=>hx) (λx hx hl=>?_)⟩
 ·rcases h'.grow x hx with q|q
  ·exact h.grow x q
  ·exact .inr (by omega)
 ·rcases List.mem_append.1 hx with hx|hx
  ·exact cL _ hx
  ·rcases h.grow x hx with q|q
   ·exact cf _ q
   ·omega
theorem TC.to.pre(hm:Chg [] w w')(h:c.to xb w' w'' e e'):c.to xb w w'' e e':=by
 have hk:=hm.1;exact⟨h.at_,λx hx=>(h.grow x hx).imp id (λq=>by omega),hm.tr0' h.chg⟩
end
def cnP:Cn->List Pr
 | .leaf ps => ps
 | .br _ _ => []
def cnK:Cn->List Bs
 | .leaf _ => []
 | .br ks _ => ks
def cnI:Cn->List UInt32
 | .leaf _ => []
 | .br _ ids => ids
structure NV where
 b:Nat
 p:Value
 k:Value
 i:Value
def NV.F(v:NV):List Nat:=v.b::(ay v.p++(ay v.k++ay v.i))
abbrev NV.ptr(v:NV):Value:=.pointer (some ⟨v.b,0,none⟩)
def NV.cells(v:NV)(c:Cn):List Value:=[.bool (cnL c),v.p,v.k,v.i]
structure NAt(w:World)(v:NV)(c:Cn):Prop where
 blk:Blk w v.b (v.cells c)
 p:Sl w v.p (cnP c)
 k:Sl w v.k (cnK c)
 i:Sl w v.i (cnI c)
 ap:∀x∈ay v.p++(ay v.k++ay v.i),x≠v.b
section
variable {w w':World}{v:NV}{n:Cn}{S:List Nat}
theorem NAt.chg(h:NAt w v n)(hm:Chg S w w')(hn:∀x∈v.F,x∉S):NAt w' v n :=
 ⟨h.blk.chg hm (hn _ (by simp[NV.F])),h.p.mod hm (λx hx=>hn x (by simp[NV.F,hx])),h.k.mod hm (λx hx=>hn x (by simp[NV.F,hx])),h.i.mod hm (λx hx=>hn x (by simp[NV.F,hx])),h.ap⟩
theorem NAt.chg0(h:NAt w v n)(hm:Chg [] w w'):NAt w' v n:=h.chg hm (by simp)
theorem NAt.lt(h:NAt w v n):∀x∈v.F,x<w.heap.size:=by
 intro x hx;simp only[NV.F,bZ,fX] at hx;rcases hx with rfl|hx|hx|hx
 ·exact h.blk.lt
 ·exact h.p.lt x hx
 ·exact h.k.lt x hx
 ·exact h.i.lt x hx
end
structure TC.has(c:TC)(xb:Nat)(e:TE)(lo:Nat)(w:World)(v:NV)(n:Cn):Prop where
 at_:NAt w v n
 new:∀x∈v.F,lo<=x/\x∉EF xb e
theorem TC.has.far{c:TC}{xb:Nat}{e:TE}{lo:Nat}{w:World}{v:NV}{n:Cn}(h:c.has xb e lo w v n)(hf:∀x∈c.F,x<lo):∀x∈v.F,x∉c.F++EF xb e:=λx hx hh=>by
 rcases List.mem_append.1 hh with hh|hh
 ·have:=hf x hh;have:=(h.new x hx).1;omega
 ·exact(h.new x hx).2 hh
theorem TC.has.step{c:TC}{xb:Nat}{e e':TE}{lo:Nat}{w w':World}{v:NV}{n:Cn}(h:c.has xb e lo w v n)(ht:c.to xb w w' e e')(hf:∀x∈c.F,x<lo):c.has xb e' lo w' v n:=by
 have hl:=h.at_.lt;refine⟨h.at_.chg ht.chg (h.far hf),λx hx=>⟨(h.new x hx).1,λhh=>?_⟩⟩;rcases ht.grow x hh with q|q
 ·exact(h.new x hx).2 q
 ·have:=hl x hx;omega
theorem TC.has.still{c:TC}{xb:Nat}{e:TE}{lo:Nat}{w w':World}{v:NV}{n:Cn}(h:c.has xb e lo w v n)(hm:Chg [] w w'):c.has xb e lo w' v n:=⟨h.at_.chg0 hm,h.new⟩
theorem TC.has.lo{c:TC}{xb:Nat}{e:TE}{lo lo':Nat}{w:World}{v:NV}{n:Cn}(h:c.has xb e lo w v n)(hl:lo'<=lo):c.has xb e lo' w v n:=⟨h.at_,λx hx=>⟨bw hl (h.new x hx).1,(h.new x hx).2⟩⟩
theorem uz(w:World)(v:NV)(c:Cn)(h:NAt w v c)(hz:cnZ c<=1000) :
  Ret Tryz.prog 199 #[v.ptr] w λr w'=>r=.int .i64 (cnZ c)/\Chg [] w w':=by
 obtain⟨b,vp,vk,vi⟩:=v;obtain⟨hB,hp,hk,hi,hap⟩:=h;refine enter [2] Tryz.func199 O O (al O) (zSR (za O (a6 (aa (zSR (zm O (zn O O (a7 O (a8 bS O I4 O O) ?_))))))));cases c with
 | leaf ps =>
  replace hp:Sl w vp ps:=hp;replace hz:cT ps<=1000:=hz;replace hB:Blk w b [.bool true,vp,vk,vi]:=hB
  skip
  refine a7 O (aD uU4 O O (hB.c O)) (a6 (aW (rfl) (zSR (zm O (zn O O (a7 O (a8 bS O I33 O O) (a7 O (aD df O O (hB.c O)) (ag O C152 (Ey w vp ps hp (by omega)) ?_))))))));rintro _ w1 ⟨rfl,hc1⟩;refine za O (a6 (zrt ?_));exact⟨rfl,hc1⟩
 | br ks ids =>
  replace hk:Sl w vk ks:=hk;replace hi:Sl w vi ids:=hi;replace hz:3+4*ids.length+dj ks<=1000:=hz;have hkl:=sX ks;have hob1:∃p c,vk=.slice p ks.length c:=hk.form rfl;obtain⟨pk,ck,rfl⟩:=hob1;have hob2:∃p c,vi=.slice p ids.length c:=hi.form rfl;obtain⟨pi,ci,rfl⟩:=hob2;replace hB:Blk w b [.bool false,vp,.slice pk ks.length ck,.slice pi ids.length ci]:=hB
  skip
  refine a7 O (aD uU4 O O (hB.c O)) (a6 (aI (rfl) (zKR (zm O (zn O O (a7 O (a8 bS O I41 O O) (a7 O (aD aZ O O (hB.c O)) (a7 O (aB O aZ) (a7 O (fq O O (by omega)) (a7 O (aC O O (by omega)) (za O ?_)))))))))));refine a6 (aa (zSR (zm O (zn O O (a7 O (a8 bS O I70 O O) (a7 O (aD cO O O (hB.c O)) (a7 O (aB O cO) (zm O (a6 (aq (aX [3,25,26,27] (λm vs w'=>∃i:Nat,vs=[.int .i64 (3+4*ids.length+dj (ks.take i):Nat),.slice pk ks.length ck,.int .i64 ks.length,.int .i64 i]/\i+m=ks.length/\Chg [] w w') (ks.length) ?_ ?_)))))))))))
  ·exact⟨0,au (bL (by simp[dj])) (au O (au O (au O bO))),by omega,Chg.refl _⟩
  ·rintro m vs J w1 ⟨i,rfl,hi2,hc1⟩;refine zSR (a7 O (bK O O) ?_);refine a6 (aa (aA O (λhlt=>?_) (λhlt=>?_)))
   ·refine zKN (aa (aq (aa (ae ?_))));have hob3:∃q,m=q+1:=⟨m-1,by omega⟩
    obtain⟨m,rfl⟩:=hob3;have hob4:∃a,ks[i]?=some a:=⟨_,bM (by omega)⟩
    obtain⟨a,ha⟩:=hob4;have hup:dj (ks.take (i+1))=dj (ks.take i)+(a.length+2):=by
     have hob5:=List.getElem?_eq_some_iff.1 ha;obtain⟨q,rfl⟩:=hob5;exact lr q
    have hpt:=qt ks (i+1);have hk1:=hk.mod0 hc1;refine bD O (aS (i) cO I9 O (hk1) O O (by first|rfl|omega) (by omega)) ?_;rintro _ ⟨bi,oi,rfl,hei,hbi⟩;refine a7 O (aD uU9 O O (((hk1.at hei ha).c0 rfl:_=some (str a)))) ?_;refine za O (a6 (ae (zmm O (a7 O (hU O uU9) (a7 O (aC O O (by omega)) (a7 O (aC O O (by omega)) (za O ?_)))))));refine bA (ax (aj (ae (a7 O (aC O O (by omega)) (zm O ?_)))));refine a6 (aT (m) (bq (by omega) ?_));refine⟨i+1,au (bL ?_) (au O (au O (au O bO))),by omega,hc1⟩;omega
   ·refine aO (an (an (aE (aj (zSR (zma O (a6 (zrf ?_))))))));have hil:i=ks.length:=by omega
    subst hil;rw[cX];exact⟨rfl,hc1⟩
def pG:Cn->Bool
 | .leaf ps => decide (ps.length = 0)
 | .br _ ids => decide (ids.length < 2)
theorem poor_ok(w:World)(v:NV)(c:Cn)(h:NAt w v c) :
  Ret Tryz.prog 112 #[v.ptr] w λr w'=>r=.bool (pG c)/\w=w':=by
 obtain⟨b,vp,vk,vi⟩:=v;obtain⟨hB,hp,hk,hi,hap⟩:=h;refine enter [2] Tryz.func112 O O (al O) (zSR (za O (zNR (zm O (zn O O (a7 O (a8 bS O I4 O O) ?_))))));cases c with
 | leaf ps =>
  replace hp:Sl w vp ps:=hp;have hob6:=hp.form rfl;obtain⟨pp,cp,rfl⟩:=hob6;replace hB:Blk w b [.bool true,.slice pp ps.length cp,vk,vi]:=hB
  skip
  refine a7 O (aD uU4 O O (hB.c O)) (zm O (ah O (zm O (ah O (zn O O (ah O (a7 O (a8 bS O I33 O O) (ah O (a7 O (aD df O O (hB.c O)) (ah O (a7 O (aB O df) (ah O ?_))))))))))));by_cases h0:ps.length=0
  ·refine a7 O (bG (dy O O) (bT (by omega))) ?_;refine a7 O (aN O) (zm O (aw O O (aw O O (aw O O (aw O O (aw O O (aw O O (aw O O (aw O O (aw O O (aw O O (aw O O (aw O O (aw O O (a7 O (aN O) (za O (a6 (zrf ?_))))))))))))))))));exact⟨congrArg Value.bool (decide_eq_true h0).symm,rfl⟩
  ·refine a7 O (bG (dy O O) (bF (by omega))) ?_;refine a7 O (aN O) (zm O (ah O (zm O (ah O (zn O O (ah O (a7 O (a8 bS O I4 O O) (ah O (a7 O (aD uU4 O O (hB.c O)) (ah O (a7 O (cz O) (ah O (zm O (aw O O (aw O O (aw O O (aw O O (aw O O (aw O O (ah O (a7 O (aK O) (a7 O (aK O) (za O (a6 (zrf ?_)))))))))))))))))))))))));exact⟨congrArg Value.bool (decide_eq_false h0).symm,rfl⟩
 | br ks ids =>
  replace hi:Sl w vi ids:=hi;have hob7:=hi.form rfl;obtain⟨pi,ci,rfl⟩:=hob7;replace hB:Blk w b [.bool false,vp,vk,.slice pi ids.length ci]:=hB
  skip
  refine a7 O (aD uU4 O O (hB.c O)) (zm O (aw O O (aw O O (aw O O (aw O O (aw O O (aw O O (a7 O (aK O) (zm O (ah O (zm O (ah O (zn O O (ah O (a7 O (a8 bS O I4 O O) (ah O (a7 O (aD uU4 O O (hB.c O)) (ah O (a7 O (cz O) (ah O (zm O (ah O (zm O (ah O (zn O O (ah O (a7 O (a8 bS O I41 O O) (ah O (a7 O (aD aZ O O (hB.c O)) (ah O (a7 O (aB O aZ) (ah O (a7 O (bK O O) (ah O (a7 O (aN O) (a7 O (aK O) (za O (a6 (zrf ?_)))))))))))))))))))))))))))))))))))))));refine⟨congrArg Value.bool ?_,rfl⟩;show decide ((ids.length:Int)<2)=decide (ids.length<2);rw[decide_eq_decide];omega
theorem HC(w:World)(v:NV)(c:Cn)(h:NAt w v c) :
  Ret Tryz.prog 237 #[v.ptr] w λr w'=>r=.int .i64 (mA c)/\w=w':=by
 obtain⟨b,vp,vk,vi⟩:=v;obtain⟨hB,hp,hk,hi,hap⟩:=h;refine enter [2] Tryz.func237 O O (al O) (zSR (za O (a6 (aa (zSR (zm O (zn O O (a7 O (a8 bS O I4 O O) ?_))))))));cases c with
 | leaf ps =>
  replace hp:Sl w vp ps:=hp;have hob8:=hp.form rfl;obtain⟨pp,cp,rfl⟩:=hob8;replace hB:Blk w b [.bool true,.slice pp ps.length cp,vk,vi]:=hB
  skip
  refine a7 O (aD uU4 O O (hB.c O)) (a6 (aW (rfl) (zSR (zm O (zn O O (a7 O (a8 bS O I33 O O) (a7 O (aD df O O (hB.c O)) (a7 O (aB O df) (za O (a6 (zrt ?_)))))))))));exact⟨rfl,rfl⟩
 | br ks ids =>
  replace hi:Sl w vi ids:=hi;have hob9:=hi.form rfl;obtain⟨pi,ci,rfl⟩:=hob9;replace hB:Blk w b [.bool false,vp,vk,.slice pi ids.length ci]:=hB
  skip
  refine a7 O (aD uU4 O O (hB.c O)) (a6 (aI (rfl) (zKR (zm O (zn O O (a7 O (a8 bS O I41 O O) (a7 O (aD aZ O O (hB.c O)) (a7 O (aB O aZ) (za O (a6 (zrf ?_)))))))))));exact⟨rfl,rfl⟩
theorem vX(w:World)(v:NV)(ks:List Bs)(ids:List UInt32)(x:Bs)(h:NAt w v (.br ks ids))(hs:kE ks)(hl:ks.length<=100000) :
  Ret Tryz.prog 60 #[v.ptr,str x] w λr w'=>r=.int .i64 (plc ks x)/\w=w':=by
 obtain⟨b,vp,vk,vi⟩:=v;obtain⟨hB,hp,hk,hi,hap⟩:=h;replace hB:Blk w b [.bool false,vp,vk,vi]:=hB;have hcl:=sk ks x;refine enter [4] Tryz.func60 O O (al O) (zSR (za O (zNR (zm O (zn O O (a7 O (a8 bS O I70 O O) (a7 O (aD cO O O (hB.c O)) (zm O (ag O C106 (BinS_ok w vk ks x hk hs hl) ?_)))))))));rintro _ _ ⟨rfl,rfl⟩;refine zm O (zx O (zx O (zaa O (a6 (aa (zSR (zm O (a6 (aA O (λhb=>?_) (λhb=>?_))))))))))
 ·refine zSR (zmv O (aC O O (by omega)) (za O ?_));refine a6 (zrt ?_);refine⟨bL ?_,rfl⟩;unfold plc;rw[if_pos hb];rfl
 ·refine zKR (zma O (a6 (zrf ?_)));refine⟨bL ?_,rfl⟩;unfold plc;rw[if_neg hb]
theorem A2(w:World)(v:NV)(ps:List Pr)(x:Bs)(h:NAt w v (.leaf ps))(hs:ec ps)(hl:ps.length<=100000) :
  Ret Tryz.prog 61 #[v.ptr,str x] w λr w'=>r=.tuple #[.int .i64 (dV ps x),.bool (fA ps x)]/\Chg [] w w':=by
 obtain⟨b,vp,vk,vi⟩:=v;obtain⟨hB,hp,hk,hi,hap⟩:=h;replace hB:Blk w b [.bool true,vp,vk,vi]:=hB;refine enter [4,5] Tryz.func61 O O (al O) (zSR (zaa O (zNR (zm O (zn O O (a7 O (a8 bS O I33 O O) (a7 O (aD df O O (hB.c O)) (zm O (ag O C107 (BinP_ok w vp ps x hp hs hl) ?_)))))))));rintro _ w1 ⟨rfl,hc1⟩;refine zx O (zx O (zaa O (a6 (zrf ?_))));exact⟨rfl,hc1⟩
def wO:Cn->Prop
 | .leaf ps => leafOk ps
 | .br ks ids => brOk ks ids
theorem FJ(w:World)(v:NV)(c:Cn)(h:NAt w v c)(hg:wO c) :
  Ret Tryz.prog 148 #[v.ptr] w λr w'=>∃bv,r=.tuple #[bv,.int .i64 0]/\Own w' bv (cnB c)/\In bv [] w.heap.size/\Chg [] w w':=by
 obtain⟨b,vp,vk,vi⟩:=v;obtain⟨hB,hp,hk,hi,hap⟩:=h;refine enter [2,3] Tryz.func148 O O (al O) (zSR (zaa O (a6 (aa (zSR (zm O (zn O O (a7 O (a8 bS O I4 O O) ?_))))))));cases c with
 | leaf ps =>
  replace hB:Blk w b [.bool true,vp,vk,vi]:=hB;replace hg:leafOk ps:=hg
  skip
  refine a7 O (aD uU4 O O (hB.c O)) (a6 (aW (rfl) (zSR (zm O (zn O O (a7 O (a8 bS O I33 O O) (a7 O (aD df O O (hB.c O)) (ag O C96 (uG w vp ps hp (by have:=hg.few;omega)) ?_))))))));rintro v1 w1 ⟨hc1,hv1⟩;rcases hv1 with⟨q,_⟩|⟨_,q,_⟩|⟨_,bv,rfl,ho1,hi1⟩
  ·exact absurd hg.1 q
  ·exact absurd hg.2 (by omega)
  ·refine zx O (zx O (zaa O (a6 (zrt ?_))));exact⟨bv,rfl,ho1,hi1,hc1⟩
 | br ks ids =>
  replace hB:Blk w b [.bool false,vp,vk,vi]:=hB;replace hg:brOk ks ids:=hg;replace hk:Sl w vk ks:=hk;replace hi:Sl w vi ids:=hi
  skip
  refine a7 O (aD uU4 O O (hB.c O)) (a6 (aI (rfl) (zKN (aa (aH bx (.pure 0 (.pure 1 (.pure 2 (.read 3 (.pure 4 (.pure 5 (.pure 6 (.read 7 (.eff 8 [] (.pure 9 (.pure 10 (.pure 11 (.pure 12 .nil))))))))))))) (by kernel_rfl) ?_)))));refine ym O (yn O (yp O (λ_=>(a8 bS O I70 O O)) ?_));refine aG O O O cO O O (hB.c O) (ym O (yn O (yp O (λ_=>(a8 bS O I41 O O)) ?_)));refine aG O O O aZ O O (hB.c O) (ycl O C164 (yQ _ vk vi ks ids (hk.mod0 (drw _)) (hi.mod0 (drw _)) hg) ?_);rintro _ w1 ⟨bv,rfl,ho1,hi1,hc1⟩;refine⟨trivial,?_⟩;refine yx O (yx O (ya O (ya O (az (zrf ?_)))));exact⟨bv,rfl,ho1,hi1,(drw w).tr hc1⟩
structure Part(w w':World)(v u:NV)(c:Cn):Prop where
 at_:NAt w' u c
 sub:∀x∈u.F,x∈v.F∨w.heap.size<=x
theorem HU(w:World)(v:NV)(c:Cn)(n:Nat)(h:NAt w v c)(h1:ga c<=n)(h2:n+ga c<=mA c)(h3:∀ks ids,c=.br ks ids->ids.length=ks.length+1)(h4:mA c<=100000) :
  Ret Tryz.prog 236 #[v.ptr,.int .i64 n] w λr w'=>∃u u':NV,r=.tuple #[u.ptr,str (xx c n),u'.ptr]/\Part w w' v u (wK c n)/\Part w w' v u' (uf c n)/\Chg [] w w':=by
 have hlt:=h.lt;obtain⟨b,vp,vk,vi⟩:=v;obtain⟨hB,hp,hk,hi,hap⟩:=h;refine enter [4,5,6] Tryz.func236 O O (al O) (zSR (zaa O (za O (a6 (aa (zSR (zm O (zn O O (a7 O (a8 bS O I4 O O) ?_)))))))));cases c with
 | leaf ps =>
  replace hB:Blk w b [.bool true,vp,vk,vi]:=hB;replace hp:Sl w vp ps:=hp;replace h1:1<=n:=h1;replace h4:ps.length<=100000:=h4;replace h2:n+1<=ps.length:=h2;have hbp:∀x∈ay vp,x<w.heap.size:=hp.lt;have hob1:∃p c,vp=.slice p ps.length c:=hp.form rfl;obtain⟨pp,cp,rfl⟩:=hob1;have hob2:∃a,ps[n]?=some a:=⟨_,bM (by omega)⟩
  obtain⟨a,ha⟩:=hob2;have hck:xx (.leaf ps) n=a.1:=by
   show(ps.getD n ([],[])).1=_;rw[eI,ha];rfl
  rw[hck];have hfin:∀{w':World} {b1 b2 c1 c2:Nat} {p1 p2:Option Addr},w.heap.size<=b1->w.heap.size<=b2->Blk w' b1 [.bool true,.slice p1 n c1,.slice none 0 0,.slice none 0 0]->Blk w' b2 [.bool true,.slice p2 (ps.length-n) c2,.slice none 0 0,.slice none 0 0]->Sl w (.slice p1 n c1) (ps.take n)->Sl w (.slice p2 (ps.length-n) c2) (ps.drop n)->ay (.slice p1 n c1)=ay (.slice pp ps.length cp)->ay (.slice p2 (ps.length-n) c2)=ay (.slice pp ps.length cp)->Chg [] w w' ->
    ∃u u':NV,Value.tuple #[.pointer (some ⟨b1,0,none⟩),str a.1,.pointer (some ⟨b2,0,none⟩)]=.tuple #[u.ptr,str a.1,u'.ptr]/\Part w w' ⟨b,.slice pp ps.length cp,vk,vi⟩ u (wK (.leaf ps) n)/\Part w w' ⟨b,.slice pp ps.length cp,vk,vi⟩ u' (uf (.leaf ps) n)/\Chg [] w w':=λ{w' b1 b2 c1 c2 p1 p2} hn1 hn2 hB1 hB2 hs1 hs2 hb1 hb2 hc=>by
   refine⟨⟨b1,.slice p1 n c1,.slice none 0 0,.slice none 0 0⟩,⟨b2,.slice p2 (ps.length-n) c2,.slice none 0 0,.slice none 0 0⟩,rfl,⟨⟨hB1,hs1.mod0 hc,Sl.nil _ _,Sl.nil _ _,λx hx=>?_⟩,λx hx=>?_⟩,⟨⟨hB2,hs2.mod0 hc,Sl.nil _ _,Sl.nil _ _,λx hx=>?_⟩,λx hx=>?_⟩,hc⟩
   ·simp only[ay,cE] at hx hb1;rw[hb1] at hx
    have:=hbp x hx;show x≠b1;omega
   ·simp only[NV.F,ay,cE,bZ] at hx hb1 ⊢;rcases hx with rfl|hx
    ·exact .inr hn1
    ·rw[hb1] at hx;exact .inl (.inr (cL _ hx))
   ·simp only[ay,cE] at hx hb2;rw[hb2] at hx
    have:=hbp x hx;show x≠b2;omega
   ·simp only[NV.F,ay,cE,bZ] at hx hb2 ⊢;rcases hx with rfl|hx
    ·exact .inr hn2
    ·rw[hb2] at hx;exact .inl (.inr (cL _ hx))
  skip
  refine a7 O (aD uU4 O O (hB.c O)) (a6 (aW (rfl) (aa (aH bx (.pure 0 (.pure 1 (.pure 2 (.read 3 (.pure 4 (.pure 5 (.pure 6 (.pure 7 (.pure 9 (.pure 10 (.pure 11 (.read 12 (.pure 13 (.pure 14 (.pure 15 (.read 16 (.pure 17 (.pure 18 (.pure 19 (.read 20 (.pure 21 (.pure 22 (.pure 23 (.alt (.eff 8 [12,16,20] (.pure 25 (.pure 26 (.eff 24 [3,12,16] (.pure 27 .nil))))) (.eff 24 [3,12,16] (.eff 8 [12,16,20] (.pure 25 (.pure 26 (.pure 27 .nil))))))))))))))))))))))))))))) (by kernel_rfl) ?_))));refine ym O (yn O (yp O (λ_=>(a8 bS O I33 O O)) ?_));refine aG O O O df O O (hB.c O) (ym O (ym O (yex O (oM n n df I49 hp O O O O O ⟨aM _,by omega⟩) ?_)));rintro _ ⟨⟨p1,rfl⟩,hs1,hb1⟩;refine yp O (λ_=>bW bS x7 O (zs:=[.bool false,.slice none 0 0,.slice none 0 0,.slice none 0 0]) O O (bR O O O (al O) (bR O O O (al O) (eb (cs':=[.bool true,.slice p1 n n,.slice none 0 0,.slice none 0 0]) O)))) ?_;refine ym O (yn O (yp O (λ_=>(a8 bS O I33 O O)) ?_));refine aG O O O df O O (hB.c O) (ym O (yex O (aS (n) df I49 O (hp) O O (by first|rfl|omega) (by omega)) ?_));rintro _ ⟨bi,oi,rfl,hei,hbi⟩;refine yp O (λ_=>(a8 iM O I9 O O)) ?_;refine aG O O O uU9 O O (((hp.at hei ha).c0 rfl:_=some (str a.1))) ?_;refine ym O (yn O (yp O (λ_=>(a8 bS O I33 O O)) ?_));refine aG O O O df O O (hB.c O) (ym O (yex O (eN n df I49 O hp O O O (by omega)) ?_));rintro _ ⟨⟨p2,c2,rfl⟩,hs2,hb2⟩;refine yp O (λ_=>bW bS x7 O (zs:=[.bool false,.slice none 0 0,.slice none 0 0,.slice none 0 0]) O O (bR O O O (al O) (bR O O O (al O) (eb (cs':=[.bool true,.slice p2 (ps.length-n) c2,.slice none 0 0,.slice none 0 0]) O)))) ?_;refine eK ?_ ?_
  ·refine fj O (cZ (l:=[.bool true,.slice p1 n n,.slice none 0 0,.slice none 0 0]) O O) ?_;rintro _ w1 ⟨b1,rfl,hn1,hB1,hc1,hl1⟩;have hc1:Chg [] w w1:=(drw w).tr hc1;have hn1:w.heap.size<=b1:=hn1;refine⟨⟨(hB.chg0 hc1).c rfl,((hp.mod0 hc1).at hei ha).c0 rfl,(hB.chg0 hc1).c rfl,trivial⟩,?_⟩;refine ya O (ya O (fj O (cZ (l:=[.bool true,.slice p2 (ps.length-n) c2,.slice none 0 0,.slice none 0 0]) O O) ?_));rintro _ w2 ⟨b2,rfl,hn2,hB2,hc2,hl2⟩;have hc02:=hc1.tr hc2;refine⟨⟨(hB.chg0 hc02).c rfl,(hB.chg0 hc02).c rfl,((hp.mod0 hc02).at hei ha).c0 rfl,trivial⟩,?_⟩;refine ya O (az (zrt ?_));exact hfin hn1 (by have:=hc1.1;omega) (hB1.chg0 hc2) hB2 hs1 hs2 hb1 hb2 hc02
  ·refine fj O (cZ (l:=[.bool true,.slice p2 (ps.length-n) c2,.slice none 0 0,.slice none 0 0]) O O) ?_;rintro _ w2 ⟨b2,rfl,hn2,hB2,hc2,hl2⟩;have hc2:Chg [] w w2:=(drw w).tr hc2;have hn2:w.heap.size<=b2:=hn2;refine⟨⟨(hB.chg0 hc2).c rfl,(hB.chg0 hc2).c rfl,((hp.mod0 hc2).at hei ha).c0 rfl,trivial⟩,?_⟩;refine fj O (cZ (l:=[.bool true,.slice p1 n n,.slice none 0 0,.slice none 0 0]) O O) ?_;rintro _ w1 ⟨b1,rfl,hn1,hB1,hc1,hl1⟩;have hc02:=hc2.tr hc1;refine⟨⟨(hB.chg0 hc02).c rfl,((hp.mod0 hc02).at hei ha).c0 rfl,(hB.chg0 hc02).c rfl,trivial⟩,?_⟩;refine ya O (ya O (ya O (az (zrt ?_))));exact hfin (by have:=hc2.1;omega) hn2 hB1 (hB2.chg0 hc1) hs1 hs2 hb1 hb2 hc02
 | br ks ids =>
  have h3:=h3 ks ids rfl;replace hB:Blk w b [.bool false,vp,vk,vi]:=hB;replace hk:Sl w vk ks:=hk;replace hi:Sl w vi ids:=hi;replace h1:2<=n:=h1;replace h4:ids.length<=100000:=h4;replace h2:n+2<=ids.length:=h2;have hbk:∀x∈ay vk,x<w.heap.size:=hk.lt;have hbi:∀x∈ay vi,x<w.heap.size:=hi.lt;have hob3:∃p c,vk=.slice p ks.length c:=hk.form rfl;obtain⟨pk,ck,rfl⟩:=hob3;have hob4:∃p c,vi=.slice p ids.length c:=hi.form rfl;obtain⟨pi,ci,rfl⟩:=hob4;have hob5:∃a,ks[n-1]?=some a:=⟨_,bM (by omega)⟩
  obtain⟨a,ha⟩:=hob5;have hck:xx (.br ks ids) n=a:=by
   show ks.getD (n-1) []=_;rw[eI,ha];rfl
  rw[hck];have hfin:∀{w':World} {b1 b2 c2 c4:Nat} {p1 p2 p3 p4:Option Addr},w.heap.size<=b1->w.heap.size<=b2->Blk w' b1 [.bool false,.slice none 0 0,.slice p1 (n-1) (n-1),.slice p3 n n]->Blk w' b2 [.bool false,.slice none 0 0,.slice p2 (ks.length-n) c2,.slice p4 (ids.length-n) c4] ->
    Sl w (.slice p1 (n-1) (n-1)) (ks.take (n-1))->Sl w (.slice p2 (ks.length-n) c2) (ks.drop n)->Sl w (.slice p3 n n) (ids.take n)->Sl w (.slice p4 (ids.length-n) c4) (ids.drop n) ->
    ay (.slice p1 (n-1) (n-1))=ay (.slice pk ks.length ck)->ay (.slice p2 (ks.length-n) c2)=ay (.slice pk ks.length ck)->ay (.slice p3 n n)=ay (.slice pi ids.length ci)->ay (.slice p4 (ids.length-n) c4)=ay (.slice pi ids.length ci)->Chg [] w w' ->
    ∃u u':NV,Value.tuple #[.pointer (some ⟨b1,0,none⟩),str a,.pointer (some ⟨b2,0,none⟩)]=.tuple #[u.ptr,str a,u'.ptr]/\Part w w' ⟨b,vp,.slice pk ks.length ck,.slice pi ids.length ci⟩ u (wK (.br ks ids) n)/\Part w w' ⟨b,vp,.slice pk ks.length ck,.slice pi ids.length ci⟩ u' (uf (.br ks ids) n)/\Chg [] w w':=λ{w' b1 b2 c2 c4 p1 p2 p3 p4} hn1 hn2 hB1 hB2 hs1 hs2 hs3 hs4 hb1 hb2 hb3 hb4 hc=>by
   have hold:∀x∈ay (.slice pk ks.length ck)++ay (.slice pi ids.length ci),x<w.heap.size:=λx hx=>(List.mem_append.1 hx).elim (hbk x) (hbi x);refine⟨⟨b1,.slice none 0 0,.slice p1 (n-1) (n-1),.slice p3 n n⟩,⟨b2,.slice none 0 0,.slice p2 (ks.length-n) c2,.slice p4 (ids.length-n) c4⟩,rfl,⟨⟨hB1,Sl.nil _ _,hs1.mod0 hc,hs3.mod0 hc,λx hx=>?_⟩,λx hx=>?_⟩,⟨⟨hB2,Sl.nil _ _,hs2.mod0 hc,hs4.mod0 hc,λx hx=>?_⟩,λx hx=>?_⟩,hc⟩
   ·have hx:x∈ay (.slice p1 (n-1) (n-1))++ay (.slice p3 n n):=hx;rw[hb1,hb3] at hx
    have:=hold x hx;show x≠b1;omega
   ·have hx:x∈b1::(ay (.slice p1 (n-1) (n-1))++ay (.slice p3 n n)):=hx;rw[hb1,hb3] at hx;rcases List.mem_cons.1 hx with rfl|hx
    ·exact .inr hn1
    ·exact .inl (bN _ (cf _ hx))
   ·have hx:x∈ay (.slice p2 (ks.length-n) c2)++ay (.slice p4 (ids.length-n) c4):=hx;rw[hb2,hb4] at hx
    have:=hold x hx;show x≠b2;omega
   ·have hx:x∈b2::(ay (.slice p2 (ks.length-n) c2)++ay (.slice p4 (ids.length-n) c4)):=hx;rw[hb2,hb4] at hx;rcases List.mem_cons.1 hx with rfl|hx
    ·exact .inr hn2
    ·exact .inl (bN _ (cf _ hx))
  skip
  refine a7 O (aD uU4 O O (hB.c O)) (a6 (aI (rfl) (zKN (aa (aH bx (.pure 0 (.pure 1 (.pure 2 (.read 3 (.pure 4 (.pure 5 (.pure 6 (.pure 7 (.pure 8 (.pure 9 (.pure 10 (.pure 11 (.read 12 (.pure 13 (.pure 14 (.pure 15 (.pure 16 (.pure 18 (.pure 19 (.pure 20 (.read 21 (.pure 22 (.pure 23 (.pure 24 (.read 25 (.pure 26 (.pure 27 (.pure 28 (.read 29 (.pure 30 (.pure 31 (.pure 32 (.pure 33 (.pure 34 (.read 35 (.pure 36 (.pure 37 (.pure 38 (.alt (.eff 17 [21,25,29,35] (.pure 40 (.pure 41 (.eff 39 [3,12,21,25] (.pure 42 .nil))))) (.eff 39 [3,12,21,25] (.eff 17 [21,25,29,35] (.pure 40 (.pure 41 (.pure 42 .nil)))))))))))))))))))))))))))))))))))))))))))) (by kernel_rfl) ?_)))));refine ym O (yn O (yp O (λ_=>(a8 bS O I70 O O)) ?_));refine aG O O O cO O O (hB.c O) (ym O (yp O (λ_=>(bf O O (by omega))) ?_));refine ym O (yp O (λ_=>(bf O O (by omega))) ?_);refine yex O (oM (n-1) (n-1) cO I9 hk O O O (by omega) (by omega) ⟨aM _,by omega⟩) ?_;rintro _ ⟨⟨p1,rfl⟩,hs1,hb1⟩;refine ym O (yn O (yp O (λ_=>(a8 bS O I41 O O)) ?_));refine aG O O O aZ O O (hB.c O) (ym O (ym O (yex O (oM n n aZ I25 hi O O O O O ⟨aM _,by omega⟩) ?_)));rintro _ ⟨⟨p3,rfl⟩,hs3,hb3⟩;refine yp O (λ_=>bW bS x7 O (zs:=[.bool false,.slice none 0 0,.slice none 0 0,.slice none 0 0]) O O (bR O O O (al O) (bR O O O (al O) (eb (cs':=[.bool false,.slice none 0 0,.slice p1 (n-1) (n-1),.slice p3 n n]) O)))) ?_;refine ym O (yn O (yp O (λ_=>(a8 bS O I70 O O)) ?_));refine aG O O O cO O O (hB.c O) (ym O (yp O (λ_=>(bf O O (by omega))) ?_));refine yex O (aS (n-1) cO I9 O (hk) O O (by first|rfl|omega) (by omega)) ?_;rintro _ ⟨bi,oi,rfl,hei,hbi⟩;refine aG O O O uU9 O O (((hk.at hei ha).c0 rfl:_=some (str a))) ?_;refine ym O (yn O (yp O (λ_=>(a8 bS O I70 O O)) ?_));refine aG O O O cO O O (hB.c O) (ym O (yex O (eN n cO I9 O hk O O O (by omega)) ?_));rintro _ ⟨⟨p2,c2,rfl⟩,hs2,hb2⟩;refine ym O (yn O (yp O (λ_=>(a8 bS O I41 O O)) ?_));refine aG O O O aZ O O (hB.c O) (ym O (yex O (eN n aZ I25 O hi O O O (by omega)) ?_));rintro _ ⟨⟨p4,c4,rfl⟩,hs4,hb4⟩;refine yp O (λ_=>bW bS x7 O (zs:=[.bool false,.slice none 0 0,.slice none 0 0,.slice none 0 0]) O O (bR O O O (al O) (bR O O O (al O) (eb (cs':=[.bool false,.slice none 0 0,.slice p2 (ks.length-n) c2,.slice p4 (ids.length-n) c4]) O)))) ?_;refine eK ?_ ?_
  ·refine fj O (cZ (l:=[.bool false,.slice none 0 0,.slice p1 (n-1) (n-1),.slice p3 n n]) O O) ?_;rintro _ w1 ⟨b1,rfl,hn1,hB1,hc1,hl1⟩;have hc1:Chg [] w w1:=(drw w).tr hc1;have hn1:w.heap.size<=b1:=hn1;refine⟨⟨(hB.chg0 hc1).c rfl,((hk.mod0 hc1).at hei ha).c0 rfl,(hB.chg0 hc1).c rfl,(hB.chg0 hc1).c rfl,trivial⟩,?_⟩;refine ya O (ya O (fj O (cZ (l:=[.bool false,.slice none 0 0,.slice p2 (ks.length-n) c2,.slice p4 (ids.length-n) c4]) O O) ?_));rintro _ w2 ⟨b2,rfl,hn2,hB2,hc2,hl2⟩;have hc02:=hc1.tr hc2;refine⟨⟨(hB.chg0 hc02).c rfl,(hB.chg0 hc02).c rfl,(hB.chg0 hc02).c rfl,((hk.mod0 hc02).at hei ha).c0 rfl,trivial⟩,?_⟩;refine ya O (az (zrf ?_));exact hfin hn1 (by have:=hc1.1;omega) (hB1.chg0 hc2) hB2 hs1 hs2 hs3 hs4 hb1 hb2 hb3 hb4 hc02
  ·refine fj O (cZ (l:=[.bool false,.slice none 0 0,.slice p2 (ks.length-n) c2,.slice p4 (ids.length-n) c4]) O O) ?_;rintro _ w2 ⟨b2,rfl,hn2,hB2,hc2,hl2⟩;have hc2:Chg [] w w2:=(drw w).tr hc2;have hn2:w.heap.size<=b2:=hn2;refine⟨⟨(hB.chg0 hc2).c rfl,(hB.chg0 hc2).c rfl,(hB.chg0 hc2).c rfl,((hk.mod0 hc2).at hei ha).c0 rfl,trivial⟩,?_⟩;refine fj O (cZ (l:=[.bool false,.slice none 0 0,.slice p1 (n-1) (n-1),.slice p3 n n]) O O) ?_;rintro _ w1 ⟨b1,rfl,hn1,hB1,hc1,hl1⟩;have hc02:=hc2.tr hc1;refine⟨⟨(hB.chg0 hc02).c rfl,((hk.mod0 hc02).at hei ha).c0 rfl,(hB.chg0 hc02).c rfl,(hB.chg0 hc02).c rfl,trivial⟩,?_⟩;refine ya O (ya O (ya O (az (zrf ?_))));exact hfin (by have:=hc2.1;omega) hn2 hB1 (hB2.chg0 hc1) hs1 hs2 hs3 hs4 hb1 hb2 hb3 hb4 hc02
theorem E6(c:Cn):mA c<=cnZ c:=by
 cases c with
 | leaf ps => have h1 := mB ps; show ps.length <= cT ps; omega
 | br ks ids => show ids.length <= 3 + 4 * ids.length + dj ks; omega
theorem cutZ_le{c:Cn}{n:Nat}(hz:cnZ c<=900):cnZ (wK c n)<=1000/\cnZ (uf c n)<=1000:=by
 cases c with
 | leaf ps =>
  have:=je ps n
  have hz:cT ps<=900:=hz;exact⟨by show cT (ps.take n)<=1000;omega,by show cT (ps.drop n)<=1000;omega⟩
 | br ks ids =>
  have h1:=jJ ks (n-1);have h2:=jJ ks n;have hz:3+4*ids.length+dj ks<=900:=hz;refine⟨?_,?_⟩
  ·show 3+4*(ids.take n).length+dj (ks.take (n-1))<=1000;rw[bz];omega
  ·show 3+4*(ids.drop n).length+dj (ks.drop n)<=1000;rw[bE];omega
theorem wD(w:World)(v:NV)(c:Cn)(n q:Nat)(h:NAt w v c)(hq:Blk w q [v.ptr])(h1:ga c<=n)(h2:n+ga c<=mA c)(h3:∀ks ids,c=.br ks ids->ids.length=ks.length+1)(hz:cnZ c<=900) :
  Ret Tryz.prog 235 #[.int .i64 n,.pointer (some ⟨q,0,none⟩)] w λr w'=>r=.int .i64 (FG c n)/\Chg [] w w':=by
 have hob6:=cutZ_le (n:=n) hz;obtain⟨hza,hzb⟩:=hob6;have h4:=E6 c;refine enter [3] Tryz.func235 O O (al O) (zSR (za O (zNR (a7 O (aD DL O O (hq.c O)) (zm O (ag O C236 (HU w v c n h h1 h2 h3 (by omega)) ?_))))));rintro _ w1 ⟨u,u',rfl,hu,hu',hc1⟩;refine zm O (zx O (zx O (zx O (zaa O (za O (zNR (zm O (ag O C199 (uz w1 u _ hu.at_ hza) ?_))))))));rintro _ w2 ⟨rfl,hc2⟩;refine zm O (ag O C199 (uz w2 u' _ (hu'.at_.chg0 hc2) hzb) ?_);rintro _ w3 ⟨rfl,hc3⟩;refine a7 O (tx O O) (za O (a6 (zrf ?_)));refine⟨bL ?_,(hc1.tr hc2).tr hc3⟩;unfold FG;omega
theorem Fv(w:World)(v:NV)(c:Cn)(h:NAt w v c)(hok:wN c)(hz:480<cnZ c) :
  Ret Tryz.prog 201 #[v.ptr] w λr w'=>∃(n:Nat) (u u':NV),ga c<=n/\n+ga c<=mA c/\FG c n<=480/\r=.tuple #[u.ptr,str (xx c n),u'.ptr]/\Part w w' v u (wK c n)/\Part w w' v u' (uf c n)/\Chg [] w w':=by
 have hob7:=FF hok hz;obtain⟨n0,g1,g2,g3⟩:=hob7;have hz9:cnZ c<=900:=by
  cases c with
  | leaf ps => exact bw hok.2 (by decide)
  | br ks ids => exact bw hok.2.2 (by decide)
 have h3:∀ks ids,c=.br ks ids->ids.length=ks.length+1:=λks ids e=>by subst e;exact hok.2.1
 have hmany:mA c<=1000:=by have:=E6 c;omega
 have hlt:=h.lt;refine enter [2,3,4] Tryz.func201 O O (al O) (zSR (aY O (cZ (l:=[v.ptr]) O O) ?_));rintro _ w1 ⟨q,rfl,hnq,hq1,hc1,hl1⟩;refine zaa O (za O (a6 ?_));have h1:=h.chg0 hc1;have hB1:Blk w1 v.b [.bool (cnL c),v.p,v.k,v.i]:=h1.blk;refine zSR (za O (a6 (dY [1,5] (λvs w'=>vs=[.pointer (some ⟨q,0,none⟩),.int .i64 (ga c)]/\Chg [] w1 w') ?_ ?_)))
 ·refine zSR (a7 O (aD DL O O (hq1.c O)) ?_);refine zn O O (a7 O (a8 bS O I4 O O) (a7 O (aD uU4 O O (hB1.c O)) (a7 O (cz O) (a6 (bX O (λhl=>?_) (λhl=>?_))))))
  ·refine ae (za O (a6 ?_));refine⟨?_,Chg.refl _⟩;cases c with
   | leaf ps => cases hl
   | br ks ids => rfl
  ·refine zKN ?_;refine⟨?_,Chg.refl _⟩;cases c with
   | leaf ps => rfl
   | br ks ids => cases hl
 ·rintro vs J w2 ⟨rfl,hc2⟩;refine zSR (zma O (a6 (aa (ae ?_))));have hq2:=hq1.chg0 hc2;have hlm:ga c<=mA c:=by omega
  refine a7 O (DH O) (za O (a6 (aa (zSR (zma O (a6 (aq (aX [1,5,6,7,8] (λm vs w'=>∃i best:Nat,vs=[.pointer (some ⟨q,0,none⟩),.int .i64 (ga c),.int .i64 best,.func (.func 235) #[] #[.pointer (some ⟨q,0,none⟩)],.int .i64 i]/\i+m=mA c+1-ga c/\ga c<=i/\ga c<=best/\best+ga c<=mA c/\(∀a,ga c<=a->a<i->FG c best<=FG c a)/\Chg [] w2 w') (mA c+1-2*ga c) ?_ ?_))))))))
  ·exact⟨ga c,ga c,rfl,by omega,aM _,aM _,by omega,λa h h2=>by omega,Chg.refl _⟩
  ·rintro m vs J w3 ⟨i,best,rfl,him,hli,hlb,hbm,hmin,hc3⟩;refine aa (zSR (zm O ?_));have hq3:=hq2.chg0 hc3;have hn3:=(h1.chg0 hc2).chg0 hc3;refine a7 O (aD DL O O (hq3.c O)) (ag O C237 (HC w3 v c hn3) ?_);rintro _ _ ⟨rfl,rfl⟩;refine zmv O (bf O O (by omega)) (a7 O (fN O O) ?_);refine a6 (aA O (λhle=>?_) (λhle=>?_))
   ·refine zKN (aa (aq (zSR (zmm O ?_))));have hob8:∃z,m=z+1:=⟨m-1,by omega⟩
    obtain⟨m,rfl⟩:=hob8;refine ag O (ux O Tryz.func235 O O) (wD w3 v c i q hn3 hq3 hli (by omega) h3 hz9) ?_;rintro _ w4 ⟨rfl,hc4⟩;refine zmm O (ag O (ux O Tryz.func235 O O) (wD w4 v c best q (hn3.chg0 hc4) (hq3.chg0 hc4) hlb hbm h3 hz9) ?_);rintro _ w5 ⟨rfl,hc5⟩;refine a7 O (bK O O) (a6 ?_);have hc35:=(hc3.tr hc4).tr hc5;refine aA O (λhlt=>?_) (λhlt=>?_)
    ·refine ae (zma O (bA (ax (aj (ae (zmv O (aC O O (by omega)) (za O ?_)))))));refine a6 (aT (m) (bq (by omega) ?_));refine⟨i+1,i,rfl,by omega,by omega,hli,by omega,λa h h2=>?_,hc35⟩;by_cases ha:a<i
     ·have:=hmin a h ha;omega
     ·have:a=i:=by omega
      subst this;exact aM _
    ·refine bQ (ax (aj (ae (zmv O (aC O O (by omega)) (za O ?_)))));refine a6 (aT (m) (bq (by omega) ?_));refine⟨i+1,best,rfl,by omega,by omega,hlb,hbm,λa h h2=>?_,hc35⟩;by_cases ha:a<i
     ·exact hmin a h ha
     ·have:a=i:=by omega
      subst this;omega
   ·refine aO (an (an (aE (aj (aa (ae ?_))))));have hb:=hmin n0 g1 (by omega);refine a7 O (aD DL O O (hq3.c O)) (zm O (ag O C236 (HU w3 v c best hn3 hlb hbm h3 (by omega)) ?_));rintro _ w4 ⟨u,u',rfl,hu,hu',hc4⟩;refine zx O (zx O (zx O (zaa O (za O (a6 (zrf ?_))))));have hc03:Chg [] w w3:=(hc1.tr hc2).tr hc3;have k03:=hc03.1;exact⟨best,u,u',hlb,hbm,by omega,rfl,⟨hu.at_,λx hx=>(hu.sub x hx).imp id (λh=>by omega)⟩,⟨hu'.at_,λx hx=>(hu'.sub x hx).imp id (λh=>by omega)⟩,hc03.tr hc4⟩
theorem vo(w:World)(v:NV)(ks:List Bs)(ids:List UInt32)(i:Nat)(h:NAt w v (.br ks ids))(hi:i<ids.length)(hl:ids.length=ks.length+1)(hk:0<ks.length)(hm:ids.length<=10000) :
  Ret Tryz.prog 169 #[v.ptr,.int .i64 i] w λ_ w'=>(∃kv iv,NAt w' ⟨v.b,v.p,kv,iv⟩ (.br (ks.take (i-1)++ks.drop (i-1+1)) (ids.take i++ids.drop (i+1)))/\∀x∈ay kv++ay iv,w.heap.size<=x)/\Chg [v.b] w w':=by
 obtain⟨b,vp,vk,vi⟩:=v;obtain⟨hB,hp,hkk,hii,hap⟩:=h;replace hB:Blk w b [.bool false,vp,vk,vi]:=hB;replace hkk:Sl w vk ks:=hkk;replace hii:Sl w vi ids:=hii;have hbl:=hB.lt;have hpb:∀x∈ay vp,x≠b:=λx hx=>hap x (cL _ hx);have hib:∀x∈ay vi,x≠b:=λx hx=>hap x (cf _ (cf _ hx));obtain⟨pk,ck,rfl⟩:∃p c,vk=.slice p ks.length c:=hkk.form rfl;have hmax:max ((i:Int)-1) 0=((i-1:Nat):Int):=by omega
 refine enter [] Tryz.func169 O O (al O) (zSR (zmv O (bf O O (by omega)) (a7 O (tx O O) (za O ?_))));refine a6 (aa (zSR (zm O (zn O O (a7 O (a8 bS O I70 O O) ?_)))));rw[hmax];refine a7 O (aD cO O O (hB.c O)) (a7 O (aB O cO) (a7 O (dk O O) (a6 (bI O (by omega) ?_))));refine ae (zmm O (zn O O (a7 O (a8 bS O I70 O O) ?_)));refine a7 O (aD cO O O (hB.c O)) (ag O C203 (x9 w _ ks hkk (by omega)) ?_);rintro v1 w1 ⟨ho1,hi1,hc1⟩;refine zmm O (a7 O (aC O O (by omega)) ?_);have hob1:=ho1.sl.form rfl;obtain⟨p1,c1,rfl⟩:=hob1;refine ag O C210 (Dx w1 p1 c1 ks (i-1) ho1 (by omega) (by omega)) ?_;rintro v2 w2 ⟨ho2,hi2,hc2⟩;refine zn O O (a7 O (a8 bS O I70 O O) ?_);have hc02:=hc1.t0 hc2 (λx hx=>hi1.ge x hx);have hk2:∀x∈ay v2,w.heap.size<=x:=λx hx=>(hi2 x hx).elim (λh=>hi1.ge x h) (λh=>by have:=hc1.1;omega);have hB2:=hB.chg0 hc02;have hob2:=ho2.sl.form rfl;obtain⟨p2,c2,rfl⟩:=hob2;refine aQ O (bJ I70 O O (hB2) O O ((by decide:2<4)) O (rfl)) ?_;rintro w3 ⟨hB3,hc3,hs3⟩;refine a6 (ae (zmm O (zn O O (a7 O (a8 bS O I41 O O) ?_))));replace hB3:Blk w3 b [.bool false,vp,.slice p2 (ks.take (i-1)++ks.drop (i-1+1)).length c2,vi]:=hB3;refine a7 O (aD aZ O O (hB3.c O)) ?_;have hi3:=(hii.mod0 hc02).mod hc3 (λx hx hh=>by simp at hh;exact hib x hx hh);have ho3:=ho2.mod hc3 (λx hx hh=>by simp at hh;have:=hk2 x hx;omega);refine ag O C200 (qF w3 _ ids hi3 (by omega)) ?_;rintro v4 w4 ⟨ho4,hi4,hc4⟩;refine zmm O (a7 O (aC O O (by omega)) ?_);have hob3:=ho4.sl.form rfl;obtain⟨p4,c4,rfl⟩:=hob3;refine ag O C211 (Dw w4 p4 c4 ids i ho4 hi (by omega)) ?_;rintro v5 w5 ⟨ho5,hi5,hc5⟩;refine zn O O (a7 O (a8 bS O I41 O O) ?_);have hc35:=hc4.t0 hc5 (λx hx=>hi4.ge x hx);have k02:=hc02.1;have k3:=hc3.1;have k4:=hc4.1;have hi5':∀x∈ay v5,w3.heap.size<=x:=λx hx=>(hi5 x hx).elim (λh=>hi4.ge x h) (λh=>by omega);have hB5:=hB3.chg0 hc35;have hob4:=ho5.sl.form rfl;obtain⟨p5,c5,rfl⟩:=hob4;refine aQ O (bJ I41 O O (hB5) O O ((by decide:3<4)) O (rfl)) ?_;rintro w6 ⟨hB6,hc6,hs6⟩;refine bA (fV ?_);replace hB6:Blk w6 b [.bool false,vp,.slice p2 (ks.take (i-1)++ks.drop (i-1+1)).length c2,.slice p5 (ids.take i++ids.drop (i+1)).length c5]:=hB6;refine⟨⟨_,_,⟨hB6,?_,?_,?_,λx hx=>?_⟩,λx hx=>?_⟩,?_⟩
 ·exact(((hp.mod0 hc02).mod hc3 (λx hx hh=>by simp at hh;exact hpb x hx hh)).mod0 hc35).mod hc6 (λx hx hh=>by simp at hh;exact hpb x hx hh)
 ·exact(ho3.mod0 hc35).sl.mod hc6 (λx hx hh=>by simp at hh;have:=hk2 x hx;omega)
 ·exact ho5.sl.mod hc6 (λx hx hh=>by simp at hh;have:=hi5' x hx;omega)
 ·rcases List.mem_append.1 hx with hx|hx
  ·exact hpb x hx
  ·rcases List.mem_append.1 hx with hx|hx
   ·have:=hk2 x hx;show x≠b;omega
   ·have:=hi5' x hx;show x≠b;omega
 ·rcases List.mem_append.1 hx with hx|hx
  ·exact hk2 x hx
  ·have:=hi5' x hx;omega
 ·exact((hc02.tr0' hc3).tr (hc35.mono (by simp))).tr hc6
theorem CT.good{V:UInt32->Bs}{d:Nat}{c:Cn}{pg:List UInt32}{m:List Pr}(h:CT V d c pg m)(hz:cnZ c<=480)(hf:jM c):wO c:=by
 have:=h.ok (.inl (by omega))
 cases c with
 | leaf ps => exact ⟨this.1, hz⟩
 | br ks ids => exact ⟨hf, this.2.1, this.1, hz⟩
theorem uD(c:TC)(w:World)(s:TP)(id:UInt32)(n:Cn)(h:c.pg w s)(hw:s.P.now.written id=true)(hv:s.V id=cnB n)(hg:wO n) :
  Ret Tryz.prog 59 #[c.pv,.int .u32 id.toNat] w λr w'=>(∃v:NV,r=.tuple #[v.ptr,.int .i64 0]/\NAt w' v n/\∀x∈v.F,w.heap.size<=x)/\Chg [] w w':=by
 refine enter [4,5] Tryz.func59 O O (al O) (zSR (zaa O (zNR (zmm O (ag O C102 (H4 h id hw) ?_)))));rintro v1 w1 ⟨⟨rv,rfl,hs1⟩,_,hc1⟩;rw[hv] at hs1;refine zm O (zx O (zx O (zaa O (a6 (aa (zSR (zmv O (bV O O) (a6 (aJ O (λh=>h O) ?_)))))))));refine zKN (aa (zSR (zm O (ag O C103 (EB w1 rv n hs1) ?_))));rintro _ _ ⟨rfl,rfl⟩;refine a6 (aq (zSR (a7 O (dy O O) (za O (a6 ?_)))));cases n with
 | leaf ps =>
  replace hg:leafOk ps:=hg
  skip
  refine aW (rfl) ?_;refine zSR (zm O (ag O C104 (BH w1 rv ps hs1 hg) ?_));rintro _ w2 ⟨⟨lv,rfl,ho2,hi2⟩,hc2⟩;refine zm O (zx O (zx O (zaa O (zNR (zm O ?_)))));have hob5:=ho2.sl.form rfl;obtain⟨pl,cl,rfl⟩:=hob5;refine a7 O (bW bS x7 O (zs:=[.bool false,.slice none 0 0,.slice none 0 0,.slice none 0 0]) O O (bR O O O (al O) (bR O O O (al O) (eb (cs':=[.bool true,.slice pl ps.length cl,.slice none 0 0,.slice none 0 0]) O)))) ?_;refine aY O (cZ (l:=[.bool true,.slice pl ps.length cl,.slice none 0 0,.slice none 0 0]) O O) ?_;rintro _ w3 ⟨b3,rfl,hn3,hB3,hc3,hl3⟩;refine zma O (za O (a6 (zrb ?_)));have k1:=hc1.1;have k2:=hc2.1;refine⟨⟨⟨b3,.slice pl ps.length cl,.slice none 0 0,.slice none 0 0⟩,rfl,⟨hB3,(ho2.mod0 hc3).sl,Sl.nil _ _,Sl.nil _ _,λx hx=>?_⟩,λx hx=>?_⟩,(hc1.tr hc2).tr hc3⟩
  ·simp only[ay,cE] at hx
   have:=ho2.sl.lt x hx;show x≠b3;omega
  ·simp only[NV.F,ay,cE,bZ] at hx;rcases hx with rfl|hx
   ·omega
   ·have:=hi2.ge x hx;omega
 | br ks ids =>
  replace hg:brOk ks ids:=hg
  skip
  refine aI (rfl) ?_;refine zSR (a7 O (dy O O) (za O ?_));refine a6 (aW (rfl) (zSR (zm O (ag O C105 (xG w1 rv ks ids hs1 hg) ?_))));rintro _ w2 ⟨⟨kv,iv,rfl,hok,hoi,hik,hii⟩,hc2⟩;refine zm O (zx O (zx O (zx O (zaa O (za O (zNR (zmm O ?_)))))));have hob6:=hok.sl.form rfl;obtain⟨pk,ck,rfl⟩:=hob6;have hob7:=hoi.sl.form rfl;obtain⟨pi,ci,rfl⟩:=hob7;refine a7 O (bW bS x7 O (zs:=[.bool false,.slice none 0 0,.slice none 0 0,.slice none 0 0]) O O (bR O O O (al O) (bR O O O (al O) (eb (cs':=[.bool false,.slice none 0 0,.slice pk ks.length ck,.slice pi ids.length ci]) O)))) ?_;refine aY O (cZ (l:=[.bool false,.slice none 0 0,.slice pk ks.length ck,.slice pi ids.length ci]) O O) ?_;rintro _ w3 ⟨b3,rfl,hn3,hB3,hc3,hl3⟩;refine zma O (za O (a6 (zrb ?_)));have k1:=hc1.1;have k2:=hc2.1;refine⟨⟨⟨b3,.slice none 0 0,.slice pk ks.length ck,.slice pi ids.length ci⟩,rfl,⟨hB3,Sl.nil _ _,(hok.mod0 hc3).sl,(hoi.mod0 hc3).sl,λx hx=>?_⟩,λx hx=>?_⟩,(hc1.tr hc2).tr hc3⟩
  ·have hx:x∈ay (.slice pk ks.length ck)++ay (.slice pi ids.length ci):=hx;rcases List.mem_append.1 hx with hx|hx
   ·have:=hok.sl.lt x hx;show x≠b3;omega
   ·have:=hoi.sl.lt x hx;show x≠b3;omega
  ·have hx:x∈b3::(ay (.slice pk ks.length ck)++ay (.slice pi ids.length ci)):=hx;rcases List.mem_cons.1 hx with rfl|hx
   ·omega
   ·rcases List.mem_append.1 hx with hx|hx
    ·have:=hik.ge x hx;omega
    ·have:=hii.ge x hx;omega
theorem wq(p:Nat->Bool):∀n:Nat,(∀j,j<n->p j=false)∨∃i,i<n/\p i=true/\∀j,j<i->p j=false
 | 0 => .inl (λj h => by omega)
 | n + 1 => by
  rcases wq p n with h|⟨i,h1,h2,h3⟩
  ·cases hn:p n with
   | true => exact .inr ⟨n, by omega, hn, h⟩
   | false => exact .inl (λj hj => by
     by_cases hjn:j=n
     ·rw[hjn];exact hn
     ·exact h j (by omega))
  ·exact .inr ⟨i,by omega,h2,h3⟩
theorem TC.ed.upM{c:TC}{xb:Nat}{w w':World}{e:TE}{s':TP}{mv':Value}{made':List UInt32}(h:c.ed xb w e)(hp:c.pg w' s')(hB:Blk w' xb [c.pv,mv',e.gv])(ho:Own w' mv' made')(hg:Own w' e.gv e.gone)(hin:In mv' (ay e.mv) w.heap.size):c.ed xb w' ⟨s',mv',e.gv,made',e.gone⟩:=by
 have hlt:=h.lt;have hw:=h.pg.2.1;refine⟨hp,hB,ho,hg,λhx=>?_,h.x2,λx hx hh=>?_,λx hx=>?_⟩
 ·rcases hin xb hx with q|q
  ·exact h.x1 q
  ·have:=hlt xb (by simp[EF]);omega
 ·rcases hin x hx with q|q
  ·exact h.ap x q hh
  ·have:=hlt x (by simp[EF,hh]);omega
 ·simp only[EF,bZ,fX] at hx;rcases hx with rfl|hx|hx
  ·exact h.fr _ (by simp[EF])
  ·rcases hin x hx with q|q
   ·exact h.fr x (by simp[EF,q])
   ·refine⟨?_,λhh=>?_⟩
    ·have:=(h.pg.1.2.1).1;omega
    ·have:=h.pg.lt x hh;omega
  ·exact h.fr x (by simp[EF,hx])
theorem TC.ed.upG{c:TC}{xb:Nat}{w w':World}{e:TE}{s':TP}{gv':Value}{gone':List UInt32}(h:c.ed xb w e)(hp:c.pg w' s')(hB:Blk w' xb [c.pv,e.mv,gv'])(hm:Own w' e.mv e.made)(ho:Own w' gv' gone')(hin:In gv' (ay e.gv) w.heap.size):c.ed xb w' ⟨s',e.mv,gv',e.made,gone'⟩:=by
 have hlt:=h.lt;refine⟨hp,hB,hm,ho,h.x1,λhx=>?_,λx hx hh=>?_,λx hx=>?_⟩
 ·rcases hin xb hx with q|q
  ·exact h.x2 q
  ·have:=hlt xb (by simp[EF]);omega
 ·rcases hin x hh with q|q
  ·exact h.ap x hx q
  ·have:=hlt x (by simp[EF,hx]);omega
 ·simp only[EF,bZ,fX] at hx;rcases hx with rfl|hx|hx
  ·exact h.fr _ (by simp[EF])
  ·exact h.fr x (by simp[EF,hx])
  ·rcases hin x hx with q|q
   ·exact h.fr x (by simp[EF,q])
   ·refine⟨?_,λhh=>?_⟩
    ·have:=(h.pg.1.2.1).1;omega
    ·have:=h.pg.lt x hh;omega
def nw(n:Nat)(P:Pg):Prop:=∀j,j<n->P.free (UInt32.ofNat j)=false
theorem oS(c:TC)(xb:Nat)(w:World)(e:TE)(v:NV)(n:Cn)(h:c.ed xb w e)(hn:NAt w v n)(hg:wO n)(hz:cnZ n<=480)(hm:e.made.length<=1000)(hk:e.s.k+1<=40000) :
  Ret Tryz.prog 94 #[.pointer (some ⟨xb,0,none⟩),v.ptr] w λr w'=>(r=.tuple #[.int .u32 0,.int .i64 70]/\nw c.n e.s.P/\c.to xb w w' e e)∨∃id e',r=.tuple #[.int .u32 id.toNat,.int .i64 0]/\c.to xb w w' e e'/\Stp c.n e e' [id] []/\e'.s.V id=cnB n:=by
 obtain⟨s,mv,gv,made,gone⟩:=e;have hn4:=h.pg.n4;refine enter [4,5] Tryz.func94 O O (al O) (zSR (a7 O (gK (v:=.int .u32 ((0:UInt32).toNat:Nat)) O) (za O ?_)));refine zNR (zm O (ag O C148 (FJ w v n hn hg) ?_));rintro _ w1 ⟨bv,rfl,ho1,hi1,hc1⟩;refine zm O (zx O (zx O (zaa O (a6 (aa (zSR (zmv O (bV O O) (a6 (aJ O (λh=>h O) ?_)))))))));refine zKR (zm O (zn O O (a7 O (a8 me O I24 O O) ?_)));have h1:=h.chg0 hc1;refine a7 O (aD ma O O (h1.blk.c O)) ?_;rcases wq (λj=>s.P.free (UInt32.ofNat j)) c.n with hno|⟨i,hi,hfi,hfl⟩
 ·refine ag O C149 (Dj h1.pg hno) ?_;rintro _ w2 ⟨rfl,hS2,hc2⟩;refine zm O (zx O (zx O (zaa O (a6 (aa (zSR (zmv O (bV O O) (a6 (bI O (by decide) ?_)))))))));refine zSR (zmv O (gK (v:=.int .u32 ((0:UInt32).toNat:Nat)) O) (za O ?_));refine a6 (zrt ?_);have h2:c.ed xb w2 ⟨s,mv,gv,made,gone⟩:=⟨hS2,h1.blk.chg hc2 (h1.fr xb (by simp[EF])).2,h1.mo.mod hc2 (λx hx=>(h1.fr x (by simp[EF,hx])).2),h1.go.mod hc2 (λx hx=>(h1.fr x (by simp[EF,hx])).2),h1.x1,h1.x2,h1.ap,h1.fr⟩
  exact .inl ⟨rfl,hno,h2,λx hx=>.inl hx,(hc1.tr0' (hc2.mono (λx hx _=>cL _ hx)))⟩
 ·have hob1:∃id,id=UInt32.ofNat i:=⟨_,rfl⟩
  obtain⟨id,hid⟩:=hob1;have hidn:id.toNat<c.n:=by rw[hid,fL];omega
  have hfi:s.P.free id=true:=by rw[hid];exact hfi
  refine ag O C149 (Ii h1.pg i hi hfl (by rw[<-hid];exact hfi)) ?_;rintro v2 w2 ⟨hv2,hS2,hc2⟩;rw[<-hid] at hv2 hS2;subst hv2;refine zm O (zx O (zx O (zaa O (a6 (aa (zSR (zmv O (bV O O) (a6 (aJ O (λh=>h O) ?_)))))))));refine zKR (zmm O (zn O O (a7 O (a8 me O I41 O O) ?_)));have hB2:=h1.blk.chg hc2 (h1.fr xb (by simp[EF])).2;have hm2:=h1.mo.mod hc2 (λx hx=>(h1.fr x (by simp[EF,hx])).2);have hg2:=h1.go.mod hc2 (λx hx=>(h1.fr x (by simp[EF,hx])).2);have hlt1:=h1.lt;have hge1:=h1.ge;have k2:=hc2.1;have k1:=hc1.1;have hbv:∀x∈ay bv,x∉c.F++EF xb ⟨s,mv,gv,made,gone⟩/\x<w1.heap.size:=λx hx=>⟨λhh=>by
   have h3:=hi1.ge x hx;have h4:=h.lt x hh
   omega,ho1.sl.lt x hx⟩
  have ho2:=ho1.mod hc2 (λx hx hh=>(hbv x hx).1 (cL _ hh));refine a7 O (aD aZ O O (hB2.c O)) (zm O (iO (id) aZ I25 O O O (by decide) (by decide) O O O O (hm2) (λ_=>rfl) (by omega) ?_));rintro s3 v3 w3 h3;refine zn O O (a7 O (a8 me O I41 O O) ?_);have hin3:=h3.inn;have hmod3:=h3.mod;have hx3:xb∉ay mv:=h1.x1;have hB3:=hB2.chg hmod3 hx3;have hg3:=hg2.mod hmod3 (λx hx hh=>h1.ap x hh hx);have ho3:=ho2.mod hmod3 (λx hx hh=>(hbv x hx).1 (by simp[EF,hh]));have hS3:=PS.chg hS2 hmod3 (λx hx hh=>(h1.fr x (by simp[EF,hh])).2 hx) (λx hx=>(h1.fr x (by simp[EF,hx])).1);have hown3:=h3.own;have hob2:=hown3.sl.form rfl;obtain⟨p3,c3,rfl⟩:=hob2;have k3:=hmod3.1;have hxv3:xb∉ay (.slice p3 (made++[id]).length c3):=λhh=>by
   rcases hin3 xb hh with q|q
   ·exact hx3 q
   ·have:=hlt1 xb (by simp[EF]);omega
  refine aQ O (bJ I41 O O (hB3) O O ((by decide:1<3)) O (rfl)) ?_;rintro w4 ⟨hB4,hc4,hs4⟩;refine zNR (zmm O (zn O O (a7 O (a8 me O I24 O O) ?_)));have hB4:Blk w4 xb [c.pv,.slice p3 (made++[id]).length c3,gv]:=hB4;have hg4:=hg3.mod hc4 (λx hx hh=>by simp at hh;subst hh;exact h1.x2 hx);have hm4:=hown3.mod hc4 (λx hx hh=>by simp at hh;subst hh;exact hxv3 hx);have ho4:=ho3.mod hc4 (λx hx hh=>by simp at hh;subst hh;exact(hbv _ hx).1 (by simp[EF]));have hS4:=PS.chg hS3 hc4 (λx hx hh=>by simp at hh;subst hh;exact(h1.fr _ (by simp[EF])).2 hx) (λx hx=>by simp at hx;subst hx;exact(h1.fr _ (by simp[EF])).1);have hob3:=free_iff.1 hfi;obtain⟨hfu,hfk⟩:=hob3;refine a7 O (aD ma O O (hB4.c O)) (zmm O (ag O C150 (EJ hS4 hk id (by rw[fresh_iff];exact⟨by show eX s.P.now.used id id=true;simp[eX],hfk⟩) bv (cnB n) (by rw[nt];exact hz) (.inl ho4.sl) (λ_ x hx hh=>(hbv x hx).1 (cL _ hh))) ?_));rintro _ w5 ⟨rfl,⟨ds5,hS5⟩,hc5⟩;refine zaa O (a6 (zrf ?_));have hmF:∀x∈ay (.slice p3 (made++[id]).length c3),x∉c.F:=λx hx hh=>by
   rcases hin3 x hx with q|q
   ·exact(h1.fr x (by simp[EF,q])).2 hh
   ·have:=hlt1 x (cL _ hh);omega
  have hB5:=hB4.chg hc5 (h1.fr xb (by simp[EF])).2;have hm5:=hm4.mod hc5 (λx hx=>hmF x hx);have hg5:=hg4.mod hc5 (λx hx=>(h1.fr x (by simp[EF,hx])).2);have hin:In (.slice p3 (made++[id]).length c3) (ay mv) w1.heap.size:=λx hx=>(hin3 x hx).imp (λq=>q) (λq=>by omega);refine .inr ⟨id,_,rfl,⟨h1.upM (s':=⟨s.k+1,ds5,_,_⟩) hS5 hB5 hm5 hg5 hin,λx hx=>?_,?_⟩,⟨Ext.one hfi hidn ?_,rfl,(cE _).symm,rfl⟩,?_⟩
  ·simp only[EF,bZ,fX] at hx ⊢;rcases hx with rfl|hx|hx
   ·exact .inl (.inl O)
   ·rcases hin x hx with q|q
    ·exact .inl (.inr (.inl q))
    ·exact .inr (by omega)
   ·exact .inl (.inr (.inr hx))
  ·refine hc1.tr0' (((hc2.mono (λx hx _=>cL _ hx)).tr (hmod3.mono (λx hx _=>?_))).tr ((hc4.mono (λx hx _=>?_)).tr (hc5.mono (λx hx _=>cL _ hx))))
   ·simp[EF,hx]
   ·simp at hx;simp[EF,hx]
  ·cases hwr:s.P.now.written id with
   | false => rfl
   | true => rw [h.pg.wu hwr] at hfu; cases hfu
  ·show xg s.V id (cnB n) id=cnB n;simp[xg]
theorem ox(c:TC)(xb:Nat)(w:World)(e:TE)(id:UInt32)(n:Cn)(deep:Nat)(h:c.ed xb w e)(hd:deep<=40)(hw:e.s.P.now.written id=true)(hv:e.s.V id=cnB n)(hg:wO n)(hl:e.gone.length<=1000) :
  Ret Tryz.prog 153 #[.pointer (some ⟨xb,0,none⟩),.int .u32 id.toNat,.int .i64 deep] w λr w'=>∃v e',r=.tuple #[v.ptr,.int .i64 0]/\c.to xb w w' e e'/\Stp c.n e e' [] [id]/\e'.s=e.s/\c.has xb e' w.heap.size w' v n:=by
 obtain⟨s,mv,gv,made,gone⟩:=e;refine enter [6,7] Tryz.func153 O O (al O) (zSR (zaa O (a6 (aa (zSR (zmv O (dk O O) (a6 (aJ O (by omega) ?_))))))));refine zKR (zm O (zn O O (a7 O (a8 me O I24 O O) ?_)));refine a7 O (aD ma O O (h.blk.c O)) (zm O (ag O C59 (uD c w s id n h.pg hw hv hg) ?_));rintro _ w1 ⟨⟨v,rfl,hn1,hv1⟩,hc1⟩;refine zm O (zx O (zx O (zaa O (a6 (aa (zSR (zmv O (dy O O) (a6 ?_))))))));have h1:=h.chg0 hc1;refine bI O (rfl) ?_;refine ae (zmm O (zn O O (a7 O (a8 me O I41 O O) ?_)));have hlt1:=h1.lt;have hnl1:=hn1.lt;have k1:=hc1.1;have hg1:=h1.go;have hob4:=hg1.sl.form rfl;obtain⟨pg1,cg1,hgf⟩:=hob4;refine a7 O (aD aZ O O (h1.blk.c O)) (zm O (iO (id) aZ I25 O O O (by decide) (by decide) O O O O (hg1) (λ_=>rfl) (by omega) ?_));rintro s3 v3 w3 h3;refine zn O O (a7 O (a8 me O I41 O O) ?_);have hin3:=h3.inn;have hmod3:=h3.mod;have hown3:=h3.own;have k3:=hmod3.1;have hlt:=h.lt;have hnE:∀x∈v.F,x∉EF xb ⟨s,mv,gv,made,gone⟩:=λx hx hh=>by
  have:=hv1 x hx
  have:=hlt x (cf _ hh)
  omega
 have hn3:=hn1.chg hmod3 (λx hx hh=>hnE x hx (by simp[EF,hh]));have hB3:=h1.blk.chg hmod3 h1.x2;have hm3:=h1.mo.mod hmod3 (λx hx hh=>h1.ap x hx hh);have hS3:=h1.pg.chg hmod3 (λx hx hh=>(h1.fr x (by simp[EF,hh])).2 hx) (λx hx=>(h1.fr x (by simp[EF,hx])).1);have hob5:=hown3.sl.form rfl;obtain⟨p3,c3,rfl⟩:=hob5;have hxv3:xb∉ay (.slice p3 (gone++[id]).length c3):=λhh=>by
  rcases hin3 xb hh with q|q
  ·exact h1.x2 q
  ·have:=hlt1 xb (by simp[EF]);omega
 refine aQ O (bJ I41 O O (hB3) O O ((by decide:2<3)) O (rfl)) ?_;rintro w4 ⟨hB4,hc4,hs4⟩;refine zNR (zmm O (zaa O (a6 (zrf ?_))));have hB4:Blk w4 xb [c.pv,mv,.slice p3 (gone++[id]).length c3]:=hB4;have hm4:=hm3.mod hc4 (λx hx hh=>by simp at hh;subst hh;exact h1.x1 hx);have hg4:=hown3.mod hc4 (λx hx hh=>by simp at hh;subst hh;exact hxv3 hx);have hS4:=hS3.chg hc4 (λx hx hh=>by simp at hh;subst hh;exact(h1.fr _ (by simp[EF])).2 hx) (λx hx=>by simp at hx;subst hx;exact(h1.fr _ (by simp[EF])).1);have hn4:=hn3.chg hc4 (λx hx hh=>by simp at hh;subst hh;exact hnE _ hx (by simp[EF]));refine⟨v,_,rfl,⟨h1.upG hS4 hB4 hm4 hg4 hin3,λx hx=>?_,?_⟩,⟨Ext.refl _ _ _,(cE _).symm,rfl,rfl⟩,rfl,hn4,λx hx=>⟨hv1 x hx,λhh=>?_⟩⟩
 ·simp only[EF,bZ,fX] at hx ⊢;rcases hx with rfl|hx|hx
  ·exact .inl (.inl O)
  ·exact .inl (.inr (.inl hx))
  ·rcases hin3 x hx with q|q
   ·exact .inl (.inr (.inr q))
   ·exact .inr (by omega)
 ·refine hc1.tr0' ((hmod3.mono (λx hx _=>?_)).tr (hc4.mono (λx hx _=>?_)))
  ·simp[EF,hx]
  ·simp at hx;simp[EF,hx]
 ·simp only[EF,bZ,fX] at hh;rcases hh with rfl|hh|hh
  ·exact hnE _ hx (by simp[EF])
  ·exact hnE _ hx (by simp[EF,hh])
  ·rcases hin3 x hh with q|q
   ·exact hnE _ hx (by simp[EF,q])
   ·have:=hnl1 x hx;omega
theorem undo_ok(c:TC)(xb:Nat)(w:World)(e:TE)(h:c.ed xb w e)(hu:∀x∈e.made,e.s.P.now.used x=true)(hnd:e.made.Nodup)(hl:e.made.length<=1000) :
  Ret Tryz.prog 95 #[.pointer (some ⟨xb,0,none⟩)] w λ_ w'=>(∃s',c.pg w' s'/\s'.V=e.s.V/\s'.k=e.s.k/\s'.P.now.used=(λx => !e.made.elem x&&e.s.P.now.used x)/\s'.P.now.written=(λx => !e.made.elem x&&e.s.P.now.written x)/\s'.P.kept=e.s.P.kept/\s'.P.at_=e.s.P.at_)/\Chg c.F w w':=by
 obtain⟨s,mv,gv,made,gone⟩:=e;replace hl:made.length<=1000:=hl;have hmo:Own w mv made:=h.mo;have hfm:∀x∈ay mv,x∉c.F:=λx hx=>(h.fr x (by simp[EF,hx])).2;have hfx:xb∉c.F:=(h.fr xb (by simp[EF])).2;have hB:Blk w xb [c.pv,mv,gv]:=h.blk;have hob6:∃p c,mv=.slice p made.length c:=hmo.sl.form rfl;obtain⟨pm,cm,rfl⟩:=hob6;refine enter [] Tryz.func95 O O (al O) (zSR (zm O (zn O O (a7 O (a8 me O I41 O O) (a7 O (aD aZ O O (hB.c O)) (a7 O (aB O aZ) (zm O (a6 (aq (aX [0,7,8,9] (λm vs w'=>∃(i:Nat) (s':TP),vs=[.pointer (some ⟨xb,0,none⟩),.slice pm made.length cm,.int .i64 made.length,.int .i64 i]/\i+m=made.length/\c.pg w' s'/\s'.V=s.V/\s'.k=s.k/\s'.P.now.used=(λx => !(made.take i).elem x&&s.P.now.used x)/\s'.P.now.written=(λx => !(made.take i).elem x&&s.P.now.written x)/\s'.P.kept=s.P.kept/\s'.P.at_=s.P.at_/\Chg c.F w w') (made.length) ?_ ?_))))))))))
 ·exact⟨0,s,rfl,by omega,h.pg,rfl,rfl,by funext x;rfl,by funext x;rfl,rfl,rfl,Chg.refl' _ _⟩
 ·rintro m vs J w1 ⟨i,s1,rfl,hi,hS1,hV1,hk1,hu1,hw1,hkp1,hat1,hc1⟩;refine zSR (a7 O (bK O O) ?_);refine a6 (aa (aA O (λhlt=>?_) (λhlt=>?_)))
  ·refine zKN (aa (aq (aa (ae ?_))));have hob7:∃q,m=q+1:=⟨m-1,by omega⟩
   obtain⟨m,rfl⟩:=hob7;have hob8:∃a,made[i]?=some a:=⟨_,bM (by omega)⟩
   obtain⟨a,ha⟩:=hob8;have hm1:=hmo.mod hc1 hfm;have hB1:=hB.chg hc1 hfx;have hob9:=List.getElem?_eq_some_iff.1 ha;obtain⟨hil,hae⟩:=hob9;have hup:made.take (i+1)=made.take i++[a]:=by rw[<-hae,fM hil]
   have hna:a∉made.take i:=λhh=>by
    have:=hnd.sublist (oI (i+1) made)
    rw[hup,kh] at this;exact this.2.2 a hh a (by simp) O
   have hel:∀x,(made.take (i+1)).elem x=(decide (x=a)||(made.take i).elem x):=λx=>by
    rw[hup];simp only[List.elem_eq_mem,fX,gh];by_cases h1:x=a <;> by_cases h2:x∈made.take i <;> simp[h1,h2]
   refine bD O (aS (i) aZ I25 O (hm1.sl) O O (by first|rfl|omega) (by omega)) ?_;rintro _ ⟨bi,oi,rfl,hei,hbi⟩;refine a7 O (aD bu O O (((hm1.sl.at hei ha).c0 rfl:_=some (Value.int .u32 a.toNat)))) ?_;refine za O (a6 (ae (zm O (zn O O (a7 O (a8 me O I24 O O) (a7 O (aD ma O O (hB1.c O)) (zm O ?_)))))));have hua:s1.P.now.used a=true:=by
    rw[hu1];have h1:=hu a (j1 ha);have h2:(made.take i).elem a=false:=by simpa [List.elem_eq_mem] using hna
    simp only[h2,sE,j4];exact h1
   refine ag O C128 (wF hS1 a hua) ?_;rintro _ w2 ⟨rfl,hS2,hc2⟩;refine bA (ax (aj (ae (a7 O (aC O O (by omega)) (zm O ?_)))));refine a6 (aT (m) (bq (by omega) ?_));refine⟨i+1,⟨s1.k,s1.ds,{ s1.P with now:={ s1.P.now with used:=eS s1.P.now.used a,written:=eS s1.P.now.written a } },s1.V⟩,rfl,by omega,hS2,hV1,hk1,?_,?_,hkp1,hat1,hc1.tr hc2⟩
   ·show eS s1.P.now.used a=_;rw[hu1];funext x;show(!decide (x=a)&&(!(made.take i).elem x&&s.P.now.used x))=_;rw[hel];cases decide (x=a) <;> cases (made.take i).elem x <;> rfl
   ·show eS s1.P.now.written a=_;rw[hw1];funext x;show(!decide (x=a)&&(!(made.take i).elem x&&s.P.now.written x))=_;rw[hel];cases decide (x=a) <;> cases (made.take i).elem x <;> rfl
  ·refine aO (an (an (aE (fV ?_))));have hil:i=made.length:=by omega
   subst hil;rw[cX] at hu1 hw1;exact⟨⟨s1,hS1,hV1,hk1,hu1,hw1,hkp1,hat1⟩,hc1⟩
theorem DV{α:Type}(a:List α)(x y:α)(b:List α):(a++x::b).set a.length y=a++y::b:=by simp
theorem AX{α:Type}(a:List α)(x:α)(b:List α):(a++x::b).take (a.length+1)=a++[x]:=by
 rw[show a++x::b=(a++[x])++b by simp];exact cP (by simp)
theorem oh{α:Type}(a:List α)(x:α)(b:List α):(a++x::b).drop (a.length+1)=b:=by
 rw[show a++x::b=(a++[x])++b by simp];exact ej (by simp)
theorem bY(t:List Kd):(bs t).length=t.length:=dr ..
theorem TC.ed.w0lo{c:TC}{xb:Nat}{w:World}{e:TE}{lo:Nat}(h:c.ed xb w e)(hf:∀x∈c.F,x<lo):c.w0.heap.size<=lo:=by
 have h1:=h.pg.ge c.R.pb (by simp[TC.F,PF]);have h2:=hf c.R.pb (by simp[TC.F,PF]);omega
theorem vZ{A B pg:List UInt32}{i:UInt32}:(A++(i::pg++B)).Perm (A++(pg++B)++[i]):=by
 rw[BT];exact List.perm_middle.trans (zg _ _).symm
theorem He{A B p1 p2:List UInt32}{i j:UInt32}:(A++(i::p1++(j::p2++B))).Perm (A++(p1++p2++B)++[i,j]):=by
 have h1:(A++(i::p1++(j::p2++B))).Perm (A++(p1++(j::p2++B))++[i]):=vZ;refine h1.trans ?_;have h2:((A++p1)++(j::p2++B)).Perm ((A++p1)++(p2++B)++[j]):=vZ;have h3:=h2.append_right [i];simp only[bP] at h3 ⊢;refine h3.trans (pW _ (pW _ (pW _ (pW _ ?_))));exact List.Perm.swap _ _ _
def ReplR(fl:Prop)(c:TC)(xb:Nat)(lo:Nat)(w:World)(e:TE)(v:NV)(z:Nat)(d:Nat)(pg:List UInt32)(m:List Pr)(r:Value)(w':World):Prop :=
 ∃e' new,c.ed xb w' e'/\(∀x∈EF xb e',x∈EF xb e∨w.heap.size<=x)/\Chg (v.b::(c.F++EF xb e)) w w'/\Stp c.n e e' new [] /\
  ((r=.int .i64 70/\nw c.n e'.s.P/\new.length<=1) ∨
   (r=.int .i64 0/\new.length<=2/\∃n' pg' kv iv,CT e'.s.V (d+1) n' pg' m/\pg'.Perm (pg++new)/\cnZ n'<=z+66/\(fl->jM n')/\c.has xb e' lo w' ⟨v.b,v.p,kv,iv⟩ n'))
theorem n1(c:TC)(xb:Nat)(w:World)(e:TE)(v u:NV)(lo d:Nat)(K1 K2:List Bs)(A B:List Kd)(id0:UInt32)(n:Cn)(pg:List UInt32)(m:List Pr)
  (h:c.ed xb w e) (hv:c.has xb e lo w v (.br (K1++K2) (bs A++id0::bs B))) (hu:c.has xb e lo w u n) (hf:∀x∈c.F,x<lo)
  (hole:Hole e.s.V d K1 K2 A B m) (hct:CT e.s.V d n pg m) (hm:m≠[]) (hfull:jM n) (hno:wN n)
  (hw:∀x∈pgT A++(pg++pgT B),e.s.P.now.written x=true) (hml:e.made.length<=900) (hk:e.s.k+2<=40000) (hl:(bs A++id0::bs B).length<=10000) :
  Ret Tryz.prog 156 #[.pointer (some ⟨xb,0,none⟩),v.ptr,.int .i64 A.length,u.ptr] w (ReplR (K1++K2≠[]∨480<cnZ n) c xb lo w e v (cnZ (.br (K1++K2) (bs A++id0::bs B))) d (pgT A++(pg++pgT B)) (prT A++(m++prT B))):=by
 have hAK:=hole.la;have hBK:=hole.lb;have hKl:(K1++K2).length<=10000:=by
  rw[aF,cg,bY,bY] at hl;rw[aF];omega
 have hIl:(bs A++id0::bs B).length=A.length+1+B.length:=by rw[aF,cg,bY,bY];omega
 have hzn:cnZ n<=900:=by
  cases n with
  | leaf ps => exact bw hno.2 (by decide)
  | br ks ids => exact bw hno.2.2 (by decide)
 have hlo:lo<=w.heap.size:=by
  have h1:=(hv.new v.b (by simp[NV.F])).1;have h2:=hv.at_.lt v.b (by simp[NV.F]);omega
 refine enter [8] Tryz.func156 O O (al O) (zSR (za O (a6 (aa (zSR (zm O (ag O C199 (uz w u n hu.at_ (by omega)) ?_)))))));rintro _ w1 ⟨rfl,hc1⟩;refine a7 O (fN O O) (a6 ?_);have h1:=h.chg0 hc1;have hv1:=hv.still hc1;have hu1:=hu.still hc1;refine aA O (λhz=>?_) (λhz=>?_)
 ·refine zSR (zmm O ?_);have hz4:cnZ n<=480:=by omega
  refine ag O C94 (oS c xb w1 e u n h1 hu1.at_ (CT.good hct hz4 hfull) hz4 (by omega) (by omega)) ?_;rintro v2 w2 hr2;obtain⟨id,er,e2,new,hv2,hto2,hst2,hres⟩:∃(id:UInt32) (er:Int) (e2:TE) (new:List UInt32),v2=.tuple #[.int .u32 id.toNat,.int .i64 er]/\c.to xb w1 w2 e e2/\Stp c.n e e2 new []/\((er=70/\nw c.n e2.s.P/\new=[])∨(er=0/\new=[id]/\e2.s.V id=cnB n)):=by
   rcases hr2 with⟨q1,q2,q3⟩|⟨id,e2,q1,q2,q3,q4⟩
   ·exact⟨0,70,e,[],q1,q3,Stp.refl _ _,.inl ⟨rfl,q2,rfl⟩⟩
   ·exact⟨id,0,e2,[id],q1,q2,q3,.inr ⟨rfl,rfl,q4⟩⟩
  clear hr2
  subst hv2;have h2:=hto2.at_;have hv2':=hv1.step hto2 hf;have hn2:=hv2'.at_;obtain⟨vb,vp,vk,vi⟩:=v;have hB2:Blk w2 vb [.bool false,vp,vk,vi]:=hn2.blk;have hi2:Sl w2 vi (bs A++id0::bs B):=hn2.i;have hlt2:=h2.lt;have hvb:vb∉c.F++EF xb e2:=hv2'.far hf vb (by simp[NV.F]);refine zm O (zx O (zx O (zaa O (zNR (zmm O (zn O O (a7 O (a8 bS O I41 O O) (a7 O (aD aZ O O (hB2.c O)) (ag O C200 (qF w2 vi _ hi2 (by omega)) ?_)))))))));rintro v3 w3 ⟨ho3,hin3,hc3⟩;refine zn O O (a7 O (a8 bS O I41 O O) ?_);have hB3:=hB2.chg0 hc3;have hob1:=ho3.sl.form rfl;obtain⟨p3,c3,rfl⟩:=hob1;have hin3':=hin3.ge;have hlt2':=hB2.lt;have hb3:∀x∈ay (.slice p3 (bs A++id0::bs B).length c3),x≠vb:=λx hx=>by have:=hin3' x hx;omega
  refine aQ O (bJ I41 O O (hB3) O O ((by decide:3<4)) O (rfl)) ?_;rintro w4 ⟨hB4,hc4,hs4⟩;refine zNR (zm O (zn O O (a7 O (a8 bS O I41 O O) ?_)));replace hB4:Blk w4 vb [.bool false,vp,vk,.slice p3 (bs A++id0::bs B).length c3]:=hB4;have ho4:=ho3.mod hc4 (λx hx hh=>by simp at hh;exact hb3 x hx hh);refine a7 O (aD aZ O O (hB4.c O)) (zmm O (bD O (aS (A.length) aZ I25 O (ho4.sl) O O (by first|rfl|omega) (by omega)) ?_));rintro _ ⟨bi,oi,rfl,hei,hbi⟩;refine aQ O (bU (a:=id) I25 O (ho4) O (hei) O O (by omega)) ?_;rintro w5 ⟨ho5,hc5,hs5⟩;refine zNR (zma O (a6 (zrt ?_)));rw[<-bY A,DV] at ho5;have hl5:(bs A++id0::bs B).length=(bs A++id::bs B).length:=by simp
  rw[hl5] at ho5 hc5;have hc5':Chg (ay (.slice p3 (bs A++id0::bs B).length c3)) w4 w5:=by rw[hl5];exact hc5
  have hc23:Chg [vb] w2 w3:=hc3.mono (by simp);have k2:=hto2.chg.1;have k1:=hc1.1;have k3:=hc3.1;have k4:=hc4.1;have hc25:Chg [vb] w2 w5:=(hc23.tr hc4).trans hc5' (λ_ hx _=>hx) (λx hx hl=>by have:=hin3' x hx;omega);have hw0:=h.w0lo hf;have hlob:=(hv2'.new vb (by simp[NV.F])).1;have h5:c.ed xb w5 e2:=h2.chg hc25 (λx hx hh=>by simp at hh;subst hh;exact hvb hx) (λx hx=>by simp at hx;subst hx;omega);have hB5:=hB4.chg hc5' (λhh=>hb3 vb hh O);rw[hl5] at hB5;have hnp:∀x∈ay vp,x≠vb:=λx hx=>hn2.ap x (cL _ hx);have hnk:∀x∈ay vk,x≠vb:=λx hx=>hn2.ap x (cf _ (cL _ hx));have hn5:NAt w5 ⟨vb,vp,vk,.slice p3 (bs A++id::bs B).length c3⟩ (.br (K1++K2) (bs A++id::bs B)):=⟨hB5,hn2.p.mod hc25 (λx hx hh=>by simp at hh;exact hnp x hx hh),hn2.k.mod hc25 (λx hx hh=>by simp at hh;exact hnk x hx hh),ho5.sl,λx hx=>by
   rcases List.mem_append.1 hx with hx|hx
   ·exact hnp x hx
   ·rcases List.mem_append.1 hx with hx|hx
    ·exact hnk x hx
    ·have hx:x∈ay (.slice p3 (bs A++id::bs B).length c3):=hx;rw[<-hl5] at hx;exact hb3 x hx⟩
  have hhas:c.has xb e2 lo w5 ⟨vb,vp,vk,.slice p3 (bs A++id::bs B).length c3⟩ (.br (K1++K2) (bs A++id::bs B)):=⟨hn5,λx hx=>by
   have hx:x∈vb::(ay vp++(ay vk++ay (.slice p3 (bs A++id::bs B).length c3))):=hx;rw[<-hl5] at hx;simp only[bZ,fX] at hx;rcases hx with rfl|hx|hx|hx
   ·exact hv2'.new _ (by simp[NV.F])
   ·exact hv2'.new _ (by simp[NV.F,hx])
   ·exact hv2'.new _ (by simp[NV.F,hx])
   ·have:=hin3' x hx
    exact⟨by omega,λhh=>by have:=hlt2 x (cf _ hh);omega⟩⟩
  have hgrow:∀x∈EF xb e2,x∈EF xb e∨w.heap.size<=x:=λx hx=>(hto2.grow x hx).imp (λq=>q) (λq=>by omega);have hchg:Chg (vb::(c.F++EF xb e)) w w5:=((hc1.mono (by simp)).tr (hto2.chg.mono (λx hx _=>bN _ hx))).tr (hc25.mono (λx hx _=>by simp at hx;subst hx;exact cM));refine⟨e2,new,h5,hgrow,hchg,hst2,?_⟩;rcases hres with⟨rfl,q2,rfl⟩|⟨rfl,rfl,q4⟩
  ·exact .inl ⟨rfl,q2,by simp⟩
  ·refine .inr ⟨rfl,by simp,_,_,_,_,?_,vZ,?_,?_,hhas⟩
   ·have hold:=hst2.ext.old;exact(hole.mono (λy hy=>hold y (hw y (by rcases List.mem_append.1 hy with q|q <;> simp[q])))).fill ((hct.mono (λy hy=>hold y (hw y (by simp[hy])))).saved hz4 hfull q4) hm
   ·show brZ _ _<=brZ _ _+66;rw[Ia K1 K2 _ _ id id0];omega
   ·intro g;exact g.elim (λg=>g) (λg=>by omega)
 ·refine zKR (zm O ?_);have hz4:480<cnZ n:=by omega
  refine ag O C201 (Fv w1 u n hu1.at_ hno hz4) ?_;rintro _ w2 ⟨q,u1,u2,hq1,hq2,hq3,rfl,hp1,hp2,hc2⟩;refine zm O (zx O (zx O (zx O (zaa O (za O (zNR (zmm O ?_)))))));have hob2:=hct.cuts hq1 hq2;obtain⟨pg1,pg2,m1,m2,rfl,rfl,hct1,hct2,hm1,hm2,hbl,hab,hko,hf1,hf2⟩:=hob2;have hz1:cnZ (wK n q)<=480:=bw (Nat.le_max_left _ _) hq3;have hz2:cnZ (uf n q)<=480:=bw (Nat.le_max_right _ _) hq3;have hob3:∃key,key=xx n q:=⟨_,rfl⟩
  obtain⟨key,hkey⟩:=hob3;rw[<-hkey];rw[<-hkey] at hbl hab hko;have k1:=hc1.1;have k2:=hc2.1;have h2:=h1.chg0 hc2;have hv2:=hv1.still hc2;have hlt1:=h1.lt;have hu2:c.has xb e lo w2 u2 (uf n q):=⟨hp2.at_,λx hx=>by
   rcases hp2.sub x hx with g|g
   ·exact hu1.new x g
   ·exact⟨by omega,λhh=>by have:=hlt1 x (cf _ hh);omega⟩⟩
  have hold1:∀x∈pg1,e.s.P.now.written x=true:=λx hx=>hw x (by simp[hx]);have hold2:∀x∈pg2,e.s.P.now.written x=true:=λx hx=>hw x (by simp[hx]);have hc02:=hc1.tr hc2;refine ag O C94 (oS c xb w2 e u1 _ h2 hp1.at_ (CT.good hct1 hz1 hf1) hz1 (by omega) (by omega)) ?_;rintro v3 w3 hr3;rcases hr3 with⟨rfl,g2,g3⟩|⟨id1,e3,rfl,hto3,hst3,hV3⟩
  ·refine zm O (zx O (zx O (zaa O (a6 (aa (zSR (zmv O (bV O O) (a6 (bI O (by decide) ?_)))))))));refine zSR (zma O (a6 (zrt ?_)));exact⟨e,[],g3.at_,λx hx=>(g3.grow x hx).imp (λg=>g) (λg=>by omega),(hc02.mono (by simp)).tr (g3.chg.mono (λx hx _=>bN _ hx)),Stp.refl _ _,.inl ⟨rfl,g2,by simp⟩⟩
  ·refine zm O (zx O (zx O (zaa O (a6 (aa (zSR (zmv O (bV O O) (a6 (aJ O (λh=>h O) ?_)))))))));refine zKR (zmm O ?_);have hu3:=hu2.step hto3 hf;have hv3:=hv2.step hto3 hf;have hml3:e3.made.length<=901:=by rw[hst3.made,aF];simp;omega
   have hk3:e3.s.k=e.s.k+1:=hst3.k;have hold3:=hst3.ext.old;refine ag O C94 (oS c xb w3 e3 u2 _ hto3.at_ hu3.at_ (CT.good hct2 hz2 hf2) hz2 (by omega) (by omega)) ?_;rintro v4 w4 hr4;obtain⟨id2,er,e4,new,hv4,hto4,hst4,hres⟩:∃(id:UInt32) (er:Int) (e4:TE) (new:List UInt32),v4=.tuple #[.int .u32 id.toNat,.int .i64 er]/\c.to xb w3 w4 e3 e4/\Stp c.n e3 e4 new []/\((er=70/\nw c.n e4.s.P/\new=[])∨(er=0/\new=[id]/\e4.s.V id=cnB (uf n q))):=by
    rcases hr4 with⟨g1,g2,g3⟩|⟨id,e4,g1,g2,g3,g4⟩
    ·exact⟨0,70,e3,[],g1,g3,Stp.refl _ _,.inl ⟨rfl,g2,rfl⟩⟩
    ·exact⟨id,0,e4,[id],g1,g2,g3,.inr ⟨rfl,rfl,g4⟩⟩
   clear hr4
   subst hv4;have h4:=hto4.at_;have hv4':=hv3.step hto4 hf;have hn4:=hv4'.at_;obtain⟨vb,vp,vk,vi⟩:=v;have hB4:Blk w4 vb [.bool false,vp,vk,vi]:=hn4.blk;have hi4:Sl w4 vi (bs A++id0::bs B):=hn4.i;have hk4:Sl w4 vk (K1++K2):=hn4.k;have hlt4:=h4.lt;have hbl4:=hB4.lt;have hvb:vb∉c.F++EF xb e4:=hv4'.far hf vb (by simp[NV.F]);have hnp:∀x∈ay vp,x≠vb:=λx hx=>hn4.ap x (cL _ hx);have hni:∀x∈ay vi,x≠vb:=λx hx=>hn4.ap x (cf _ (cf _ hx));refine zm O (zx O (zx O (zaa O (zNR (zmm O (zn O O (a7 O (a8 bS O I70 O O) (a7 O (aD cO O O (hB4.c O)) (ag O C203 (x9 w4 vk _ hk4 (by omega)) ?_)))))))));rintro v5 w5 ⟨ho5,hin5,hc5⟩;refine zmm O ?_;have hin5':=hin5.ge;have k5:=hc5.1;have hob4:=ho5.sl.form rfl;obtain⟨p5,c5,rfl⟩:=hob4;refine aY O (qU key cO I9 O O O O O (by decide)) ?_;rintro _ w6 ⟨b6,rfl,hB6,hn6,hc6,hl6⟩;have hlt5:=ho5.sl.lt;refine ag O C202 (Du w6 p5 c5 b6 (K1++K2) key A.length (ho5.mod0 hc6) hB6 (λhh=>by have:=hlt5 b6 hh;omega) (by rw[aF];omega) (by omega)) ?_;rintro v7 w7 ⟨ho7,hin7,hc7⟩;refine zn O O (a7 O (a8 bS O I70 O O) ?_);have k6:=hc6.1;rw[cP hAK.symm,ej hAK.symm] at ho7;have hin7':∀x∈ay v7,w4.heap.size<=x:=λx hx=>(hin7 x hx).elim (λg=>hin5' x g) (λg=>by omega);have hc47:=(hc5.tr hc6).t0 hc7 (λx hx=>hin5' x hx);have hob5:=ho7.sl.form rfl;obtain⟨p7,c7,rfl⟩:=hob5;have hB7:=hB4.chg0 hc47;refine aQ O (bJ I70 O O (hB7) O O ((by decide:2<4)) O (rfl)) ?_;rintro w8 ⟨hB8,hc8,hs8⟩;refine zNR (zmm O (zn O O (a7 O (a8 bS O I41 O O) ?_)));replace hB8:Blk w8 vb [.bool false,vp,.slice p7 (K1++key::K2).length c7,vi]:=hB8;have hi8:=(hi4.mod0 hc47).mod hc8 (λx hx hh=>by simp at hh;exact hni x hx hh);have ho8:=ho7.mod hc8 (λx hx hh=>by simp at hh;have:=hin7' x hx;omega);refine a7 O (aD aZ O O (hB8.c O)) (ag O C200 (qF w8 vi _ hi8 (by omega)) ?_);rintro v9 w9 ⟨ho9,hin9,hc9⟩;refine zmv O (aC O O (by omega)) (zm O ?_);have hin9':=hin9.ge;have k47:=hc47.1;have k8:=hc8.1;have k9:=hc9.1;have hob6:=ho9.sl.form rfl;obtain⟨p9,c9,rfl⟩:=hob6;refine aY O (qU id2 aZ I25 O O O O O (by decide)) ?_;rintro _ w10 ⟨b10,rfl,hB10,hn10,hc10,hl10⟩;have hlt9:=ho9.sl.lt;refine ag O C204 (Dt w10 p9 c9 b10 (bs A++id0::bs B) id2 (A.length+1) (ho9.mod0 hc10) hB10 (λhh=>by have:=hlt9 b10 hh;omega) (by omega) (by omega)) ?_;rintro v11 w11 ⟨ho11,hin11,hc11⟩;refine zn O O (a7 O (a8 bS O I41 O O) ?_);have k10:=hc10.1;have htk:(bs A++id0::bs B).take (A.length+1)=bs A++[id0]:=by rw[<-bY A];exact AX _ _ _
   have hdr:(bs A++id0::bs B).drop (A.length+1)=bs B:=by rw[<-bY A];exact oh _ _ _
   rw[htk,hdr,bP,gV] at ho11;have hin11':∀x∈ay v11,w8.heap.size<=x:=λx hx=>(hin11 x hx).elim (λg=>hin9' x g) (λg=>by omega);have hc811:=(hc9.tr hc10).t0 hc11 (λx hx=>hin9' x hx);have hob7:=ho11.sl.form rfl;obtain⟨p11,c11,rfl⟩:=hob7;have hB11:=hB8.chg0 hc811;refine aQ O (bJ I41 O O (hB11) O O ((by decide:3<4)) O (rfl)) ?_;rintro w12 ⟨hB12,hc12,hs12⟩;refine zNR (zm O (zn O O (a7 O (a8 bS O I41 O O) ?_)));replace hB12:Blk w12 vb [.bool false,vp,.slice p7 (K1++key::K2).length c7,.slice p11 (bs A++id0::id2::bs B).length c11]:=hB12;have ho12:=ho11.mod hc12 (λx hx hh=>by simp at hh;have:=hin11' x hx;omega);refine a7 O (aD aZ O O (hB12.c O)) (zmm O (bD O (aS (A.length) aZ I25 O (ho12.sl) O O (by first|rfl|omega) (by rw[aF,bY,cg];omega)) ?_));rintro _ ⟨bi,oi,rfl,hei,hbi⟩;refine aQ O (bU (a:=id1) I25 O (ho12) O (hei) O O (by rw[aF,bY,cg];omega)) ?_;rintro w13 ⟨ho13,hc13,hs13⟩;refine zNR (zma O (a6 (zrf ?_)));rw[<-bY A,DV] at ho13;have hl13:(bs A++id0::id2::bs B).length=(bs A++id1::id2::bs B).length:=by simp
   have hb13:∀x∈ay (.slice p11 (bs A++id0::id2::bs B).length c11),x≠vb:=λx hx=>by have:=hin11' x hx;omega
   have hb7:∀x∈ay (.slice p7 (K1++key::K2).length c7),x≠vb:=λx hx=>by have:=hin7' x hx;omega
   have hc813:Chg [vb] w8 w13:=((hc811.mono (by simp)).tr hc12).trans hc13 (λ_ hx _=>hx) (λx hx hl=>by have:=hin11' x hx;omega);have hc413:Chg [vb] w4 w13:=((hc47.mono (by simp)).tr hc8).tr hc813;have hw0:=h.w0lo hf;have hlob:=(hv4'.new vb (by simp[NV.F])).1;have h13:c.ed xb w13 e4:=h4.chg hc413 (λx hx hh=>by simp at hh;subst hh;exact hvb hx) (λx hx=>by simp at hx;subst hx;omega);have hB13:=hB12.chg hc13 (λhh=>hb13 vb hh O);rw[hl13] at hB13 ho13;have hp4:Sl w4 vp ([]:List Pr):=hn4.p;have hk13:Sl w13 (.slice p7 (K1++key::K2).length c7) (K1++key::K2):=ho8.sl.mod hc813 (λx hx hh=>by simp at hh;exact hb7 x hx hh);have hn13:NAt w13 ⟨vb,vp,.slice p7 (K1++key::K2).length c7,.slice p11 (bs A++id1::id2::bs B).length c11⟩ (.br (K1++key::K2) (bs A++id1::id2::bs B)):=⟨hB13,hp4.mod hc413 (λx hx hh=>by simp at hh;exact hnp x hx hh),hk13,ho13.sl,λx hx=>by
    rcases List.mem_append.1 hx with hx|hx
    ·exact hnp x hx
    ·rcases List.mem_append.1 hx with hx|hx
     ·exact hb7 x hx
     ·have hx:x∈ay (.slice p11 (bs A++id1::id2::bs B).length c11):=hx;rw[<-hl13] at hx;exact hb13 x hx⟩
   have hhas:c.has xb e4 lo w13 ⟨vb,vp,.slice p7 (K1++key::K2).length c7,.slice p11 (bs A++id1::id2::bs B).length c11⟩ (.br (K1++key::K2) (bs A++id1::id2::bs B)):=⟨hn13,λx hx=>by
    have hx:x∈vb::(ay vp++(ay (.slice p7 (K1++key::K2).length c7)++ay (.slice p11 (bs A++id1::id2::bs B).length c11))):=hx;rw[<-hl13] at hx;simp only[bZ,fX] at hx;rcases hx with rfl|hx|hx|hx
    ·exact hv4'.new _ (by simp[NV.F])
    ·exact hv4'.new _ (by simp[NV.F,hx])
    ·have:=hin7' x hx
     exact⟨by omega,λhh=>by have:=hlt4 x (cf _ hh);omega⟩
    ·have:=hin11' x hx
     exact⟨by omega,λhh=>by have:=hlt4 x (cf _ hh);omega⟩⟩
   have k3:=hto3.chg.1;have k4:=hto4.chg.1;have hto:=hto3.trans hto4;have hgrow:∀x∈EF xb e4,x∈EF xb e∨w.heap.size<=x:=λx hx=>(hto.grow x hx).imp (λg=>g) (λg=>by omega);have hchg:Chg (vb::(c.F++EF xb e)) w w13:=((hc02.mono (by simp)).tr (hto.chg.mono (λx hx _=>bN _ hx))).tr (hc413.mono (λx hx _=>by simp at hx;subst hx;exact cM));have hst:=hst3.trans hst4;rw[cE] at hst;refine⟨e4,[id1]++new,h13,hgrow,hchg,hst,?_⟩;rcases hres with⟨rfl,g2,rfl⟩|⟨rfl,rfl,g4⟩
   ·exact .inl ⟨rfl,g2,by simp⟩
   ·refine .inr ⟨rfl,by simp,_,_,_,_,?_,He,?_,?_,hhas⟩
    ·have hold:=hst.ext.old;have hw3:e3.s.P.now.written id1=true:=(hst3.ext.mem (by simp)).2;have hV1:e4.s.V id1=cnB (wK n q):=by rw[hst4.ext.old id1 hw3];exact hV3
     have t1:=(hct1.mono (λy hy=>hold y (hold1 y hy))).saved hz1 hf1 hV1;have t2:=(hct2.mono (λy hy=>hold y (hold2 y hy))).saved hz2 hf2 g4;have hh:=hole.mono (λy hy=>hold y (hw y (by rcases List.mem_append.1 hy with g|g <;> simp[g])))
     exact hh.fill2 t1 t2 hm1 hm2 hko hbl hab
    ·show brZ _ _<=brZ _ _+66;rw[yH K1 K2 _ _ id1 id0 id2 key]
     have:=hko.2;omega
    ·intro _;simp[jM]
theorem zO{id:UInt32}{A B pg pg1 new out pg4 new2:List UInt32}(h1:(pg++out).Perm (pg1++new))(h2:pg4.Perm (A++(pg++B)++new2)):(pg4++([id]++out)).Perm (id::(A++(pg1++B))++(new++new2)):=by
 rw[oK] at h1 h2 ⊢;intro x;have h1:=h1 x;have h2:=h2 x;simp only[sD,uQ,uP] at h1 h2 ⊢;omega
theorem Hole.put{V:UInt32->Bs}{d:Nat}{K1 K2:List Bs}{A B:List Kd}{m:List Pr}{p:Pr}(h:Hole V d K1 K2 A B m)(h1:∀k∈K1,ltB p.1 k=false)(h2:∀k∈K2,ltB p.1 k=true):Hole V d K1 K2 A B (g0 m p) :=
 h.set (λk hk q hq=>(rC hq).elim (λe=>e▸h1 k hk) (λg=>h.seps.above h.lm k hk q g)) (λk hk q hq=>(rC hq).elim (λe=>e▸h2 k (List.mem_of_mem_head? hk)) (λg=>h.seps.below h.lm k hk q g))
theorem put_ok(c:TC)(xb:Nat)(p:Pr)(hp:oc p):∀(d:Nat) (w:World) (e:TE) (id:UInt32) (pg:List UInt32) (m:List Pr) (deep:Nat),c.ed xb w e->isT e.s.V d id pg m->(∀x∈pg,e.s.P.now.written x=true)->deep+d<=40->e.made.length+2*d<=900->e.gone.length+d<=900->e.s.k+2*d<=40000 ->
  Ret Tryz.prog 97 #[.pointer (some ⟨xb,0,none⟩),.int .u32 id.toNat,.agg #[str p.1,str p.2],.int .i64 deep] w λr w'=>∃e' new out,c.to xb w w' e e'/\Stp c.n e e' new out/\new.length<=2*d/\out.length<=d+1 /\
   ((∃q,r=.tuple #[q,.int .i64 70]/\nw c.n e'.s.P)∨∃v n' pg',r=.tuple #[v.ptr,.int .i64 0]/\c.has xb e' w.heap.size w' v n'/\CT e'.s.V d n' pg' (g0 m p)/\(pg'++out).Perm (pg++new)/\wN n'/\jM n'):=by
 intro d
 induction d with
 | zero =>
  intro w e id pg m deep h ht hw hd hml hgl hk;obtain⟨rfl,hlf,hV⟩:=ht;have hps:=hlf.1;have hsz:cT m<=480:=hlf.2;have hll:=hlf.few;refine enter [8,9] Tryz.func97 O O (al O) (zSR (aY O (cZ (l:=[str p.1,str p.2]) O O) ?_));rintro _ w1 ⟨tb,rfl,hnt,hT1,hc1,hl1⟩;refine zaa O (zNR (zmm O (zm O ?_)));have h1:=h.chg0 hc1;have k1:=hc1.1;refine ag O IE (ox c xb w1 e id (.leaf m) deep h1 (by omega) (hw id (by simp)) hV hlf (by omega)) ?_;rintro _ w2 ⟨v,e2,rfl,hto2,hst2,hs2,hh2⟩;refine zm O (zx O (zx O (zaa O (a6 (aa (zSR (zmv O (bV O O) (a6 (aJ O (λh=>h O) ?_)))))))));refine zKN (aa (zSR (zm O (zn O O (a7 O (a8 bS O I4 O O) ?_)))));have hlt1:=h1.lt;have htF:tb∉c.F++EF xb e:=λhh=>by have:=h.lt tb hh;omega
  have hT2:=hT1.chg hto2.chg htF;have h2:=hto2.at_;have hlt2:=h2.lt;have k2:=hto2.chg.1;have hn2:=hh2.at_;have hnew2:=hh2.new;obtain⟨vb,vp,vk,vi⟩:=v;have hB2:Blk w2 vb [.bool true,vp,vk,vi]:=hn2.blk;have hp2:Sl w2 vp m:=hn2.p;have hbl2:=hB2.lt;have htv:tb≠vb:=λe=>by have:=(hnew2 vb (by simp[NV.F])).1;omega
  have hvb:vb∉c.F++EF xb e2:=λhh=>by
   rcases List.mem_append.1 hh with hh|hh
   ·have:=h.pg.lt vb hh;have:=(hnew2 vb (by simp[NV.F])).1;omega
   ·exact(hnew2 vb (by simp[NV.F])).2 hh
  refine a7 O (aD uU4 O O (hB2.c O)) (a6 (aW (rfl) (zSR (zmv O (a8 iM O I9 O O) (a7 O (aD uU9 O O (hT2.c O)) (ag O C61 (A2 w2 ⟨vb,vp,vk,vi⟩ m p.1 hn2 hps.2 (by omega)) ?_))))));rintro _ w3 ⟨rfl,hc3⟩;refine zm O (zx O (zx O (zaa O (zNR (zmm O (zn O O (a7 O (a8 bS O I33 O O) ?_)))))));have hB3:=hB2.chg0 hc3;have hT3:=hT2.chg0 hc3;refine a7 O (aD df O O (hB3.c O)) (ag O C154 (xa w3 vp m (hp2.mod0 hc3) (by omega)) ?_);rintro v4 w4 ⟨ho4,hi4,hc4⟩;refine zn O O (a7 O (a8 bS O I33 O O) ?_);have hi4':=hi4.ge;have k3:=hc3.1;have k4:=hc4.1;have hob1:=ho4.sl.form rfl;obtain⟨p4,c4,rfl⟩:=hob1;have hB4:=hB3.chg0 hc4;have hT4:=hT3.chg0 hc4;refine aQ O (bJ I33 O O (hB4) O O ((by decide:1<4)) O (rfl)) ?_;rintro w5 ⟨hB5,hc5,hs5⟩;refine a6 (aa (zSR (zm O (a6 ?_))));replace hB5:Blk w5 vb [.bool true,.slice p4 m.length c4,vk,vi]:=hB5;have hb4:∀x∈ay (.slice p4 m.length c4),x≠vb:=λx hx=>by have:=hi4' x hx;omega
  have hbt:tb∉ay (.slice p4 m.length c4):=λhx=>by have:=hi4' tb hx;have:=hT2.lt;omega
  have ho5:=ho4.mod hc5 (λx hx hh=>by simp at hh;exact hb4 x hx hh);have hT5:=hT4.chg hc5 (by simp;exact htv);have hw0:c.w0.heap.size<=w.heap.size:=h.pg.1.2.1.1;have hnv:=(hnew2 vb (by simp[NV.F])).1;have hok:fU (g0 m p):=putP_ok hps hp;have hz5:cT (g0 m p)<=694:=by have:=F2 (p:=p) hps.2;have:=hp.1.2;have:=hp.2;omega
  have hnk:∀x∈ay vk,x≠vb:=λx hx=>hn2.ap x (cf _ (cL _ hx));have hni:∀x∈ay vi,x≠vb:=λx hx=>hn2.ap x (cf _ (cf _ hx));have hfin:∀{w':World} {p':Option Addr} {c':Nat},Blk w' vb [.bool true,.slice p' (g0 m p).length c',vk,vi]->Own w' (.slice p' (g0 m p).length c') (g0 m p)->(∀x∈ay (.slice p' (g0 m p).length c'),w2.heap.size<=x/\x≠vb)->Chg [vb] w2 w' ->
    ∃e' new out,c.to xb w w' e e'/\Stp c.n e e' new out/\new.length<=2*0/\out.length<=0+1/\((∃q,Value.tuple #[.pointer (some ⟨vb,0,none⟩),.int .i64 0]=.tuple #[q,.int .i64 70]/\nw c.n e'.s.P)∨∃v n' pg',Value.tuple #[.pointer (some ⟨vb,0,none⟩),.int .i64 0]=.tuple #[v.ptr,.int .i64 0]/\c.has xb e' w.heap.size w' v n'/\CT e'.s.V 0 n' pg' (g0 m p)/\(pg'++out).Perm ([id]++new)/\wN n'/\jM n'):=λ{w' p' c'} hB ho hnw hc=>by
   have hed:c.ed xb w' e2:=h2.chg hc (λx hx hh=>by simp at hh;subst hh;exact hvb hx) (λx hx=>by simp at hx;subst hx;omega);have hto:c.to xb w w' e e2:=⟨hed,λx hx=>(hto2.grow x hx).imp (λq=>q) (λq=>by omega),(hc1.mono (by simp)).tr (hto2.chg.trans hc (λ_ hx _=>hx) (λx hx hl=>by simp at hx;subst hx;omega))⟩
   refine⟨e2,[],[id],hto,hst2,eh _,aM _,.inr ⟨⟨vb,.slice p' (g0 m p).length c',vk,vi⟩,.leaf (g0 m p),[],rfl,⟨⟨hB,ho.sl,hn2.k.mod hc (λx hx hh=>by simp at hh;exact hnk x hx hh),hn2.i.mod hc (λx hx hh=>by simp at hh;exact hni x hx hh),λx hx=>?_⟩,λx hx=>?_⟩,⟨rfl,rfl,hok⟩,by simp,⟨hok,hz5⟩,trivial⟩⟩
   ·rcases List.mem_append.1 hx with hx|hx
    ·exact(hnw x hx).2
    ·rcases List.mem_append.1 hx with hx|hx
     ·exact hnk x hx
     ·exact hni x hx
   ·simp only[NV.F,bZ,fX] at hx;rcases hx with rfl|hx|hx|hx
    ·exact⟨by omega,(hnew2 _ (by simp[NV.F])).2⟩
    ·have:=(hnw x hx).1
     exact⟨by omega,λhh=>by have:=hlt2 x (cf _ hh);omega⟩
    ·have:=hnew2 x (by simp[NV.F,hx]);exact⟨by omega,this.2⟩
    ·have:=hnew2 x (by simp[NV.F,hx]);exact⟨by omega,this.2⟩
  have hc24:Chg [vb] w2 w4:=(hc3.tr hc4).mono (by simp);have hTa:At w5 tb 0 [str p.1,str p.2]:=hT5.at (by rfl)
  cases hhas:fA m p.1 with
  | true =>
   have hpl:=iH hhas
   skip
   refine aW (rfl) ?_;refine aH bx (.pure 0 (.pure 1 (.pure 2 (.read 3 (.pure 4 (.read 5 (.pure 6 (.eff 7 [] .nil)))))))) (by kernel_rfl) ?_;refine ym O (yn O (yp O (λ_=>(a8 bS O I33 O O)) ?_));refine aG O O O df O O (hB5.c O) (ym O (dE O O O (λw'=>At w' tb 0 [str p.1,str p.2]) (hTa) (λw1 h1=>cK iM O I49 O h1 O) ?_));refine yex O (aS (dV m p.1) df I49 O (ho5.sl) O O (by first|rfl|omega) (hpl)) ?_;rintro _ ⟨bi,oi,rfl,hei,hbi⟩;refine dx O (bU (a:=p) I49 O (ho5) O (hei) O O (hpl)) ?_;rintro w6 ⟨ho6,hc6,hs6⟩;refine⟨trivial,?_⟩;refine zPR (zma O (za O (a6 (zrt ?_))));have hc6:Chg (ay (.slice p4 m.length c4)) w5 w6:=hc6;have hB6:=hB5.chg hc6 (λhh=>hb4 vb hh O);have hle:m.length=(g0 m p).length:=by rw[vR hps.2 hhas,gR]
   rw[<-vR hps.2 hhas] at ho6;have hnw:∀x∈ay (.slice p4 m.length c4),w2.heap.size<=x/\x≠vb:=λx hx=>⟨by have:=hi4' x hx;omega,hb4 x hx⟩
   rw[hle] at hB6 ho6 hnw;exact hfin hB6 ho6 hnw ((hc24.tr hc5).trans hc6 (λ_ hx _=>hx) (λx hx hl=>by have:=hi4' x hx;omega))
  | false =>
   have hpl:=uB m p.1
   skip
   refine aI (rfl) ?_;refine aH bx (.pure 0 (.pure 1 (.pure 2 (.pure 3 (.read 4 (.pure 5 (.read 6 (.eff 7 [4] (.eff 8 [] (.pure 9 (.pure 10 (.eff 11 [] .nil)))))))))))) (by kernel_rfl) ?_;refine ym O (ym O (yn O (yp O (λ_=>(a8 bS O I33 O O)) ?_)));refine aG O O O df O O (hB5.c O) (ym O (dE O O O (λw'=>At w' tb 0 [str p.1,str p.2]) (hTa) (λw1 h1=>cK iM O I49 O h1 O) ?_));refine fj O (qU p df I49 O O O O O (by decide)) ?_;rintro _ w6 ⟨b6,rfl,hB6,hn6,hc6,hl6⟩;have hc6:Chg [] w5 w6:=(drw w5).tr hc6;refine⟨⟨(hB5.chg0 hc6).c rfl,trivial⟩,?_⟩;have hlt5:=ho5.sl.lt;refine ycl O C155 (Dv w6 p4 c4 b6 m p (dV m p.1) (ho5.mod0 hc6) hB6 (λhh=>by have:=hlt5 b6 hh;have:=hn6;simp at this;omega) hpl (by omega)) ?_;rintro v7 w7 ⟨ho7,hi7,hc7⟩;refine⟨trivial,?_⟩;refine yn O (yp O (λ_=>(a8 bS O I33 O O)) ?_);have k5:=hc5.1;have k6:=hc6.1;rw[<-nY hps.2 hhas] at ho7;have hi7':∀x∈ay v7,w3.heap.size<=x/\x≠vb:=λx hx=>by
    rcases hi7 x hx with g|g
    ·have:=hi4' x g;exact⟨by omega,hb4 x g⟩
    ·exact⟨by omega,by omega⟩
   have hob2:=ho7.sl.form rfl;obtain⟨p7,c7,rfl⟩:=hob2;have hB7:=(hB5.chg0 hc6).chg hc7 (λhh=>hb4 vb hh O);refine dx O (bJ I33 O O (hB7) O O ((by decide:1<4)) O (rfl)) ?_;rintro w8 ⟨hB8,hc8,hs8⟩;refine⟨trivial,?_⟩;refine zPR (zma O (za O (a6 (zrt ?_))));replace hB8:Blk w8 vb [.bool true,.slice p7 (g0 m p).length c7,vk,vi]:=hB8;have ho8:=ho7.mod hc8 (λx hx hh=>by simp at hh;exact(hi7' x hx).2 hh);exact hfin hB8 ho8 (λx hx=>by have:=hi7' x hx;exact⟨by omega,this.2⟩) ((((hc24.tr hc5).tr (hc6.mono (by simp))).trans hc7 (λ_ hx _=>hx) (λx hx hl=>by have:=hi4' x hx;omega)).tr hc8)
 | succ d ih =>
  intro w e id pg m deep h ht hw hd hml hgl hk;have hob3:=mE ht;obtain⟨n,pg0,rfl,hct,hV,hz,hf⟩:=hob3;have hg:=CT.good hct hz hf;cases n with
  | leaf ps => exact hct.elim
  | br ks ids =>
  have hgb:brOk ks ids:=hg;have hfew:=hgb.few;refine enter [8,9] Tryz.func97 O O (al O) (zSR (aY O (cZ (l:=[str p.1,str p.2]) O O) ?_));rintro _ w1 ⟨tb,rfl,hnt,hT1,hc1,hl1⟩;refine zaa O (zNR (zmm O (zm O ?_)));have h1:=h.chg0 hc1;have k1:=hc1.1;refine ag O IE (ox c xb w1 e id (.br ks ids) deep h1 (by omega) (hw id (by simp)) hV hg (by omega)) ?_;rintro _ w2 ⟨v,e2,rfl,hto2,hst2,hs2,hh2⟩;refine zm O (zx O (zx O (zaa O (a6 (aa (zSR (zmv O (bV O O) (a6 (aJ O (λh=>h O) ?_)))))))));refine zKN (aa (zSR (zm O (zn O O (a7 O (a8 bS O I4 O O) ?_)))));have hlt1:=h1.lt;have htF:tb∉c.F++EF xb e:=λhh=>by have:=h.lt tb hh;omega
  have hT2:=hT1.chg hto2.chg htF;have h2:=hto2.at_;have hlt2:=h2.lt;have k2:=hto2.chg.1;have hn2:=hh2.at_;have hnew2:=hh2.new;obtain⟨vb,vp,vk,vi⟩:=v;have hB2:Blk w2 vb [.bool false,vp,vk,vi]:=hn2.blk;have hi2:Sl w2 vi ids:=hn2.i;refine a7 O (aD uU4 O O (hB2.c O)) (a6 (aI (rfl) (zKR (zmv O (a8 iM O I9 O O) (a7 O (aD uU9 O O (hT2.c O)) (ag O C60 (vX w2 ⟨vb,vp,vk,vi⟩ ks ids p.1 hn2 hgb.2.2.1.2 (by omega)) ?_))))));rintro _ w3 ⟨rfl,hw3⟩;refine za O (a6 (aa ?_));subst hw3;have hob4:=hct.hole p.1;obtain⟨K1,K2,A,t,B,rfl,hpl,rfl,rfl,rfl,hole,hit,hne,hbA,hbB,hq1,hq2⟩:=hob4;rw[<-hpl,<-hole.la];obtain⟨i0,pg1,m1⟩:=t;have hAl:A.length<(bs A++i0::bs B).length:=by rw[aF,bY,cg];omega
  have hget:(bs A++i0::bs B)[A.length]?=some i0:=by rw[<-bY A];simp
  have hTa:At w2 tb 0 [str p.1,str p.2]:=hT2.at (by rfl)
  have hml2:e2.made=e.made:=by have:=hst2.made;rw[cE] at this;exact this
  have hgl2:e2.gone.length=e.gone.length+1:=by rw[hst2.gone,aF];rfl
  have hr:∀x,e2.s.P.now.written x=e.s.P.now.written x:=λx=>by rw[hs2]
  have hw1:∀x∈pg1,e.s.P.now.written x=true:=λx hx=>hw x (by simp[hx]);refine aH bx (.pure 0 (.pure 1 (.pure 2 (.pure 3 (.read 4 (.pure 5 (.pure 6 (.read 7 (.read 8 (.pure 9 (.pure 10 (.eff 11 [] (.pure 12 (.pure 13 (.pure 14 (.pure 15 (.pure 16 .nil))))))))))))))))) (by kernel_rfl) ?_;refine ym O (ym O (yn O (yp O (λ_=>(a8 bS O I41 O O)) ?_)));refine aG O O O aZ O O (hB2.c O) (ym O (yex O (aS (A.length) aZ I25 O (hi2) O O (by first|rfl|omega) (hAl)) ?_));rintro _ ⟨bi,oi,rfl,hei,hbi⟩;refine aG O O O bu O O (((hi2.at hei hget).c0 O)) (dE O O O (λw'=>At w' tb 0 [str p.1,str p.2]) (hTa) (λw1 h1=>cK iM O I49 O h1 O) ?_);refine ym O (yp O (λ_=>(aC O O (by omega))) ?_);refine ycl O C97 (ih _ e2 i0 pg1 m1 (deep+1) (h2.chg0 (drw w2)) (by rw[hs2];exact hit) (λx hx=>by rw[hr];exact hw1 x hx) (by omega) (by rw[hml2];omega) (by omega) (by rw[hs2];omega)) ?_;rintro v3 w3 ⟨e3,new,out,hto3,hst3,hnl,hol,hr3⟩;refine⟨trivial,?_⟩;replace hto3:c.to xb w2 w3 e2 e3:=hto3.pre (drw w2);have hto03:c.to xb w w3 e e3:=((hto2.trans hto3).pre hc1)
  have hst03:Stp c.n e e3 ([]++new) ([id]++out):=hst2.trans hst3;rcases hr3 with⟨q,rfl,hno3⟩|⟨u,n',pg',rfl,hu3,hct3,hperm,hcok,hcf⟩
  ·refine ym O (yx O (yx O (ya O (ya O (az (aa (zSR (zmv O (bV O O) (a6 (bI O (by decide) ?_))))))))));refine zSR (zma O (za O (a6 (zrt ?_))));exact⟨e3,new,[id]++out,hto03,hst03,by omega,by rw[aF,gB];omega,.inl ⟨_,rfl,hno3⟩⟩
  ·refine ym O (yx O (yx O (ya O (ya O (az (aa (zSR (zmv O (bV O O) (a6 (aJ O (λh=>h O) ?_))))))))));refine zKR (zmm O (zmm O (zm O ?_)));have h3:=hto3.at_;have hflo:∀x∈c.F,x<w.heap.size:=h.pg.lt;have hflo1:∀x∈c.F,x<w1.heap.size:=h1.pg.lt;have hv3:c.has xb e3 w.heap.size w3 ⟨vb,vp,vk,vi⟩ (.br (K1++K2) (bs A++i0::bs B)):=(hh2.step hto3 hflo1).lo k1;have hdw:w2.heap.size<=(({ w2 with drawn:=w2.drawn+1 }:World)).heap.size:=aM _
   have hu3':c.has xb e3 w.heap.size w3 u n':=hu3.lo (bw k1 (bw k2 hdw));have hold:∀x,e.s.P.now.written x=true->e3.s.V x=e.s.V x:=λx hx=>by rw[hst3.ext.old x (by rw[hr];exact hx),hs2]
   have hwr:∀x,e.s.P.now.written x=true->e3.s.P.now.written x=true:=λx hx=>hst3.ext.wr (by rw[hr];exact hx);have hwp:∀x∈pg',e3.s.P.now.written x=true:=λx hx=>by
    rcases List.mem_append.1 (hperm.subset (cL _ hx)) with g|g
    ·exact hwr x (hw1 x g)
    ·exact(hst3.ext.mem g).2
   have hole3:Hole e3.s.V d K1 K2 A B (g0 m1 p):=Hole.put (hole.mono (λy hy=>hold y (hw y (by rcases List.mem_append.1 hy with g|g <;> simp[g])))) hq1 hq2
   have hmk:e3.made.length<=900/\e3.s.k+2<=40000:=by
    have a1:=hst3.made;have a2:=hst3.k;have a3:e2.s.k=e.s.k:=by rw[hs2]
    rw[hml2] at a1;have a4:=congrArg List.length a1;rw[aF] at a4;omega
   have hkk:=hmk.2;have hall:∀x∈pgT A++(pg'++pgT B),e3.s.P.now.written x=true:=λx hx=>by
    rcases List.mem_append.1 hx with g|g
    ·exact hwr x (hw x (by simp[g]))
    ·rcases List.mem_append.1 g with g|g
     ·exact hwp x g
     ·exact hwr x (hw x (by simp[g]))
   refine ag O C156 (n1 c xb w3 e3 ⟨vb,vp,vk,vi⟩ u w.heap.size d K1 K2 A B i0 n' pg' (g0 m1 p) h3 hv3 hu3' hflo hole3 hct3 (putP_ne _ _) hcf hcok hall hmk.1 hkk (bw hfew.2 (by decide))) ?_;rintro v4 w4 ⟨e4,new2,h4,hgr4,hc4,hst4,hr4⟩;refine zaa O (a6 (zrf ?_));have hst04:=hst03.trans hst4;rw[dG,cE] at hst04;have hvw:w.heap.size<=vb:=(hv3.new vb (by simp[NV.F])).1;have hto04:c.to xb w w4 e e4:=⟨h4,λx hx=>by
    rcases hgr4 x hx with g|g
    ·exact hto03.grow x g
    ·exact .inr (by have:=hto03.chg.1;omega),hto03.chg.trans hc4 (λ_ hx _=>hx) (λx hx hl=>by
     rcases List.mem_cons.1 hx with g|g
     ·have g:x=vb:=g;omega
     ·rcases List.mem_append.1 g with g|g
      ·exact cL _ g
      ·rcases hto03.grow x g with g|g
       ·exact cf _ g
       ·omega)⟩
   rcases hr4 with⟨rfl,hno4,hn4⟩|⟨rfl,hn4,n4,pg4,kv,iv,hct4,hperm4,hz4,hf4,hhas4⟩
   ·exact⟨e4,new++new2,[id]++out,hto04,hst04,by rw[aF];omega,by rw[aF,gB];omega,.inl ⟨_,rfl,hno4⟩⟩
   ·refine⟨e4,new++new2,[id]++out,hto04,hst04,by rw[aF];omega,by rw[aF,gB];omega,.inr ⟨⟨vb,vp,kv,iv⟩,n4,pg4,rfl,hhas4,?_,zO hperm hperm4,hct4.ok (.inl (bw hz4 (by have:cnZ (.br (K1++K2) (bs A++i0::bs B))<=480:=hz;omega))),hf4 (.inl hgb.1)⟩⟩;rw[H7 hbA hbB];exact hct4
end Go.Proofs.YtpbfapbajmdlkaaGreat
