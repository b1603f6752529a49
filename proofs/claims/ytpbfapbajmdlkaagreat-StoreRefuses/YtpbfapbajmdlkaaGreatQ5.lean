/- What is no batch and no name changes nothing. It holds for every input; there are no conditions. -/
import Derived.Test.YtpbfapbajmdlkaaGreatQ4
namespace Go.Proofs.YtpbfapbajmdlkaaGreat
open Go Go.Sac
set_option maxRecDepth 100000
set_option maxHeartbeats 4000000
theorem GH{l:List (Bs×UInt32)}{i:Nat}{p:Bs×UInt32}(h:l[i]?=some p):(l.drop i).flatMap snB=txt p.1++(be 4 p.2.toNat++(l.drop (i+1)).flatMap snB):=by
 obtain⟨hi,rfl⟩:=List.getElem?_eq_some_iff.1 h;rw[jB hi,pP];unfold snB;rw[bQ]
theorem txtT{s z:Bs}(h:s.length<=10):dA ((txt s++z).take 2)=s.length/\((txt s++z).drop 2).take s.length=s/\(txt s++z).drop (2+s.length)=z/\(txt s++z).length=2+s.length+z.length:=by
 unfold txt;have h2:(be 2 s.length).length=2:=aQ _ _;refine⟨?_,?_,?_,?_⟩
 ·rw[bQ,cO h2,gF,fG (by omega)]
 ·rw[bQ,eK h2,cO rfl]
 ·rw[eK (by rw[aF,h2])]
 ·rw[aF,aF,h2]
theorem Ie{c:TC}{w0 w:World}{s:TP}{sb mr a k:Nat}{root:UInt32}{m:List Pr}{sx:List Sx}{ds:DSt}(h:StoreAt c w0 s sb mr root m sx)(hd:RunD c.w0 w c.b c.kv c.r ds)(hC:PCra c.n k c.key ds a s.P.kept s.V)(hk:k+1<=40000) :
  Ret Tryz.prog 41 #[.pointer (some ⟨c.b,0,none⟩),cI c.key] w λv w'=>∃(R:PR) (s':TP) (sb' mr':Nat) (sx':List Sx),v=.tuple #[.pointer (some ⟨sb',0,none⟩),.int .i64 0]/\StoreAt ⟨c.w0,c.b,c.kv,c.r,R,c.n,c.key⟩ w' s' sb' mr' root m sx'/\sx'.Perm sx/\s'.k<=k+1/\Chg (DF c.b c.kv c.r) w w'/\w.heap.size<=sb'/\w.heap.size<=mr'/\∀x∈PF R,w.heap.size<=x:=by
 have hkl:c.key.length=32:=h.pg.2.2.2.2;have hDl:=hd.1.lt;have hDg:=hd.2.2;have hwz:=hd.2.1.1;have hn4:=h.pg.n4;obtain⟨l,hl,htx⟩:=h.txt;obtain⟨sx',hsx,hsl⟩:=sE (λp:Sx=>(p.1,p.2.1)) hl;have hsl:eI sx'=l:=hsl;have hlen:l.length=sx'.length:=by rw[<-hsl];exact dq ..
 have hlx:sx'.length<=4:=by rw[hsx.length_eq];exact h.few
 have h10:∀p∈sx',p.1.length<=10:=λp hp=>h.names p (hsx.subset hp);have hnd:(sx'.map (·.1)).Nodup:=by
  have h1:=h.map.nodup;rw[vC] at h1;have h2:(eI sx).map (·.1)=sx.map (·.1):=by unfold eI;rw[fJ];rfl
  rw[h2] at h1;exact(hsx.map _).nodup_iff.2 h1
 have hkt:s.P.kept.txt=gX l:=by
  have:=congrArg Pst.txt h.st
  exact this.trans htx
 have hkr:s.P.kept.root=root:=by
  have:=congrArg Pst.root h.st
  exact this.trans h.rt
 refine enter [4,5] Tryz.func41 O O (al O) (zSR (da (l:=c.key) O O ?_));rintro w1 kb hkn hK1 hc1 hl1;refine zaa O (zNR (zm O ?_));have hd1:RunD c.w0 w1 c.b c.kv c.r ds:=⟨hd.1.chg hc1 (by simp),hd.2.1.tr hc1,hd.2.2⟩
 refine a7 O (cP 32 gL O I63 O O (hK1) (hkl)) (ag O C81 (He hd1 hC hk hkl) ?_);rintro _ w2 ⟨R,f,ds2,rfl,hS2,_,_,hpd2,hc2,hR2⟩;refine zm O (zx O (zx O (zaa O (a6 (aa (zSR (zmv O (bY O O) (a6 (aM O (λh=>h O) ?_)))))))));refine zKR (zmm O ?_);have hob1:∃c':TC,c'=⟨c.w0,c.b,c.kv,c.r,R,c.n,c.key⟩:=⟨_,rfl⟩
 obtain⟨c',hc'⟩:=hob1;have hlt2:=PS.lt hS2;have hge2:=PS.ge hS2;refine ag O C82 (GO hS2) ?_;rintro v3 w3 ⟨hv3,hS3,hc3⟩;have hv3:v3=.int .u32 root.toNat:=by rw[hv3,<-hkr];rfl
 subst hv3;refine aY O (nO (List UInt8)) ?_;rintro _ w4 ⟨mq,rfl,hmn,hM4,hc4,hl4⟩;refine a7 O (bX dw I143 O (zs:=[.pointer none,.int .u32 0,.map none,.bool false]) O O (bS O O O (al O) (bS O O O (al O) (bS O O O (al O) (eb (cs':=[.pointer (some ⟨R.pb,0,none⟩),.int .u32 root.toNat,.map (some mq),.bool false]) O))))) ?_;refine aY O (cY (l:=[.pointer (some ⟨R.pb,0,none⟩),.int .u32 root.toNat,.map (some mq),.bool false]) O O) ?_;rintro _ w5 ⟨sq,rfl,hsn,hB5,hc5,hl5⟩;refine za O (zNR (zm O ?_));have hS5:=(hS3.chg0 hc4).chg0 hc5;have hM5:MapAt w5 mq (snV (eI (sx'.take 0))):=hM4.mod hc5 (by simp);refine ag O C84 (Hm hS5) ?_;rintro v6 w6 ⟨hv6,hS6,hc6⟩;have hv6:v6=str (gX l):=by rw[hv6,<-hkt];rfl
 subst hv6;have hmz:(gX l).length<=65:=by
  have:=kL l (λp hp=>by rw[<-hsl] at hp;obtain⟨q,hq,rfl⟩:=List.mem_map.1 hp;exact h10 q hq)
  omega
 refine aY O (x_s2b uU9 bg uU5 O) ?_;rintro bv w7 ⟨hbo,hc7,hib⟩;refine ag O C83 (jt bv (gX l) 1 w7 hbo.sl (by decide) (by omega)) ?_;rintro v8 w8 ⟨hv8,hh8⟩;have hb1:(be 1 l.length).length=1:=aQ _ _;have e1:dA ((gX l).take 1)=l.length:=by unfold gX;rw[cO hb1,gF,fG (by omega)]
 have e2:(gX l).drop 1=l.flatMap snB:=by unfold gX;rw[eK hb1]
 unfold om at hv8;rw[if_neg (by unfold gX;rw[aF,hb1];omega),e1,e2] at hv8;obtain⟨rv,rfl,hrs,hrb⟩:=hv8;have hN:(UInt64.ofNat l.length).toNat=l.length:=mN (show l.length<18446744073709551616 by omega);have hc8:Chg [] w7 w8:=Chg.heap hh8;have hmw:=hM5.lt;have hsw:=hB5.lt;have k3:=hc3.1;have k4:=hc4.1;have k5:=hc5.1;have k6:=hc6.1;have hmb:mq∉ay bv:=λhh=>by have:=hib.ge mq hh;omega
 have hms:mq≠sq:=by omega
 refine zm O (zx O (zx O (zx O (zaa O (za O (a6 (aa (zSR (za O (a6 (aq (aX [6,7,8,9,10,11] (λq vs w'=>∃(i:Nat) (rv:Value),vs=[.pointer (some ⟨R.pb,0,none⟩),.int .i64 0,.pointer (some ⟨sq,0,none⟩),.int .u64 (UInt64.ofNat l.length).toNat,rv,.int .i64 i]/\i+q=l.length/\Sl w' rv ((l.drop i).flatMap snB)/\ay rv=ay bv/\MapAt w' mq (snV (eI (sx'.take i)))/\Blk w' sq [.pointer (some ⟨R.pb,0,none⟩),.int .u32 root.toNat,.map (some mq),.bool false]/\Chg [] w3 w') (l.length) ?_ ?_))))))))))))
 ·exact⟨0,rv,rfl,by omega,by rw[gT];exact hrs,hrb,((hM5.mod hc6 (by simp)).mod hc7 (by simp)).mod hc8 (by simp),((hB5.chg0 hc6).chg0 hc7).chg0 hc8,hc4.tr (hc5.tr (hc6.tr (hc7.tr hc8)))⟩
 ·rintro q vs J w9 ⟨i,rv,rfl,hiq,hr9,hb9,hM9,hB9,hc9⟩;refine aa (zSR (zmm O (a7 O (gC O ey uU3 (by omega)) ?_)));by_cases hil:i<l.length
  ·refine a7 O (bB (bL O O) (bT (by omega))) ?_;refine zm O (ae O (zm O (ae O (a7 O (dk O O) (a7 O (aL O) (a6 (bJ O (rfl) (zKN (aa (aq (zSR (za O (zNR (a7 O (gK (v:=.int .u64 ((0:UInt64).toNat:Nat)) O) ?_))))))))))))));refine a6 (aa (zSR (zm O ?_)));have hob2:∃z,q=z+1:=⟨q-1,by omega⟩
   obtain⟨q,rfl⟩:=hob2;have hob3:∃x,sx'[i]?=some x:=⟨sx'[i]'(by omega),bN _⟩
   obtain⟨x,hx⟩:=hob3;have hlx2:l[i]?=some (x.1,x.2.1):=by rw[<-hsl];unfold eI;rw[mK,hx];rfl
   have hx10:=h10 x (gZ hx);rw[GH hlx2] at hr9;have hob4:=txtT (s:=x.1) (z:=be 4 x.2.1.toNat++(l.drop (i+1)).flatMap snB) hx10;obtain⟨t1,t2,t3,t4⟩:=hob4;have hzl:((l.drop (i+1)).flatMap snB).length<=64:=by
    have h1:=kL (l.drop (i+1)) (λp hp=>by
     have hp:=List.mem_of_mem_drop hp;rw[<-hsl] at hp;obtain⟨q,hq,rfl⟩:=List.mem_map.1 hp;exact h10 q hq)
    unfold gX at h1;rw[aF,aQ,bG] at h1;omega
   have hb4:(be 4 x.2.1.toNat).length=4:=aQ _ _;have hbz:(be 4 x.2.1.toNat++(l.drop (i+1)).flatMap snB).length=4+((l.drop (i+1)).flatMap snB).length:=by rw[aF,hb4]
   rw[hbz] at t4;refine ag O C85 (nA rv _ 10 w9 hr9 (by rw[t4];omega) (by decide)) ?_;rintro va wa ⟨hva,hha⟩;unfold pE at hva;rw[t1,t2,t3,if_neg (by rw[t4];omega)] at hva;obtain⟨ra,rfl,hra,hrab⟩:=hva;refine zm O (zx O (zx O (zx O (zaa O (za O (zNR (zmv O (dk O O) (a6 (bJ O (rfl) (ah (zm O (ag O C83 (jt ra _ 4 wa hra (by decide) (by rw[aF,hb4];omega)) ?_))))))))))));rintro vb wb ⟨hvb,hhb⟩;unfold om at hvb;rw[if_neg (by rw[aF,hb4];omega),cO hb4,eK hb4,gF,fG (by have:=x.2.1.toNat_lt;omega)] at hvb;obtain⟨rb,rfl,hrb2,hrbb⟩:=hvb;have hcb:Chg [] w9 wb:=(Chg.heap hha).tr (Chg.heap hhb);have hBb:=hB9.chg0 hcb;have hMb:MapAt wb mq (snV (eI (sx'.take i))):=hM9.mod hcb (by simp);refine zm O (zx O (zx O (zx O (zaa O (za O (a6 (ah (zm O (zn O O (a7 O (a8 dw O nz O O) ?_))))))))));have hu32:gM ((UInt64.ofNat x.2.1.toNat).toNat:Int)=x.2.1:=by rw[C1];simp
   refine a7 O (aD fj O O (hBb.c O)) (zmm O (a7 O (eC O ey bu) ?_));rw[hu32];refine aR O (gy (k:=x.1) fj (fM uU9) O O O hMb) ?_;rintro wc ⟨hMc,hcc,hsc⟩;refine bC (ax (aj (ah (zmv O (aC O O (by omega)) (za O ?_)))));refine a6 ?_;have htk:sx'.take (i+1)=sx'.take i++[x]:=by rw[gg,hx];rfl
   have hne:∀y∈sx'.take i,y.1≠x.1:=by
    have:=hnd.sublist ((oC (i+1) sx').map (·.1))
    rw[htk,gj,ki] at this;exact λy hy e=>this.2.2 y.1 (List.mem_map.2 ⟨y,hy,rfl⟩) x.1 (by simp) e
   have hMc:MapAt wc mq (snV (eI (sx'.take (i+1)))):=by rw[htk,zj x _ hne];exact hMc
   have hbb:ay rb=ay bv:=hrbb.trans (hrab.trans hb9);refine aT (q) (bl (by omega) ?_);exact⟨i+1,rb,rfl,by omega,hrb2.mod hcc (λy hy hh=>by simp at hh;subst hh;rw[hbb] at hy;exact hmb hy),hbb,hMc,hBb.chg hcc (by simp;exact hms.symm),(hc9.tr hcb).t1 hcc hmn⟩
  ·have hil2:i=l.length:=by omega
   subst hil2;refine a7 O (bB (bL O O) (bF (by omega))) ?_;refine zm O (ar O O (ar O O (a7 O (aJ O) (a6 (aK (rfl) (aO (an (an (aE (aj (aa (zSR (zm O ?_)))))))))))));rw[cd (by omega)] at hM9;have hS9:=hS3.chg0 hc9;have hus:∀x,s.P.kept.st.used x=s.P.now.used x:=λx=>by rw[h.st]
   have hws:∀x,s.P.kept.st.written x=s.P.now.written x:=λx=>by rw[h.st]
   refine a7 O (bB (bY O O) (congrArg Value.bool (decide_eq_false (λh=>h O)))) ?_;refine zm O (ae O (zm O (ae O (ag O C80 (wT w9 R c.b c.key _ hS9.2.1 c.n (by omega) (λx hx=>hS9.2.2.2.1.ok.used x hx)) ?_))));rintro uv wu ⟨lu,hou,hnu,hmu,_,hcu,hiu⟩;have hob5:=hou.form (n:=lu.length) rfl;obtain⟨pu,cu,rfl⟩:=hob5;have hru:root∈lu:=by
    rw[hmu root];show s.P.kept.st.used root=true;rw[hus root,h.used root];have hob6:=h.live;obtain⟨_,d,pg,ht,_,_⟩:=hob6;have hob7:=Hy ht;obtain⟨q,hq⟩:=hob7;exact⟨root,cQ,d,pg,m,ht,by rw[hq];simp⟩
   have hlu:=List.length_pos_of_mem hru;refine ae O (a7 O (aB O aZ) (ae O (a7 O (dk O O) (a7 O (aJ O) (a6 (aM O (by omega) ?_))))));refine zKR (zma O (za O (a6 (zrf ?_))));have hS10:=hS9.chg0 hcu;have hmv:∀{r:UInt32} {m:List Pr},Tre s r m->Tre ⟨k+1,ds2,⟨s.P.kept.st,opS c.key ds s.P.kept,(a+1) % 2,0,f,false⟩,s.V⟩ r m:=λ⟨q,d,pg,h1,h2,h3⟩=>⟨q,d,pg,h1,λx hx=>(hws x).trans (h2 x hx),h3⟩
   have hFq:∀x∈PF R++DF c.b c.kv c.r,x<w2.heap.size:=hlt2;have k2:=hc2.1;have k1:=hc1.1;refine⟨R,⟨k+1,ds2,⟨s.P.kept.st,opS c.key ds s.P.kept,(a+1) % 2,0,f,false⟩,s.V⟩,sq,mq,sx',rfl,⟨hS10,hB9.chg0 hcu,hM9.mod hcu (by simp),⟨λhh=>by have:=hFq _ hh;omega,by show c.w0.heap.size<=sq;omega⟩,⟨λhh=>by have:=hFq _ hh;omega,hms,by show c.w0.heap.size<=mq;omega⟩,hmv h.live,λp hp=>hmv (h.olds p (hsx.subset hp)),h10,hlx,λx=>?_,⟨λx=>rfl,λx=>rfl,λx hx=>hS10.2.2.2.1.ok.written x hx⟩,rfl,hpd2,hkr,⟨l,by rw[hsl],hkt⟩⟩,hsx,aP _,?_,by omega,by omega,λx hx=>by have:=hR2 x hx;omega⟩
   ·show s.P.kept.st.used x=true↔_;rw[hus x,h.used x];have hrs:∀r,r∈root::zu sx'↔r∈root::zu sx:=λr=>by
     have:=(hsx.map (·.2.1)).mem_iff (a:=r)
     rw[cf,cf];unfold zu;rw[this]
    constructor
    ·rintro⟨r,hr,q⟩;exact⟨r,(hrs r).2 hr,q⟩
    ·rintro⟨r,hr,q⟩;exact⟨r,(hrs r).1 hr,q⟩
   ·exact((hc1.tr0' hc2).tr0 hc3).tr0 (hc9.tr hcu)
theorem D4{ds:DSt}(h0:ds.offAt=0)(hp:ds.pend=[]):ds.crash []=ds:=by
 obtain⟨s,o,kk,p⟩:=ds;cases hp;cases h0;simp[DSt.crash,mi,j7]
abbrev Sn:=Bs×List Pr
def snP(sx:List Sx):List Sn:=sx.map λp=>(p.1,p.2.2)
def Ax(m:List Pr)(sn:List Sn):Nat:=2*m.length+1+(sn.map λp=>2*p.2.length+1).sum
theorem xU{m:List Pr}{a b:List Sn}(h:a.Perm b):Ax m a=Ax m b:=by
 unfold Ax;rw[(h.map _).sum_nat]
theorem DR(m:List Pr)(sx:List Sx):Ct m sx=Ax m (snP sx):=by
 unfold Ct Ax snP;rw[fJ];rfl
def Gr(w:World)(F F':List Nat):Prop:=∀x∈F',x∈F∨w.heap.size<=x
def SS(w0:World)(F:List Nat)(w:World)(sv dv:Value)(key:List UInt8)(m:List Pr)(sn:List Sn)(n k:Nat):Prop :=
 ∃(c:TC) (s:TP) (sb mr:Nat) (root:UInt32) (sx:List Sx),StoreAt c w s sb mr root m sx/\c.w0=w0/\F=sb::mr::c.F/\sv=.pointer (some ⟨sb,0,none⟩)/\dv=.pointer (some ⟨c.b,0,none⟩)/\c.key=key/\(snP sx).Perm sn/\c.n=n/\s.k<=k
theorem yo{nm:Bs}:∀{sx:List Sx},(sx.map (·.1)).Nodup->snP (qt nm sx)=(snP sx).filter (λp=>decide (p.1≠nm))
 | [], _ => rfl
 | p :: l, h => by
  rw[eU,kh] at h;unfold qt;by_cases e:nm=p.1
  ·rw[if_pos e];unfold snP;rw[eU,sg,if_neg (by simp[e])];refine(List.filter_eq_self.2 (λq hq=>?_)).symm;obtain⟨z,hz,rfl⟩:=List.mem_map.1 hq;refine decide_eq_true (λe2=>h.1 (List.mem_map.2 ⟨z,hz,?_⟩));rw[<-e];exact e2
  ·rw[if_neg e];have ih:=yo (nm:=nm) h.2;unfold snP at ih ⊢;rw[eU,eU,sg,if_pos (by simpa using λq=>e q.symm),ih]
theorem StoreAt.nd{c:TC}{w:World}{s:TP}{sb mr:Nat}{root:UInt32}{m:List Pr}{sx:List Sx}(h:StoreAt c w s sb mr root m sx):(sx.map (·.1)).Nodup:=by
 have h1:=h.map.nodup;rw[vC] at h1;have h2:(eI sx).map (·.1)=sx.map (·.1):=by unfold eI;rw[fJ];rfl
 rw[h2] at h1;exact h1
theorem BB{w0 w:World}{b r n:Nat}{kv:Value}{key:List UInt8}(hd:RunD w0 w b kv r (dsN (32+8*n)))(hn:4<=n/\n<=400)(hkl:key.length=32) :
  Ret Tryz.prog 30 #[.pointer (some ⟨b,0,none⟩),cI key] w λv w'=>∃F sv,v=.tuple #[sv,.int .i64 0]/\SS w0 F w' sv (.pointer (some ⟨b,0,none⟩)) key [] [] n 4/\Chg (DF b kv r) w w'/\Gr w (DF b kv r) F:=by
 refine(Make_ok w0 w b r n kv key hd hn hkl).mono ?_;rintro v w' ⟨c,s,sb,mr,id,rfl,hS,rfl,rfl,rfl,rfl,rfl,rfl,hk,hc,hsb,hmr,hF⟩;refine⟨_,_,rfl,⟨c,s,sb,mr,id,[],hS,rfl,rfl,rfl,rfl,rfl,.refl _,rfl,hk⟩,hc,λx hx=>?_⟩;rcases List.mem_cons.1 hx with rfl|hx
 ·exact .inr hsb
 ·rcases List.mem_cons.1 hx with rfl|hx
  ·exact .inr hmr
  ·exact hF x hx
section
variable {w0 w w':World}{F:List Nat}{sv dv:Value}{key:List UInt8}{m:List Pr}{sn:List Sn}{n k:Nat}
theorem SS.now(h:SS w0 F w sv dv key m sn n k):Chg [] w0 w:=by
 obtain⟨c,s,sb,mr,root,sx,h,rfl,rfl,rfl,rfl,rfl,hp,rfl,hk⟩:=h;exact PS.now h.pg
theorem SS.lt(h:SS w0 F w sv dv key m sn n k):∀x∈F,x<w.heap.size:=by
 obtain⟨c,s,sb,mr,root,sx,h,rfl,rfl,rfl,rfl,rfl,hp,rfl,hk⟩:=h;intro x hx;rcases List.mem_cons.1 hx with rfl|hx
 ·exact h.blk.lt
 ·rcases List.mem_cons.1 hx with rfl|hx
  ·exact h.map.lt
  ·exact h.pg.lt x hx
theorem SS.ge(h:SS w0 F w sv dv key m sn n k):∀x∈F,w0.heap.size<=x:=by
 obtain⟨c,s,sb,mr,root,sx,h,rfl,rfl,rfl,rfl,rfl,hp,rfl,hk⟩:=h;intro x hx;rcases List.mem_cons.1 hx with rfl|hx
 ·exact h.sF.2
 ·rcases List.mem_cons.1 hx with rfl|hx
  ·exact h.mF.2.2
  ·exact h.pg.ge x hx
theorem StoreAt.chg{c:TC}{s:TP}{sb mr:Nat}{root:UInt32}{sx:List Sx}{S:List Nat}(h:StoreAt c w s sb mr root m sx)(hc:Chg S w w')(hn:∀x∈sb::mr::c.F,x∉S)(hs:∀x∈S,c.w0.heap.size<=x):StoreAt c w' s sb mr root m sx :=
 ⟨h.pg.chg hc (λx hx=>hn x (bP _ (bP _ hx))) hs,h.blk.chg hc (hn _ cQ),h.map.mod hc (hn _ (bP _ cQ)),h.sF,h.mF,h.live,h.olds,h.names,h.few,h.used,h.com,h.st,h.pend,h.rt,h.txt⟩
theorem SS.chg{S:List Nat}(h:SS w0 F w sv dv key m sn n k)(hc:Chg S w w')(hn:∀x∈F,x∉S)(hs:∀x∈S,w0.heap.size<=x):SS w0 F w' sv dv key m sn n k:=by
 obtain⟨c,s,sb,mr,root,sx,h,rfl,rfl,rfl,rfl,rfl,hp,rfl,hk⟩:=h;exact⟨c,s,sb,mr,root,sx,h.chg hc hn hs,rfl,rfl,rfl,rfl,rfl,hp,rfl,hk⟩
theorem SS.chg0(h:SS w0 F w sv dv key m sn n k)(hc:Chg [] w w'):SS w0 F w' sv dv key m sn n k:=h.chg hc (by simp) (by simp)
theorem SS.sort(h:SS w0 F w sv dv key m sn n k):ec m:=by
 obtain⟨c,s,sb,mr,root,sx,h,rfl,rfl,rfl,rfl,rfl,hp,rfl,hk⟩:=h;exact h.live.sort
def SR(w0:World)(F:List Nat)(w w':World)(sv dv:Value)(key:List UInt8)(m:List Pr)(sn:List Sn)(n k:Nat):Prop :=
 (∃F',SS w0 F' w' sv dv key m sn n k/\Gr w F F')/\Chg F w w'
theorem SS.do_{lv:Value}{l:List Wr}(h:SS w0 F w sv dv key m sn n k)(hl:Sl w lv l)(hlF:∀x∈ay lv,x∉F)(hb:isB l=true)(hm:m.length+l.length<=900)(hk:k+24*l.length+1<=40000)(hr:Ax m sn+2*(m.length+l.length)+30<=n) :
  Ret Tryz.prog 32 #[sv,lv] w λr w'=>r=.int .i64 0/\SR w0 F w w' sv dv key (kx m l) sn n (k+24*l.length+1):=by
 obtain⟨c,s,sb,mr,root,sx,h,rfl,rfl,rfl,rfl,rfl,hp,rfl,hk1⟩:=h;refine(Do_ok c w s sb mr root m sx lv l h hl (λx hx hh=>hlF x hx (bP _ (bP _ hh))) hb hm (by omega) (by rw[DR,xU hp];exact hr)).mono ?_;rintro r w' ⟨rfl,⟨c',s',id,hS,hcc,hF,hk2⟩,hc⟩;have e0:c'.w0=c.w0:=by rw[hcc]
 have e1:c'.b=c.b:=by rw[hcc]
 have e2:c'.key=c.key:=by rw[hcc]
 have e3:c'.n=c.n:=by rw[hcc]
 refine⟨rfl,⟨_,⟨c',s',sb,mr,id,sx,hS,e0,rfl,rfl,by rw[e1],e2,hp,e3,by omega⟩,λx hx=>?_⟩,hc.mono (λx hx _=>?_)⟩
 ·rcases List.mem_cons.1 hx with rfl|hx
  ·exact .inl cQ
  ·rcases List.mem_cons.1 hx with rfl|hx
   ·exact .inl (bP _ cQ)
   ·exact(hF x hx).imp (λq=>bP _ (bP _ q)) (λq=>q)
 ·rcases List.mem_cons.1 hx with rfl|hx
  ·exact cQ
  ·exact bP _ (bP _ hx)
theorem SS.aft{c:TC}{s:TP}{sb mr:Nat}{root:UInt32}{sx:List Sx}(ha:Aft c w w' s sb root m sx)(hp:(snP sx).Perm sn)(hk:s.k<=k)(hc:Chg (sb::c.F) w w') :
  SR c.w0 (sb::mr::c.F) w w' (.pointer (some ⟨sb,0,none⟩)) (.pointer (some ⟨c.b,0,none⟩)) c.key m sn c.n (k+1):=by
 obtain⟨c',s',mr',hS,hcc,hF,hk2,hmr⟩:=ha;have e0:c'.w0=c.w0:=by rw[hcc]
 have e1:c'.b=c.b:=by rw[hcc]
 have e2:c'.key=c.key:=by rw[hcc]
 have e3:c'.n=c.n:=by rw[hcc]
 refine⟨⟨_,⟨c',s',sb,mr',root,sx,hS,e0,rfl,rfl,by rw[e1],e2,hp,e3,by omega⟩,λx hx=>?_⟩,hc.mono (λx hx _=>?_)⟩
 ·rcases List.mem_cons.1 hx with rfl|hx
  ·exact .inl cQ
  ·rcases List.mem_cons.1 hx with rfl|hx
   ·exact .inr hmr
   ·exact(hF x hx).imp (λq=>bP _ (bP _ q)) (λq=>q)
 ·rcases List.mem_cons.1 hx with rfl|hx
  ·exact cQ
  ·exact bP _ (bP _ hx)
theorem Aj{sx:List Sx}{nm:Bs}(hp:(snP sx).Perm sn):(∃p∈sx,p.1=nm)↔nm∈sn.map (·.1):=by
 rw[<-(hp.map _).mem_iff];unfold snP;rw[fJ]
 constructor
 ·rintro⟨p,h,e⟩;exact List.mem_map.2 ⟨p,h,e⟩
 ·intro h;obtain⟨p,h,e⟩:=List.mem_map.1 h;exact⟨p,h,e⟩
theorem sn_len{sx:List Sx}(hp:(snP sx).Perm sn):sx.length=sn.length:=by
 rw[<-hp.length_eq];exact(dq ..).symm
theorem SS.snap(h:SS w0 F w sv dv key m sn n k)(nm:Bs)(hn:jH nm=true)(hp:nm∉sn.map (·.1))(h4:sn.length<4)(hk:k+1<=40000) :
  Ret Tryz.prog 33 #[sv,str nm] w λr w'=>r=.int .i64 0/\SR w0 F w w' sv dv key m (sn++[(nm,m)]) n (k+1):=by
 obtain⟨c,s,sb,mr,root,sx,h,rfl,rfl,rfl,rfl,rfl,hq,rfl,hk1⟩:=h;refine(Snap_ok h nm hn (λz=>hp ((Aj hq).1 z)) (by rw[sn_len hq];exact h4) (by omega)).mono ?_;rintro r w' ⟨rfl,ha,hc⟩;exact⟨rfl,SS.aft ha (by unfold snP;rw[gj];exact hq.append_right _) hk1 hc⟩
theorem SS.drop(h:SS w0 F w sv dv key m sn n k)(nm:Bs)(hn:jH nm=true)(hp:nm∈sn.map (·.1))(hk:k+1<=40000) :
  Ret Tryz.prog 36 #[sv,str nm] w λr w'=>r=.int .i64 0/\SR w0 F w w' sv dv key m (sn.filter (λp=>decide (p.1≠nm))) n (k+1):=by
 obtain⟨c,s,sb,mr,root,sx,h,rfl,rfl,rfl,rfl,rfl,hq,rfl,hk1⟩:=h;refine(Drop_ok h nm hn ((Aj hq).2 hp) (by omega)).mono ?_;rintro r w' ⟨rfl,ha,hc⟩;exact⟨rfl,SS.aft ha (by rw[yo h.nd];exact hq.filter _) hk1 hc⟩
theorem SS.snapB(h:SS w0 F w sv dv key m sn n k)(nm:Bs)(hl:nm.length<=100000)(hn:jH nm=false) :
  Ret Tryz.prog 33 #[sv,str nm] w λr w'=>r=.int .i64 12/\w=w':=by
 obtain⟨c,s,sb,mr,root,sx,h,rfl,rfl,rfl,rfl,rfl,hq,rfl,hk1⟩:=h;exact Ib h nm hl hn
theorem SS.snapT(h:SS w0 F w sv dv key m sn n k)(nm:Bs)(hl:nm.length<=100000)(hn:jH nm=true)(hp:nm∈sn.map (·.1)) :
  Ret Tryz.prog 33 #[sv,str nm] w λr w'=>r=.int .i64 101/\w=w':=by
 obtain⟨c,s,sb,mr,root,sx,h,rfl,rfl,rfl,rfl,rfl,hq,rfl,hk1⟩:=h;exact Dj h nm hl hn ((Aj hq).2 hp)
theorem SS.dropB(h:SS w0 F w sv dv key m sn n k)(nm:Bs)(hl:nm.length<=100000)(hn:jH nm=false) :
  Ret Tryz.prog 36 #[sv,str nm] w λr w'=>r=.int .i64 12/\w=w':=by
 obtain⟨c,s,sb,mr,root,sx,h,rfl,rfl,rfl,rfl,rfl,hq,rfl,hk1⟩:=h;exact Iu h nm hl hn
theorem SS.dropN(h:SS w0 F w sv dv key m sn n k)(nm:Bs)(hl:nm.length<=100000)(hn:jH nm=true)(hp:nm∉sn.map (·.1)) :
  Ret Tryz.prog 36 #[sv,str nm] w λr w'=>r=.int .i64 100/\w=w':=by
 obtain⟨c,s,sb,mr,root,sx,h,rfl,rfl,rfl,rfl,rfl,hq,rfl,hk1⟩:=h;exact FV h nm hl hn (λz=>hp ((Aj hq).1 z))
theorem SS.doB{lv:Value}{l:List Wr}(h:SS w0 F w sv dv key m sn n k)(hl:Sl w lv l)(hll:l.length<=100000)(hb:isB l=false) :
  Ret Tryz.prog 32 #[sv,lv] w λr w'=>r=.int .i64 12/\Chg [] w w':=by
 obtain⟨c,s,sb,mr,root,sx,h,rfl,rfl,rfl,rfl,rfl,hp,rfl,hk1⟩:=h;refine enter [4] Tryz.func32 O O (al O) (zSR (za O (a6 (aa (aq (zSR (zm O (zn O O (a7 O (a8 dw O I4 O O) (a7 O (aD uU4 O O (h.blk.c O)) (za O (a6 (aK (rfl) (zSR (zm O (ag O C72 (wA w _ l hl hll) ?_))))))))))))))));rintro _ w1 ⟨rfl,hc1⟩;rw[hb];refine a7 O (bU O) (za O (a6 (aU (rfl) (zSR (za O (a6 (zrb ?_)))))));exact⟨rfl,hc1⟩
theorem SS.get(h:SS w0 F w sv dv key m sn n k)(ky v:Bs)(b:Bool)(hv:(lZ m ky).getD []=v)(hb:fy m ky=b) :
  Ret Tryz.prog 47 #[sv,str ky] w λr w'=>r=.tuple #[str v,.bool b]/\Chg [] w w':=by
 obtain⟨c,s,sb,mr,root,sx,h,rfl,rfl,rfl,rfl,rfl,hp,rfl,hk1⟩:=h;exact SGet_ok h ky v b hv hb
theorem SS.len(h:SS w0 F w sv dv key m sn n k) :
  Ret Tryz.prog 39 #[sv] w λr w'=>r=.int .i64 m.length/\Chg [] w w':=by
 obtain⟨c,s,sb,mr,root,sx,h,rfl,rfl,rfl,rfl,rfl,hp,rfl,hk1⟩:=h;exact SLen_ok h
theorem SS.scan(h:SS w0 F w sv dv key m sn n k)(lo hi:Bs)(most:Nat)(hm1:most<=1000) :
  Ret Tryz.prog 43 #[sv,str lo,str hi,.int .i64 most] w λr w'=>Own w' r (vG m lo hi most)/\In r [] w.heap.size/\Chg [] w w':=by
 obtain⟨c,s,sb,mr,root,sx,h,rfl,rfl,rfl,rfl,rfl,hp,rfl,hk1⟩:=h;exact Ic h lo hi most hm1
theorem SS.dead(h:SS w0 F w sv dv key m sn n k) :
  Ret Tryz.prog 46 #[sv] w λr w'=>r=.bool false/\w=w':=by
 obtain⟨c,s,sb,mr,root,sx,h,rfl,rfl,rfl,rfl,rfl,hp,rfl,hk1⟩:=h;refine enter [2] Tryz.func46 O O (al O) (zSR (za O (zNR (zm O (zn O O (a7 O (a8 dw O I4 O O) (a7 O (aD uU4 O O (h.blk.c O)) (za O (a6 (zrf ?_))))))))));exact⟨rfl,rfl⟩
theorem sn_mem{sx:List Sx}{q:Sn}(hp:(snP sx).Perm sn)(hq:q∈sn):∃p∈sx,p.1=q.1/\p.2.2=q.2:=by
 have hob1:=List.mem_map.1 (hp.mem_iff.2 hq);obtain⟨p,h,rfl⟩:=hob1;exact⟨p,h,rfl,rfl⟩
theorem SS.getAt(h:SS w0 F w sv dv key m sn n k)(q:Sn)(hq:q∈sn)(ky v:Bs)(b:Bool)(hv:(lZ q.2 ky).getD []=v)(hb:fy q.2 ky=b) :
  Ret Tryz.prog 34 #[sv,str q.1,str ky] w λr w'=>r=.tuple #[str v,.bool b,.int .i64 0]/\Chg [] w w':=by
 obtain⟨c,s,sb,mr,root,sx,h,rfl,rfl,rfl,rfl,rfl,hp,rfl,hk1⟩:=h;have hob2:=sn_mem hp hq;obtain⟨p,hpx,e1,e2⟩:=hob2;rw[<-e1];exact FL h p hpx ky v b (by rw[e2];exact hv) (by rw[e2];exact hb)
theorem SS.getN(h:SS w0 F w sv dv key m sn n k)(nm ky:Bs)(hq:nm∉sn.map (·.1)) :
  Ret Tryz.prog 34 #[sv,str nm,str ky] w λr w'=>r=.tuple #[str [],.bool false,.int .i64 100]/\w=w':=by
 obtain⟨c,s,sb,mr,root,sx,h,rfl,rfl,rfl,rfl,rfl,hp,rfl,hk1⟩:=h;exact FM h nm ky (λp hpx e=>hq ((Aj hp).1 ⟨p,hpx,e⟩))
theorem SS.names(h:SS w0 F w sv dv key m sn n k) :
  Ret Tryz.prog 35 #[sv] w λv w'=>∃l,Own w' v l/\l.Perm (sn.map (·.1))/\Chg [] w w'/\In v [] w.heap.size:=by
 obtain⟨c,s,sb,mr,root,sx,h,rfl,rfl,rfl,rfl,rfl,hp,rfl,hk1⟩:=h;refine(BA w sb mr _ _ _ (eI sx) h.blk h.map (by unfold eI;rw[dq];have:=h.few;omega)).mono ?_;rintro v w' ⟨l,h1,h2,h3,h4⟩;refine⟨l,h1,h2.trans ?_,h3,h4⟩
 have:=hp.map (·.1)
 unfold snP at this;unfold eI;rw[fJ] at this ⊢;exact this
theorem SS.pages(h:SS w0 F w sv dv key m sn n k) :
  Ret Tryz.prog 38 #[sv] w λr w'=>(∃(av bv:Value) (la lb:List UInt32),r=.tuple #[av,bv]/\Own w' av la/\Own w' bv lb/\la.length=lb.length/\la.length<=Ax m sn)/\Chg [] w w':=by
 obtain⟨c,s,sb,mr,root,sx,h,rfl,rfl,rfl,rfl,rfl,hp,rfl,hk1⟩:=h;rw[<-xU hp,<-DR];exact Ih h
theorem SS.crash0(h:SS w0 F w sv dv key m sn n k)(cv:Value)(hcf:∃p c,cv=.slice p 0 c) :
  Ret Tryz.prog 69 #[dv,cv] w λ_ w'=>SS w0 F w' sv dv key m sn n k/\Chg F w w':=by
 obtain⟨c,s,sb,mr,root,sx,h,rfl,rfl,rfl,rfl,rfl,hp,rfl,hk1⟩:=h;refine(Bq h.pg h.pend cv hcf).mono ?_;rintro v w' ⟨hS,hc⟩;have hc:Chg c.F w w':=hc;exact⟨⟨c,s,sb,mr,root,sx,⟨hS,h.blk.chg hc h.sF.1,h.map.mod hc h.mF.1,h.sF,h.mF,h.live,h.olds,h.names,h.few,h.used,h.com,h.st,h.pend,h.rt,h.txt⟩,rfl,rfl,rfl,rfl,rfl,hp,rfl,hk1⟩,hc.mono (λx hx _=>bP _ (bP _ hx))⟩
theorem SS.open_(h:SS w0 F w sv dv key m sn n k)(hk:k+1<=40000) :
  Ret Tryz.prog 41 #[dv,cI key] w λv w'=>∃F' sv',v=.tuple #[sv',.int .i64 0]/\SS w0 F' w' sv' dv key m sn n (k+1)/\Gr w F F'/\Chg F w w':=by
 obtain⟨c,s,sb,mr,root,sx,h,rfl,rfl,rfl,rfl,rfl,hp,rfl,hk1⟩:=h;have hC:=h.pg.2.2.2.1.crash [];rw[D4 h.pg.2.2.2.1.ok.off h.pend] at hC;refine(Ie h h.pg.1 hC (by omega)).mono ?_;rintro v w' ⟨R,s',sb',mr',sx',rfl,hS,hpx,hk2,hc,hsb,hmr,hR⟩;refine⟨_,_,rfl,⟨_,s',sb',mr',root,sx',hS,rfl,rfl,rfl,rfl,rfl,(hpx.map _).trans hp,rfl,by omega⟩,λx hx=>?_,hc.mono (λx hx _=>?_)⟩
 ·rcases List.mem_cons.1 hx with rfl|hx
  ·exact .inr hsb
  ·rcases List.mem_cons.1 hx with rfl|hx
   ·exact .inr hmr
   ·rcases List.mem_append.1 hx with hx|hx
    ·exact .inr (hR x hx)
    ·exact .inl (bP _ (bP _ (cz _ hx)))
 ·exact bP _ (bP _ (cz _ hx))
end
theorem yk(w0 w:World)(h0:Chg [] w0 w) :
  Ret Tryz.prog 31 #[] w λv w'=>∃b kv r,v=.pointer (some ⟨b,0,none⟩)/\RunD w0 w' b kv r (dsN (32+8*300))/\Chg [] w w'/\∀x∈DF b kv r,w.heap.size<=x:=by
 refine enter [0] Tryz.func31 O O (al O) (zSR (za O (zNR (ag O C37 (Hl w0 w (32+8*300) (by omega) h0) ?_))));rintro _ w1 ⟨b,kv,r,rfl,hd1,hc1,hF1⟩;refine za O (a6 (zrf ?_));exact⟨b,kv,r,rfl,hd1,hc1,hF1⟩
def kK:List UInt8:=0::0::0::0::4::List.replicate 27 0
theorem Gr.not{w:World}{F F':List Nat}{x:Nat}(h:Gr w F F')(hx:x∉F)(hw:x<w.heap.size):x∉F':=λhh=>by
 rcases h x hh with q|q
 ·exact hx q
 ·omega
theorem CL(w:World):Ret Tryz.prog 29 #[] w λv w'=>v=.bool true/\Chg [] w w':=by
 refine enter [0] Tryz.func29 O O (al O) (zSR (za O (zNR (ag O C31 (yk w w (Chg.refl _)) ?_))));rintro _ w1 ⟨b,kv,r,rfl,hd1,hc1,hF1⟩;refine a7 O (jT (List.replicate 32 (0:UInt8)) ([(4,4)]) (l:=kK) gL I63 O I5 (by kernel_rfl) O (by kernel_rfl) O (by kernel_rfl)) ?_;refine aV (List.replicate 32 (0:UInt8)) I63 O O O ?_;rintro w2 b2 hn2 ha2 hc2 hl2;refine za O (aR O (bH 32 I63 O (ha2) O O (rfl) (rfl)) ?_);rintro w3 ⟨ha3,hc3,hs3⟩;refine zNR (zm O ?_);have hd3:=hd1.chg0 (hc2.t1 hc3 hn2);refine a7 O (cP 32 gL O I63 O O (ha3) (rfl)) (ag O C30 (BB hd3 (by decide) O) ?_);rintro _ w4 ⟨F,sv,rfl,hS4,hc4,hG4⟩;refine zm O (zx O (zx O (zaa O (a6 (aa (zSR (zm O ?_)))))));have hb2:b2∉F:=λhh=>by
  have q:=ha3.lt;rcases hG4 b2 hh with g|g
  ·have:=hd1.1.lt b2 g;omega
  ·omega
 have hb4:=(ha3.chg hc4 (λhh=>by have:=hd1.1.lt b2 hh;omega))
 refine a7 O (bB (bY O O) (congrArg Value.bool (decide_eq_false (λh=>h O)))) ?_;refine zm O (ae O (zm O (ae O (a7 O (bX lB I66 O (zs:=[str [],str [],.bool false]) O O (bS O O O (al O) (bS O O O (al O) (eb (cs':=[str [97],str [49],.bool false]) O)))) ?_))));refine ae O (aY O (qQ (⟨[97],[49],false⟩:Wr) lf I66 O O O O O (by decide)) ?_);rintro _ w5 ⟨l5,rfl,hB5,hn5,hc5,hl5⟩;refine ae O ?_;have hF4:=hS4.lt;have hS5:=hS4.chg0 hc5;have hx5:l5∉F:=λhh=>by have:=hF4 _ hh;omega
 refine ag O C32 ((hS5.do_ (Blk.sl1 hB5) (λx hx=>by simp[ay] at hx;subst hx;exact hx5) O (by decide) (by decide) (by decide) :)) ?_;rintro _ w6 ⟨rfl,⟨F6,hS6,hG6⟩,hc6⟩;refine ae O (a7 O (bB (bY O O) (congrArg Value.bool (decide_eq_false (λh=>h O)))) ?_);refine a7 O (aJ O) (zm O (ae O (zm O (ae O (ag O C33 ((hS6.snap [120] O (by simp) (by decide) (by decide) :)) ?_)))));rintro _ w7 ⟨rfl,⟨F7,hS7,hG7⟩,hc7⟩;refine ae O (a7 O (bB (bY O O) (congrArg Value.bool (decide_eq_false (λh=>h O)))) ?_);refine a7 O (aJ O) (zm O (ae O (zm O (ae O (a7 O (bX lB I66 O (zs:=[str [],str [],.bool false]) O O (bS O O O (al O) (bS O O O (al O) (eb (cs':=[str [97],str [50],.bool false]) O)))) ?_)))));refine ae O (aY O (qQ (⟨[97],[50],false⟩:Wr) lf I66 O O O O O (by decide)) ?_);rintro _ w8 ⟨l8,rfl,hB8,hn8,hc8,hl8⟩;refine ae O ?_;have hF7:=hS7.lt;have hS8:=hS7.chg0 hc8;have hx8:l8∉F7:=λhh=>by have:=hF7 _ hh;omega
 refine ag O C32 ((hS8.do_ (Blk.sl1 hB8) (λx hx=>by simp[ay] at hx;subst hx;exact hx8) O (by decide) (by decide) (by decide) :)) ?_;rintro _ w9 ⟨rfl,⟨F9,hS9,hG9⟩,hc9⟩;refine ae O (a7 O (bY O O) (a7 O (aJ O) (a6 (aM O (λh=>h O) ?_))));refine zKR (zm O (ag O C69 (hS9.crash0 (.slice none 0 0) ⟨_,_,rfl⟩) ?_));rintro v10 w10 ⟨hS10,hc10⟩;refine zNR (zm O ?_);have kk:=ha3.lt;have k4:=hc4.1;have k5:=hc5.1;have k6:=hc6.1;have k7:=hc7.1;have k8:=hc8.1;have hb6:=hG6.not hb2 (by omega);have hb7:=hG7.not hb6 (by omega);have hb9:=hG9.not hb7 (by omega);have ha10:Arr w10 b2 kK:=(((((hb4.chg0 hc5).chg hc6 hb2).chg hc7 hb6).chg0 hc8).chg hc9 hb7).chg hc10 hb9;refine a7 O (cP 32 gL O I63 O O (ha10) (rfl)) (ag O C41 ((hS10.open_ (by decide) :)) ?_);rintro _ w11 ⟨F11,sv2,rfl,hS11,hG11,hc11⟩;refine zm O (zx O (zx O (zaa O (a6 (aa (zSR (zmv O (bY O O) (a6 (aM O (λh=>h O) ?_)))))))));refine zKR (zm O (ag O C47 ((hS11.get [97] [50] true O O :)) ?_));rintro _ w12 ⟨rfl,hc12⟩;refine zm O (zx O (zx O (zaa O (zNR (zm O ?_)))));have hS12:=hS11.chg0 hc12;refine ag O C34 ((hS12.getAt ([120],[([97],[49])]) (by decide) [97] [49] true O O :)) ?_;rintro _ w13 ⟨rfl,hc13⟩;refine zm O (zx O (zx O (zx O (zaa O (za O (zNR (zm O ?_)))))));have hS13:=hS12.chg0 hc13;refine ag O C34 ((hS13.getN [121] [97] (by decide) :)) ?_;rintro _ w14 ⟨rfl,rfl⟩;refine zm O (zx O (zx O (zx O (zaa O (za O (zNR (zm O (ag O C38 ((hS13.pages :)) ?_))))))));rintro _ w14 ⟨⟨av,bv,la,lb,rfl,hla,hlb,hll,_⟩,hc14⟩;refine zm O (zx O (zx O (zaa O (zNR (zmm O (ae O (zm O (ae O ?_))))))));have hS14:=hS13.chg0 hc14;have hob1:=hla.sl.form rfl;obtain⟨pa,ca,rfl⟩:=hob1;have hob2:=hlb.sl.form rfl;obtain⟨pb,cb,rfl⟩:=hob2;refine a7 O (bB (qM O O) (congrArg Value.bool (decide_eq_true (rfl)))) (a7 O (aL O) (zm O (ae O (zm O (ae O (a7 O (bB (dk O O) (congrArg Value.bool (decide_eq_true (rfl)))) (a7 O (aL O) (zm O (ae O (zmv O (aL O) (zm O (ae O (zm O (ae O (a7 O (bB (qM O O) (congrArg Value.bool (decide_eq_true (rfl)))) (a7 O (aL O) (zm O (ae O (zm O (ae O (a7 O (bB (dk O O) (congrArg Value.bool (decide_eq_true (rfl)))) (a7 O (aL O) (zm O (ae O (zm O (ae O (ag O C39 ((hS14.len :)) ?_)))))))))))))))))))))))))));rintro _ w15 ⟨rfl,hc15⟩;refine ae O ?_;have hS15:=hS14.chg0 hc15;refine a7 O (bB (dk O O) (congrArg Value.bool (decide_eq_true (rfl)))) (a7 O (aL O) (zm O (ae O (zm O (ae O (a7 O (aB O aZ) (ae O (zm O (ae O (a7 O (aB O aZ) (ae O (a7 O (bB (dk O O) (bT (by omega))) ?_))))))))))));refine a7 O (aL O) (zm O (ae O (zm O (ae O (ag O C32 ((hS15.doB (Sl.nil (α:=Wr) _ 0) (by decide) O :)) ?_)))));rintro _ w16 ⟨rfl,hc16⟩;refine ae O ?_;have hS16:=hS15.chg0 hc16;refine a7 O (bB (dk O O) (congrArg Value.bool (decide_eq_true (rfl)))) (a7 O (aL O) (zm O (ae O (zm O (ae O (ag O C36 ((hS16.dropN [121] (by decide) O (by decide) :)) ?_))))));rintro _ w17 ⟨rfl,rfl⟩;refine ae O (a7 O (bB (dk O O) (congrArg Value.bool (decide_eq_true (rfl)))) (a7 O (aL O) (zm O (ae O (zm O (ae O (ag O C33 ((hS16.snapT [120] (by decide) O (by decide) :)) ?_)))))));rintro _ w18 ⟨rfl,rfl⟩;refine ae O (a7 O (dk O O) (a7 O (aL O) (za O (a6 (zrf ?_)))));exact⟨rfl,hS16.now⟩
theorem HU(w:World)(lv:Value)(l:List Wr)(hl:Sl w lv l)(hl2:l.length<=9223372036854775807) :
  Ret Tryz.prog 40 #[lv] w λv w'=>v=.bool (isB l)/\w=w':=by
 obtain⟨pl,cl,rfl⟩:=hl.form rfl;refine enter [2] Tryz.func40 O O (al O) (zSR (za O (a6 (aa (zSR (za O (a6 (aq (aX [0,3] (λn vs w'=>∃i:Nat,vs=[.slice pl l.length cl,.int .i64 i]/\i+n=l.length/\(l.take i).all Wr.good=true/\w=w') (l.length) ?_ ?_)))))))))
 ·exact⟨0,rfl,by omega,rfl,rfl⟩
 ·rintro n vs J w1 ⟨i,rfl,hin,hall,rfl⟩;refine aa (zSR (zmm O (a7 O (aB O lf) (a7 O (bL O O) ?_))));refine a6 (az O (λhlt=>?_) (λhlt=>?_))
  ·refine zKN (aa (aq (zSR (zmm O ?_))));have hob1:∃z,n=z+1:=⟨n-1,by omega⟩
   obtain⟨n,rfl⟩:=hob1;have hob2:∃a,l[i]?=some a:=⟨l[i]'(by omega),bN _⟩
   obtain⟨a,ha⟩:=hob2;have hno:a.good=false->Value.bool false=Value.bool (isB l):=λh=>by
    unfold isB;rw[List.all_eq_false.2 ⟨a,gZ ha,by simp[h]⟩];rfl
   have hall2:a.good=true->(l.take (i+1)).all Wr.good=true:=λh=>by
    rw[gg,ha,uT,hall];simp[h]
   refine bE O (aS (i) lf I66 O (hl) O O (by first|rfl|omega) (by omega)) ?_;rintro _ ⟨b1,o1,rfl,he1,hb1⟩;refine a7 O (a8 lB O I9 O O) (a7 O (aD uU9 O O (((hl.at he1 ha).cell (i:=0) rfl:_=some (str a.k)))) ?_);refine a7 O (fA O uU9) ?_;by_cases k1:a.k.length<1
   ·refine a7 O (bB (bL O O) (bT (by omega))) ?_;refine zm O (ar O O (ar O O (ar O O (ar O O (ar O O (ar O O (ar O O (a7 O (aL O) (zm O (ar O O (ar O O (ar O O (ar O O (ar O O (ar O O (ar O O (a7 O (aL O) (zm O (ar O O (ar O O (ar O O (ar O O (ar O O (ar O O (ar O O (ar O O (ar O O (ar O O (ar O O (ar O O (ar O O (a7 O (aL O) (a6 (aU (rfl) (zSR (za O (a6 (bA (aN (aI (aI (aN (aI (cE ?_))))))))))))))))))))))))))))))))))))))))))));exact⟨hno (by unfold Wr.good;rw[decide_eq_false (by omega)];rfl),rfl⟩
   ·refine a7 O (bB (bL O O) (bF (by omega))) ?_;refine zm O (ae O (zm O (ae O (zm O (ae O (bE O (aS (i) lf I66 O (hl) O O (by first|rfl|omega) (by omega)) ?_))))));rintro _ ⟨b2,o2,rfl,he2,hb2⟩;refine ae O (a7 O (a8 lB O I9 O O) (ae O (a7 O (aD uU9 O O (((hl.at he2 ha).cell (i:=0) rfl:_=some (str a.k)))) ?_)));refine ae O (a7 O (fA O uU9) (ae O ?_));by_cases k2:a.k.length > 60
    ·refine a7 O (bB (cZ O O) (bT (by omega))) ?_;refine a7 O (aJ O) (zm O (ar O O (ar O O (ar O O (ar O O (ar O O (ar O O (ar O O (a7 O (aL O) (zm O (ar O O (ar O O (ar O O (ar O O (ar O O (ar O O (ar O O (ar O O (ar O O (ar O O (ar O O (ar O O (ar O O (a7 O (aL O) (a6 (aU (rfl) (zSR (za O (a6 (bA (aN (aI (aI (aN (aI (cE ?_))))))))))))))))))))))))))))))))))));exact⟨hno (by unfold Wr.good;rw[decide_eq_false (by omega)];rfl),rfl⟩
    ·refine a7 O (bB (cZ O O) (bF (by omega))) ?_;refine a7 O (aJ O) (zm O (ae O (zm O (ae O (zm O (ae O (bE O (aS (i) lf I66 O (hl) O O (by first|rfl|omega) (by omega)) ?_)))))));rintro _ ⟨b3,o3,rfl,he3,hb3⟩;refine ae O (a7 O (a8 lB O I9 O O) (ae O (a7 O (aD uU9 O O (((hl.at he3 ha).cell (i:=1) rfl:_=some (str a.v)))) ?_)));refine ae O (a7 O (fA O uU9) (ae O ?_));by_cases k3:a.v.length > 150
     ·refine a7 O (bB (cZ O O) (bT (by omega))) ?_;refine a7 O (aJ O) (zm O (ar O O (ar O O (ar O O (ar O O (ar O O (ar O O (ar O O (ar O O (ar O O (ar O O (ar O O (ar O O (ar O O (a7 O (aL O) (a6 (aU (rfl) (zSR (za O (a6 (bA (aN (aI (aI (aN (aI (cE ?_)))))))))))))))))))))))))));exact⟨hno (by unfold Wr.good;rw[decide_eq_false (by omega)];rfl),rfl⟩
     ·refine a7 O (bB (cZ O O) (bF (by omega))) ?_;refine a7 O (aJ O) (zm O (ae O (zm O (ae O (zm O (ae O ?_))))));have hk:decide (1<=a.k.length/\a.k.length<=60/\a.v.length<=150)=true:=decide_eq_true (by omega);refine bE O (aS (i) lf I66 O (hl) O O (by first|rfl|omega) (by omega)) ?_;rintro _ ⟨b4,o4,rfl,he4,hb4⟩;refine ae O (a7 O (a8 lB O I4 O O) (ae O ?_));by_cases k4:a.d=true
      ·refine a7 O (aD uU4 O O ((((hl.at he4 ha).cell (i:=2) O).trans (congrArg (λx=>some (Value.bool x)) k4):_=some (.bool true)))) ?_;refine ae O (zm O (ae O (zm O (ae O (zm O (ae O (bE O (aS (i) lf I66 O (hl) O O (by first|rfl|omega) (by omega)) ?_)))))));rintro _ ⟨b5,o5,rfl,he5,hb5⟩;refine ae O (a7 O (a8 lB O I9 O O) (ae O (a7 O (aD uU9 O O (((hl.at he5 ha).cell (i:=1) rfl:_=some (str a.v)))) ?_)));refine ae O (a7 O (tx O O) (ae O (a7 O (aL O) (a7 O (aJ O) (a6 (bR O (λk5=>?_) (λk5=>?_)))))))
       ·refine zSR (za O (a6 (bA (aN (aI (aI (aN (aI (cE ?_)))))))));have k5:a.v≠[]:=by simpa using k5
        exact⟨hno (by unfold Wr.good;rw[hk,k4,decide_eq_true k5];rfl),rfl⟩
       ·refine bI (ax (aj (ah (zmv O (aC O O (by omega)) (za O ?_)))));refine a6 ?_;have k5:¬a.v≠[]:=by simpa using k5
        refine aT (n) (bl (by omega) ?_);exact⟨i+1,rfl,by omega,hall2 (by unfold Wr.good;rw[hk,k4,decide_eq_false k5];rfl),rfl⟩
      ·have k4:a.d=false:=by simpa using k4
       refine a7 O (aD uU4 O O ((((hl.at he4 ha).cell (i:=2) O).trans (congrArg (λx=>some (Value.bool x)) k4):_=some (.bool false)))) ?_;refine ae O (zm O (ar O O (ar O O (ar O O (ar O O (ar O O (ar O O (ae O (a7 O (aJ O) (a7 O (aJ O) (a6 (aK (rfl) (bI (ax (aj (ah (zmv O (aC O O (by omega)) (za O ?_))))))))))))))))));refine a6 (aT (n) (bl (by omega) ?_));exact⟨i+1,rfl,by omega,hall2 (by unfold Wr.good;rw[hk,k4];rfl),rfl⟩
  ·refine aO (an (an (aE (aj (zSR (zmv O (aB O lf) ?_))))));have hil:i=l.length:=by omega
   subst hil;rw[cR] at hall;have hres:∀g:Bool,g=(decide (1<=l.length)&&decide (l.length<=40))->Value.bool g=Value.bool (isB l):=λg h=>by
    rw[h];unfold isB;rw[hall,hU]
   by_cases h1:1<=l.length
   ·refine a7 O (bB (fi O O) (bT (by omega))) ?_;refine zm O (ae O (zm O (ae O (a7 O (aB O lf) (ae O (a7 O (fI O O) (a7 O (aL O) (za O (a6 (zrf ?_))))))))));refine⟨hres _ ?_,rfl⟩;rw[decide_eq_true h1,hU,pw,decide_eq_true_iff,decide_eq_true_iff];omega
   ·refine a7 O (bB (fi O O) (bF (by omega))) ?_;refine zm O (ar O O (ar O O (ar O O (a7 O (aJ O) (za O (a6 (zrf ?_)))))));exact⟨hres _ (by rw[decide_eq_false h1];rfl),rfl⟩
theorem uF(w:World)(lv:Value)(l:List Wr)(b:Bool)(hl:Sl w lv l)(hl2:l.length<=9223372036854775807)(hb:isB l=b) :
  Ret Tryz.prog 40 #[lv] w λv w'=>v=.bool b/\w=w':=by
 subst hb;exact HU w lv l hl hl2
def CP(l:List Wr):Bool:=l.all λa=>decide (a.k.length<=100/\a.v.length<=200)
theorem AS(w:World)(lv:Value)(l:List Wr)(b:Bool)(hb:CP l=b)(hl:Sl w lv l)(hl2:l.length<=9223372036854775807) :
  Ret Tryz.prog 44 #[lv] w λv w'=>v=.bool b/\w=w':=by
 subst hb;have hob3:=hl.form rfl;obtain⟨pl,cl,rfl⟩:=hob3;refine enter [2] Tryz.func44 O O (al O) (zSR (za O (a6 (aa (zSR (za O (a6 (aq (aX [0,3] (λn vs w'=>∃i:Nat,vs=[.slice pl l.length cl,.int .i64 i]/\i+n=l.length/\CP (l.take i)=true/\w=w') (l.length) ?_ ?_)))))))))
 ·exact⟨0,rfl,by omega,rfl,rfl⟩
 ·rintro n vs J w1 ⟨i,rfl,hin,hall,rfl⟩;refine aa (zSR (zmm O (a7 O (aB O lf) (a7 O (bL O O) ?_))));refine a6 (az O (λhlt=>?_) (λhlt=>?_))
  ·refine zKN (aa (aq (zSR (zmm O ?_))));have hob4:∃z,n=z+1:=⟨n-1,by omega⟩
   obtain⟨n,rfl⟩:=hob4;have hob5:∃a,l[i]?=some a:=⟨l[i]'(by omega),bN _⟩
   obtain⟨a,ha⟩:=hob5;have hno:¬(a.k.length<=100/\a.v.length<=200)->Value.bool false=Value.bool (CP l):=λh=>by
    unfold CP;rw[List.all_eq_false.2 ⟨a,gZ ha,by simpa using h⟩]
   refine bE O (aS (i) lf I66 O (hl) O O (by first|rfl|omega) (by omega)) ?_;rintro _ ⟨b1,o1,rfl,he1,hb1⟩;refine a7 O (a8 lB O I9 O O) (a7 O (aD uU9 O O (((hl.at he1 ha).cell (i:=0) rfl:_=some (str a.k)))) ?_);refine a7 O (fA O uU9) ?_;by_cases k1:a.k.length > 100
   ·refine a7 O (bB (cZ O O) (bT (by omega))) ?_;refine zm O (ar O O (ar O O (ar O O (ar O O (ar O O (ar O O (ar O O (a7 O (aL O) (a6 (aU (rfl) (zSR (za O (a6 (bA (aN (aI (aI (aN (aI (cE ?_))))))))))))))))))));exact⟨hno (by omega),rfl⟩
   ·refine a7 O (bB (cZ O O) (bF (by omega))) ?_;refine zm O (ae O (zm O (ae O (zm O (ae O (bE O (aS (i) lf I66 O (hl) O O (by first|rfl|omega) (by omega)) ?_))))));rintro _ ⟨b2,o2,rfl,he2,hb2⟩;refine ae O (a7 O (a8 lB O I9 O O) (ae O (a7 O (aD uU9 O O (((hl.at he2 ha).cell (i:=1) rfl:_=some (str a.v)))) ?_)));refine ae O (a7 O (fA O uU9) (ae O (a7 O (cZ O O) (a7 O (aJ O) (a6 (az O (λk2=>?_) (λk2=>?_)))))))
    ·refine zSR (za O (a6 (bA (aN (aI (aI (aN (aI (cE ?_)))))))));exact⟨hno (by omega),rfl⟩
    ·refine bI (ax (aj (ah (zmv O (aC O O (by omega)) (za O ?_)))));refine a6 (aT (n) (bl (by omega) ?_));refine⟨i+1,rfl,by omega,?_,rfl⟩;unfold CP at hall ⊢;rw[gg,ha,uT,hall];simp;omega
  ·refine aO (an (an (aE (aj (zSR (za O (a6 (zrf ?_))))))));have hil:i=l.length:=by omega
   subst hil;rw[cR] at hall;exact⟨congrArg Value.bool hall.symm,rfl⟩
theorem z8(w:World)(nm:Bs)(b:Bool)(hb:jH nm=b)(hl:nm.length<=9223372036854775807) :
  Ret Tryz.prog 45 #[str nm] w λv w'=>v=.bool b/\w=w':=by
 subst hb;refine enter [2] Tryz.func45 O O (al O) (zSR (za O (a6 (aa (zSR (za O (a6 (aq (aX [0,3] (λn vs w'=>∃i:Nat,vs=[str nm,.int .i64 i]/\i+n=nm.length/\(nm.take i).all okC=true/\w=w') (nm.length) ?_ ?_)))))))))
 ·exact⟨0,rfl,by omega,rfl,rfl⟩
 ·rintro n vs J w1 ⟨i,rfl,hin,hall,rfl⟩;refine aa (zSR (zmm O (a7 O (fA O uU9) (a7 O (bL O O) ?_))));refine a6 (az O (λhlt=>?_) (λhlt=>?_))
  ·refine zKN (aa (aq (zSR (zmm O ?_))));have hob6:∃z,n=z+1:=⟨n-1,by omega⟩
   obtain⟨n,rfl⟩:=hob6;have hob7:∃a,nm[i]?=some a:=⟨nm[i]'(by omega),bN _⟩
   obtain⟨ch,hch⟩:=hob7;have hno:okC ch=false->jH nm=false:=λh=>by
    unfold jH;rw[List.all_eq_false.2 ⟨ch,gZ hch,by simp[h]⟩];rfl
   have hall2:okC ch=true->(nm.take (i+1)).all okC=true:=λh=>by
    rw[gg,hch,uT,hall];simp[h]
   have hix:nm[(i:Int).toNat]?=some ch:=by rw[j1];exact hch
   refine a7 O (fX (l:=nm) (b:=ch) uU9 O O (kZ _) hix) ?_;by_cases h1:ch≥97
   ·refine a7 O (bB (iX (b:=97) O O) (congrArg Value.bool (decide_eq_true (h1)))) ?_;refine zm O (ae O (zm O (ae O (zm O (ae O (a7 O (fX (l:=nm) (b:=ch) uU9 O O (kZ _) hix) ?_))))));refine ae O ?_;by_cases h2:ch<=122
    ·refine a7 O (bB (lI (b:=122) O O) (congrArg Value.bool (decide_eq_true (h2)))) ?_;refine a7 O (aL O) (zm O (ar O O (ar O O (ar O O (ar O O (ar O O (ar O O (ar O O (ar O O (ar O O (ar O O (a7 O (aL O) (a7 O (bU O) (a6 ?_))))))))))))));have hg:okC ch=true:=by unfold okC;rw[decide_eq_true h1,decide_eq_true h2];rfl
     refine aK (rfl) ?_;refine bI (ax (aj (ah (zmv O (aC O O (by omega)) (za O ?_)))));refine a6 (aT (n) (bl (by omega) ?_));exact⟨i+1,rfl,by omega,hall2 hg,rfl⟩
    ·refine a7 O (bB (lI (b:=122) O O) (congrArg Value.bool (decide_eq_false (h2)))) ?_;refine a7 O (aL O) (zm O (ae O (zm O (ae O (zm O (ae O ?_))))));have hno2:(decide (ch≥97)&&decide (ch<=122))=false:=by rw[decide_eq_false h2,Bool.and_false]
     refine a7 O (fX (l:=nm) (b:=ch) uU9 O O (kZ _) hix) ?_;refine ae O ?_;by_cases h3:ch≥48
     ·refine a7 O (bB (iX (b:=48) O O) (congrArg Value.bool (decide_eq_true (h3)))) ?_;refine ae O (zm O (ae O (zm O (ae O (zm O (ae O (a7 O (fX (l:=nm) (b:=ch) uU9 O O (kZ _) hix) ?_)))))));refine ae O (a7 O (lI (b:=57) O O) (ae O (a7 O (aL O) (a7 O (aJ O) (a7 O (bU O) ?_)))));refine a6 (bR O (λh4=>?_) (λh4=>?_))
      ·refine zSR (za O (a6 (bA (aN (aI (aI (aN (aI (cE ?_)))))))));have h4:¬ch<=57:=by simpa using h4
       have hg:okC ch=false:=by unfold okC;rw[decide_eq_false h4,hno2];simp
       exact⟨congrArg Value.bool (hno hg).symm,rfl⟩
      ·refine bI (ax (aj (ah (zmv O (aC O O (by omega)) (za O ?_)))));refine a6 ?_;have h4:ch<=57:=by simpa using h4
       have hg:okC ch=true:=by unfold okC;rw[decide_eq_true h3,decide_eq_true h4];simp
       refine aT (n) (bl (by omega) ?_);exact⟨i+1,rfl,by omega,hall2 hg,rfl⟩
     ·refine a7 O (bB (iX (b:=48) O O) (congrArg Value.bool (decide_eq_false (h3)))) ?_;refine ae O (zm O (ar O O (ar O O (ar O O (ar O O (ae O (a7 O (aJ O) (a7 O (aJ O) (a7 O (bU O) (a6 ?_))))))))));have hg:okC ch=false:=by unfold okC;rw[decide_eq_false h3,hno2];simp
      refine aU (rfl) ?_;refine zSR (za O (a6 (bA (aN (aI (aI (aN (aI (cE ?_)))))))));exact⟨congrArg Value.bool (hno hg).symm,rfl⟩
   ·refine a7 O (bB (iX (b:=97) O O) (congrArg Value.bool (decide_eq_false (h1)))) ?_;refine zm O (ar O O (ar O O (ar O O (ar O O (a7 O (aJ O) (zm O (ae O (zm O (ae O (zm O (ae O ?_)))))))))));have hno2:(decide (ch≥97)&&decide (ch<=122))=false:=by rw[decide_eq_false h1,Bool.false_and]
    refine a7 O (fX (l:=nm) (b:=ch) uU9 O O (kZ _) hix) ?_;refine ae O ?_;by_cases h3:ch≥48
    ·refine a7 O (bB (iX (b:=48) O O) (congrArg Value.bool (decide_eq_true (h3)))) ?_;refine ae O (zm O (ae O (zm O (ae O (zm O (ae O (a7 O (fX (l:=nm) (b:=ch) uU9 O O (kZ _) hix) ?_)))))));refine ae O (a7 O (lI (b:=57) O O) (ae O (a7 O (aL O) (a7 O (aJ O) (a7 O (bU O) ?_)))));refine a6 (bR O (λh4=>?_) (λh4=>?_))
     ·refine zSR (za O (a6 (bA (aN (aI (aI (aN (aI (cE ?_)))))))));have h4:¬ch<=57:=by simpa using h4
      have hg:okC ch=false:=by unfold okC;rw[decide_eq_false h4,hno2];simp
      exact⟨congrArg Value.bool (hno hg).symm,rfl⟩
     ·refine bI (ax (aj (ah (zmv O (aC O O (by omega)) (za O ?_)))));refine a6 ?_;have h4:ch<=57:=by simpa using h4
      have hg:okC ch=true:=by unfold okC;rw[decide_eq_true h3,decide_eq_true h4];simp
      refine aT (n) (bl (by omega) ?_);exact⟨i+1,rfl,by omega,hall2 hg,rfl⟩
    ·refine a7 O (bB (iX (b:=48) O O) (congrArg Value.bool (decide_eq_false (h3)))) ?_;refine ae O (zm O (ar O O (ar O O (ar O O (ar O O (ae O (a7 O (aJ O) (a7 O (aJ O) (a7 O (bU O) (a6 ?_))))))))));have hg:okC ch=false:=by unfold okC;rw[decide_eq_false h3,hno2];simp
     refine aU (rfl) ?_;refine zSR (za O (a6 (bA (aN (aI (aI (aN (aI (cE ?_)))))))));exact⟨congrArg Value.bool (hno hg).symm,rfl⟩
  ·refine aO (an (an (aE (aj (zSR (zmv O (fA O uU9) ?_))))));have hil:i=nm.length:=by omega
   subst hil;rw[cR] at hall;have hres:∀g:Bool,g=(decide (1<=nm.length)&&decide (nm.length<=10))->Value.bool g=Value.bool (jH nm):=λg h=>by
    rw[h];unfold jH;rw[hall,hU]
   by_cases h1:1<=nm.length
   ·refine a7 O (bB (fi O O) (bT (by omega))) ?_;refine zm O (ae O (zm O (ae O (a7 O (fA O uU9) (ae O (a7 O (fI O O) (a7 O (aL O) (za O (a6 (zrf ?_))))))))));refine⟨hres _ ?_,rfl⟩;rw[decide_eq_true h1,hU,pw,decide_eq_true_iff,decide_eq_true_iff];omega
   ·refine a7 O (bB (fi O O) (bF (by omega))) ?_;refine zm O (ar O O (ar O O (ar O O (a7 O (aJ O) (za O (a6 (zrf ?_)))))));exact⟨hres _ (by rw[decide_eq_false h1];rfl),rfl⟩
theorem EO(w:World)(av bv:Value)(a b:List Pr)(ha:Sl w av a)(hb:Sl w bv b)(hl:a.length<=9223372036854775807)(_:b.length<=9223372036854775807) :
  Ret Tryz.prog 42 #[av,bv] w λr w'=>r=.bool (decide (a=b))/\Chg [] w w':=by
 have hob8:=ha.form rfl;obtain⟨pa,ca,rfl⟩:=hob8;have hob9:=hb.form rfl;obtain⟨pb,cb,rfl⟩:=hob9;refine enter [4] Tryz.func42 O O (al O) (zSR (za O (a6 (aa (zSR (zmv O (aB O dh) (zmv O (aB O dh) (a7 O (bY O O) (a6 (az O (λhne=>?_) (λhne=>?_)))))))))))
 ·refine zSR (za O (a6 (zrt ?_)));exact⟨congrArg Value.bool (decide_eq_false (λh=>hne (by rw[h]))).symm,Chg.refl _⟩
 ·refine zKN (aa (zSR (za O (a6 (aq ?_)))));have hab:a.length=b.length:=by omega
  refine aX [0,1,5] (λq vs w'=>∃i:Nat,vs=[.slice pa a.length ca,.slice pb b.length cb,.int .i64 i]/\i+q=a.length/\Chg [] w w'/\a.take i=b.take i) (a.length) ?_ ?_
  ·exact⟨0,rfl,by omega,Chg.refl _,rfl⟩
  ·rintro q vs J w1 ⟨i,rfl,hi,hc1,ht⟩;refine aa (zSR (zmm O (a7 O (aB O dh) (a7 O (bL O O) ?_))));refine a6 ?_;have ha1:=ha.mod0 hc1;have hb1:=hb.mod0 hc1;refine az O (λhlt=>?_) (λhlt=>?_)
   ·refine zKN (aa (aq (aa ?_)));have hob10:∃z,q=z+1:=⟨q-1,by omega⟩
    obtain⟨q,rfl⟩:=hob10;have hob11:∃x,a[i]?=some x:=⟨a[i]'(by omega),bN _⟩
    obtain⟨x,hx⟩:=hob11;have hob12:∃y,b[i]?=some y:=⟨b[i]'(by omega),bN _⟩
    obtain⟨y,hy⟩:=hob12;refine aH bx (.pure 0 (.pure 1 (.pure 2 (.read 3 (.pure 4 (.pure 5 (.pure 6 (.read 7 (.pure 8 .nil))))))))) (by kernel_rfl) ?_;refine ym O (ym O (yex O (aS (i) dh I49 O (ha1) O O (by first|rfl|omega) (by omega)) ?_));rintro _ ⟨bi,oi,rfl,hei,hbi⟩;refine dD O O O (λw'=>At w' bi oi [str x.1,str x.2]) (ha1.at hei hx) (λw1 h1=>cK iM O I49 O h1 O) ?_;refine ym O (ym O (yex O (aS (i) dh I49 O (hb1) O O (by first|rfl|omega) (by omega)) ?_));rintro _ ⟨bj,oj,rfl,hej,hbj⟩;refine dD O O O (λw'=>At w' bj oj [str y.1,str y.2]) (hb1.at hej hy) (λw1 h1=>cK iM O I49 O h1 O) ?_;refine yp O (λ_=>x_nePr (a:=x) (b:=y) O O (by kernel_rfl) iM (by kernel_rfl) (by decide) (by decide) O O uU9 uU9) ?_;refine aA (az O (λhxy=>?_) (λhxy=>?_))
    ·refine zSR (za O (a6 (bA (aN (aI (aI (aN (aI (cE ?_)))))))));exact⟨congrArg Value.bool (decide_eq_false (λh=>hxy (by rw[<-h,hx] at hy;exact qG hy))).symm,hc1.tr (drw _)⟩
    ·refine bI (ax (aj (ah (zmv O (aC O O (by omega)) (za O ?_)))));refine a6 ?_;have hxy:x=y:=Decidable.not_not.1 hxy;subst hxy;refine aT (q) (bl (by omega) ?_);exact⟨i+1,rfl,by omega,hc1.tr (drw _),by rw[gg,gg,ht,hx,hy]⟩
   ·refine aO (an (an (aE (aj (zSR (za O (a6 (zrf ?_))))))));have hil:i=a.length:=by omega
    subst hil;rw[cR,hab,cR] at ht;exact⟨congrArg Value.bool (decide_eq_true ht).symm,hc1⟩
theorem GK(w:World)(av bv:Value)(a b:List Pr)(ha:Sl w av a)(hb:Sl w bv b)(hl:a.length<=9223372036854775807)(he:a=b) :
  Ret Tryz.prog 42 #[av,bv] w λr w'=>r=.bool true/\Chg [] w w':=by
 subst he;refine(EO w av bv a a ha hb hl hl).mono ?_;rintro r w' ⟨rfl,hc⟩;exact⟨bT rfl,hc⟩
theorem isB_len{l:List Wr}(h:isB l=true):1<=l.length/\l.length<=40:=by
 unfold isB at h;rw[ju,ju,decide_eq_true_iff,decide_eq_true_iff] at h;exact⟨h.1.2,h.2⟩
theorem xF:∀{l:List Wr} {m:List Pr},ec m->(kx m l).length<=m.length+l.length/\ec (kx m l)
 | [], m, h => ⟨aP _, h⟩
 | a :: l, m, h => by
  have h1:=A9 (m:=m) a h;have hs:ec (updW m a):=by
   unfold updW
   split
   ·exact yl _ h
   ·exact xR _ h
  have:=xF (l:=l) hs
  show(kx (updW m a) l).length<=_/\ec (kx (updW m a) l);rw[cg];exact⟨by omega,this.2⟩
theorem pgsN0(m:List Pr):Ax m []=2*m.length+1:=rfl
theorem Chg.fr{F:List Nat}{w w0 w':World}(h:Chg F w w')(hF:∀x∈F,w0.heap.size<=x)(h0:Chg [] w0 w):Chg [] w0 w':=h0.t0 h hF
theorem filt2{nm:Bs}(m:List Pr)(hx:nm≠[120]):List.filter (λp:Sn=>decide (p.1≠nm)) ([([120],m)]++[(nm,m)])=[([120],m)]:=by
 have e1:decide (([120]:Bs)≠nm)=true:=decide_eq_true (λe=>hx e.symm);have e2:decide (nm≠nm)=false:=decide_eq_false (λh=>h O);rw[gB,sg,sg];simp only[e1,e2];rfl
theorem ug(w:World)(lv:Value)(l:List Wr)(hl:Sl w lv l)(hl2:l.length<=9223372036854775807)(bv:Value)(bad:List Wr)(hbd:Sl w bv bad)(hbd2:bad.length<=9223372036854775807)(nm:Bs)(hnl:nm.length<=9223372036854775807) :
  Ret Tryz.prog 12 #[lv,bv,str nm] w λv w'=>v=.bool true/\Chg [] w w':=by
 obtain⟨pl,cl,rfl⟩:=hl.form rfl;obtain⟨pb,cb,rfl⟩:=hbd.form rfl;refine enter [6] Tryz.func12 O O (al O) (zSR (za O (a6 (aa (zSR (ag O C29 (CL w) ?_))))));rintro _ w1 ⟨rfl,hc1⟩;refine a7 O (bU O) (a6 (aK (rfl) (zKN (aa (zSR (zm O ?_))))));have hl1:=hl.mod0 hc1;have hb1:=hbd.mod0 hc1;by_cases hb:isB l=true
 ·refine ag O C40 (uF _ _ l true hl1 hl2 hb) ?_;rintro _ _ ⟨rfl,rfl⟩;refine a7 O (bU O) (zm O (ae O (zm O (ae O (a7 O (aB O lf) (ae O ?_))))));have hlen:=isB_len hb;by_cases h8:l.length > 8
  ·refine a7 O (bB (cZ O O) (bT (by omega))) ?_;refine a7 O (aJ O) (zm O (ar O O (ar O O (ar O O (a7 O (aL O) (zm O (ar O O (ar O O (ar O O (a7 O (aL O) (zm O (ar O O (ar O O (ar O O (a7 O (aL O) (a6 (aU (rfl) (zSR (za O (a6 (zrt ?_)))))))))))))))))))));exact⟨rfl,hc1⟩
  ·refine a7 O (bB (cZ O O) (bF (by omega))) ?_;refine a7 O (aJ O) (zm O (ae O (zm O (ae O (a7 O (aB O lf) (ae O ?_))))));by_cases h50:bad.length > 50
   ·refine a7 O (bB (cZ O O) (bT (by omega))) ?_;refine a7 O (aJ O) (zm O (ar O O (ar O O (ar O O (a7 O (aL O) (zm O (ar O O (ar O O (ar O O (a7 O (aL O) (a6 (aU (rfl) (zSR (za O (a6 (zrt ?_))))))))))))))));exact⟨rfl,hc1⟩
   ·refine a7 O (bB (cZ O O) (bF (by omega))) ?_;refine a7 O (aJ O) (zm O (ae O (zm O (ae O ?_))));by_cases hlt:CP bad=true
    ·refine ag O C44 (AS _ _ bad true hlt hb1 hbd2) ?_;rintro _ _ ⟨rfl,rfl⟩;refine ae O (a7 O (bU O) (a7 O (aJ O) (zm O (ae O (zm O (ae O (a7 O (fA O uU9) (ae O (a7 O (cZ O O) (a7 O (aJ O) (a6 (az O (λh40=>?_) (λh40=>?_)))))))))))))
     ·refine zSR (za O (a6 (zrt ?_)));exact⟨rfl,hc1⟩
     ·refine zKR (ag O C31 (yk w _ hc1) ?_);rintro _ w2 ⟨b,kv,r,rfl,hd2,hc2,hF2⟩;refine a7 O (jT (List.replicate 32 (0:UInt8)) ([]) (l:=key0) gL I63 O I5 (by kernel_rfl) O (by kernel_rfl) O (by kernel_rfl)) ?_;refine ag O C30 (BB hd2 (by decide) O) ?_;rintro _ w3 ⟨F,sv,rfl,hS3,hc3,hG3⟩;refine zm O (zx O (zx O (zaa O (a6 (aa (zSR (zm O ?_)))))));have hl3:=hl.mod0 hS3.now;have hlF:∀x∈ay (.slice pl l.length cl),x<w.heap.size:=λx hx=>hl.lt x hx;have hFg:=hS3.ge;refine a7 O (bB (bY O O) (congrArg Value.bool (decide_eq_false (λh=>h O)))) ?_;refine zm O (ae O (zm O (ae O (zm O (ae O (ag O C32 ((hS3.do_ hl3 (λx hx hh=>by have:=hlF x hx;have:=hFg x hh;omega) hb (by show 0+_<=_;omega) (by omega) (by rw[pgsN0];show 2*0+1+2*(0+_)+30<=_;omega) :)) ?_))))));rintro _ w4 ⟨rfl,⟨F4,hS4,hG4⟩,hc4⟩;refine ae O ?_;have hml:=(xF (l:=l) (m:=[]) yM).1;have h0:([]:List Pr).length=0:=rfl;refine a7 O (bB (bY O O) (congrArg Value.bool (decide_eq_false (λh=>h O)))) ?_;refine a7 O (aJ O) (zm O (ae O (zm O (ae O (ag O C33 ((hS4.snap [120] O (by simp) (by decide) (by omega) :)) ?_)))));rintro _ w5 ⟨rfl,⟨F5,hS5,hG5⟩,hc5⟩;refine ae O (a7 O (bY O O) (a7 O (aJ O) (a6 (aM O (λh=>h O) ?_))));refine zKR (zm O (ag O C43 ((hS5.scan [] [] 100 (by decide) :)) ?_));rintro av w6 ⟨ho6,hi6,hc6⟩;refine za O (a6 ?_);have hS6:=hS5.chg0 hc6;have hbd6:=hbd.mod0 hS6.now;refine dS [2,7] (λvs w'=>vs=[str nm,sv]/\SS w F5 w' sv (.pointer (some ⟨b,0,none⟩)) key0 (kx [] l) [([120],kx [] l)] 300 (4+24*l.length+1+1)) ?_ ?_
      ·refine zSR (zm O ?_);by_cases hb2:isB bad=true
       ·refine ag O C40 (uF _ _ bad true hbd6 hbd2 hb2) ?_;rintro _ _ ⟨rfl,rfl⟩;refine a7 O (bU O) (zm O (ar O O (ar O O (ar O O (ar O O (ar O O (ar O O (ar O O (ar O O (ar O O (ar O O (ar O O (a7 O (aJ O) (a6 (aK (rfl) (zKN ?_))))))))))))))));exact⟨rfl,hS6⟩
       ·have hb2:isB bad=false:=by simpa using hb2
        refine ag O C40 (uF _ _ bad false hbd6 hbd2 hb2) ?_;rintro _ _ ⟨rfl,rfl⟩;refine a7 O (bU O) (zm O (ae O (zm O (ae O (zm O (ae O (ag O C32 ((hS6.doB hbd6 (by omega) hb2 :)) ?_)))))));rintro _ w7 ⟨rfl,hc7⟩;refine ae O (a7 O (bB (bY O O) (congrArg Value.bool (decide_eq_false (λh=>h O)))) ?_);refine ae O (zm O (ae O (zm O (ae O (ag O C43 (((hS6.chg0 hc7).scan [] [] 100 (by decide) :)) ?_)))));rintro av8 w8 ⟨ho8,hi8,hc8⟩;refine ae O (zm O (ae O (ag O C42 (GK _ _ _ _ _ ho8.sl (ho6.mod0 (hc7.tr hc8)).sl (by rw[Ap (by omega)];omega) O) ?_)));rintro _ w9 ⟨rfl,hc9⟩;refine ae O (a7 O (bU O) (ae O (a7 O (aJ O) (a7 O (aL O) (a6 (aK (rfl) (zKN ?_)))))));exact⟨rfl,((hS6.chg0 hc7).chg0 hc8).chg0 hc9⟩
      ·rintro vs w7 J ⟨rfl,hS7⟩;refine zSR (zmm O ?_);have hpgl:(kx [] l).length<=8:=by omega
       by_cases hw:jH nm=true
       ·by_cases hx:nm=[120]
        ·subst hx;refine ag O C33 ((hS7.snapT [120] (by decide) O (by simp) :)) ?_;rintro _ w8 ⟨rfl,rfl⟩;refine zmm O (ag O C36 ((hS7.drop [120] O (by simp) (by omega) :)) ?_);rintro _ w9 ⟨rfl,⟨F9,hS9,hG9⟩,hc9⟩;refine zaa O (a6 (aa (aq (zSR (zm O (ag O C45 (z8 _ [120] true O (by decide)) ?_))))));rintro _ _ ⟨rfl,rfl⟩;refine a7 O (bU O) (za O (a6 (aK (rfl) (zSR (zmv O (qM O O) (za O (a6 (bJ O (rfl) (zSR (zmv O (bB (dk O O) (congrArg Value.bool (decide_eq_true (rfl)))) (zm O (ae O (zm O (ae O (a7 O (bB (dk O O) (congrArg Value.bool (decide_eq_true (rfl)))) (a7 O (aL O) (zm O (ae O (zm O (ae O (ag O C35 ((hS9.names :)) ?_)))))))))))))))))))));rintro v10 w10 ⟨ls,ho10,hp10,hc10,hi10⟩;have hob1:=ho10.sl.form rfl;obtain⟨p10,c10,rfl⟩:=hob1;refine ae O (a7 O (aB O cL) (ae O (a7 O (dk O O) (a7 O (aL O) (za O (a6 (zrb ?_)))))));have hle:ls.length=0:=by rw[hp10.length_eq];simp
         exact⟨bT (by omega),(hS9.chg0 hc10).now⟩
        ·refine ag O C33 ((hS7.snap nm hw (by simp;exact hx) (by simp) (by omega) :)) ?_;rintro _ w8 ⟨rfl,⟨F8,hS8,hG8⟩,hc8⟩;refine zmm O (ag O C36 ((hS8.drop nm hw (by simp) (by omega) :)) ?_);rintro _ w9 ⟨rfl,⟨F9,hS9,hG9⟩,hc9⟩;refine zaa O (a6 (aa (aq (zSR (zm O (ag O C45 (z8 _ nm true hw hnl) ?_))))));rintro _ _ ⟨rfl,rfl⟩;refine a7 O (bU O) (za O (a6 (aK (rfl) (zSR (zmv O (qM O O) (za O (a6 (aM O (hx) (bI (ax (aj (zSR (zmv O (bB (dk O O) (congrArg Value.bool (decide_eq_true (rfl)))) (zm O (ae O (zm O (ae O (a7 O (bB (dk O O) (congrArg Value.bool (decide_eq_true (rfl)))) (a7 O (aL O) (zm O (ae O (zm O (ae O (ag O C35 ((hS9.names :)) ?_))))))))))))))))))))))));rintro v10 w10 ⟨ls,ho10,hp10,hc10,hi10⟩;have hob2:=ho10.sl.form rfl;obtain⟨p10,c10,rfl⟩:=hob2;refine ae O (a7 O (aB O cL) (ae O (a7 O (dk O O) (a7 O (aL O) (za O (a6 (zrf ?_)))))));have hle:ls.length=1:=by
          rw[hp10.length_eq,dq,filt2 _ hx];rfl
         exact⟨bT (by omega),(hS9.chg0 hc10).now⟩
       ·have hw:jH nm=false:=by simpa using hw
        have hn1:nm.length<=100000:=by omega
        refine ag O C33 ((hS7.snapB nm hn1 hw :)) ?_;rintro _ w8 ⟨rfl,rfl⟩;refine zmm O (ag O C36 ((hS7.dropB nm hn1 hw :)) ?_);rintro _ w9 ⟨rfl,rfl⟩;refine zaa O (a6 (aa (aq (zSR (zm O (ag O C45 (z8 _ nm false hw hnl) ?_))))));rintro _ _ ⟨rfl,rfl⟩;refine a7 O (bU O) (za O (a6 (aU (rfl) (zSR (zmv O (bB (dk O O) (congrArg Value.bool (decide_eq_true (rfl)))) (zm O (ae O (zm O (ae O (a7 O (bB (dk O O) (congrArg Value.bool (decide_eq_true (rfl)))) (a7 O (aL O) (zm O (ae O (zm O (ae O (ag O C35 ((hS7.names :)) ?_))))))))))))))));rintro v10 w10 ⟨ls,ho10,hp10,hc10,hi10⟩;have hob3:=ho10.sl.form rfl;obtain⟨p10,c10,rfl⟩:=hob3;refine ae O (a7 O (aB O cL) (ae O (a7 O (dk O O) (a7 O (aL O) (za O (a6 (zrb ?_)))))));have hle:ls.length=1:=by rw[hp10.length_eq];simp
        exact⟨bT (by omega),(hS7.chg0 hc10).now⟩
    ·have hlt:CP bad=false:=by simpa using hlt
     refine ag O C44 (AS _ _ bad false hlt hb1 hbd2) ?_;rintro _ _ ⟨rfl,rfl⟩;refine ae O (a7 O (bU O) (a7 O (aJ O) (zm O (ar O O (ar O O (ar O O (a7 O (aL O) (a6 (aU (rfl) (zSR (za O (a6 (zrt ?_)))))))))))));exact⟨rfl,hc1⟩
 ·have hb:isB l=false:=by simpa using hb
  refine ag O C40 (uF _ _ l false hl1 hl2 hb) ?_;rintro _ _ ⟨rfl,rfl⟩;refine a7 O (bU O) (zm O (ar O O (ar O O (ar O O (a7 O (aL O) (zm O (ar O O (ar O O (ar O O (a7 O (aL O) (zm O (ar O O (ar O O (ar O O (a7 O (aL O) (zm O (ar O O (ar O O (ar O O (a7 O (aL O) (a6 (aU (rfl) (zSR (za O (a6 (zrt ?_))))))))))))))))))))))))));exact⟨rfl,hc1⟩
end Go.Proofs.YtpbfapbajmdlkaaGreat
