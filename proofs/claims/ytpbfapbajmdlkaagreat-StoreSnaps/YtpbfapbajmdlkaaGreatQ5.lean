/- A snapshot tells what there was, whatever comes later; dropped it is gone, and its pages are free again. It holds for every input; there are no conditions. -/
import Derived.Test.YtpbfapbajmdlkaaGreatQ4
namespace Go.Proofs.YtpbfapbajmdlkaaGreat
open Go Go.Sac
set_option maxRecDepth 100000
set_option maxHeartbeats 4000000
theorem H8{l:List (Bs×UInt32)}{i:Nat}{p:Bs×UInt32}(h:l[i]?=some p):(l.drop i).flatMap snB=txt p.1++(be 4 p.2.toNat++(l.drop (i+1)).flatMap snB):=by
 obtain⟨hi,rfl⟩:=List.getElem?_eq_some_iff.1 h;rw[jK hi,qc];unfold snB;rw[bL]
theorem txtT{s z:Bs}(h:s.length<=10):dG ((txt s++z).take 2)=s.length/\((txt s++z).drop 2).take s.length=s/\(txt s++z).drop (2+s.length)=z/\(txt s++z).length=2+s.length+z.length:=by
 unfold txt;have h2:(be 2 s.length).length=2:=aP _ _;refine⟨?_,?_,?_,?_⟩
 ·rw[bL,cR h2,gJ,fJ (by omega)]
 ·rw[bL,ey h2,cR rfl]
 ·rw[ey (by rw[aF,h2])]
 ·rw[aF,aF,h2]
theorem IF{c:TC}{w0 w:World}{s:TP}{sb mr a k:Nat}{root:UInt32}{m:List Pr}{sx:List Sx}{ds:DSt}(h:StoreAt c w0 s sb mr root m sx)(hd:RunD c.w0 w c.b c.kv c.r ds)(hC:PCra c.n k c.key ds a s.P.kept s.V)(hk:k+1<=40000) :
  Ret Tryz.prog 41 #[.pointer (some ⟨c.b,0,none⟩),cJ c.key] w λv w'=>∃(R:PR) (s':TP) (sb' mr':Nat) (sx':List Sx),v=.tuple #[.pointer (some ⟨sb',0,none⟩),.int .i64 0]/\StoreAt ⟨c.w0,c.b,c.kv,c.r,R,c.n,c.key⟩ w' s' sb' mr' root m sx'/\sx'.Perm sx/\s'.k<=k+1/\(∀j:Int,32<=j->j<32+8*c.n->s'.ds.now j=ds.now j)/\Chg (DF c.b c.kv c.r) w w'/\w.heap.size<=sb'/\w.heap.size<=mr'/\∀x∈PF R,w.heap.size<=x:=by
 have hkl:c.key.length=32:=h.pg.2.2.2.2;have hDl:=hd.1.lt;have hDg:=hd.2.2;have hwz:=hd.2.1.1;have hn4:=h.pg.n4;obtain⟨l,hl,htx⟩:=h.txt;obtain⟨sx',hsx,hsl⟩:=sW (λp:Sx=>(p.1,p.2.1)) hl;have hsl:ek sx'=l:=hsl;have hlen:l.length=sx'.length:=by rw[<-hsl];exact dj ..
 have hlx:sx'.length<=4:=by rw[hsx.length_eq];exact h.few
 have h10:∀p∈sx',p.1.length<=10:=λp hp=>h.names p (hsx.subset hp);have hnd:(sx'.map (·.1)).Nodup:=by
  have h1:=h.map.nodup;rw[vK] at h1;have h2:(ek sx).map (·.1)=sx.map (·.1):=by unfold ek;rw[fM];rfl
  rw[h2] at h1;exact(hsx.map _).nodup_iff.2 h1
 have hkt:s.P.kept.txt=ig l:=by
  have:=congrArg Pst.txt h.st
  exact this.trans htx
 have hkr:s.P.kept.root=root:=by
  have:=congrArg Pst.root h.st
  exact this.trans h.rt
 refine enter [4,5] Tryz.func41 O O (al O) (zSR (dh (l:=c.key) O O ?_));rintro w1 kb hkn hK1 hc1 hl1;refine zaa O (zNR (zm O ?_));have hd1:RunD c.w0 w1 c.b c.kv c.r ds:=⟨hd.1.chg hc1 (by simp),hd.2.1.tr hc1,hd.2.2⟩
 refine a7 O (cT 32 gP O I63 O O (hK1) (hkl)) (ag O C81 (HE hd1 hC hk hkl) ?_);rintro _ w2 ⟨R,f,ds2,rfl,hS2,hLd,_,hpd2,hc2,hR2⟩;refine zm O (zx O (zx O (zaa O (a6 (aa (zSR (zmv O (bS O O) (a6 (aK O (λh=>h O) ?_)))))))));refine zKR (zmm O ?_);have hob1:∃c':TC,c'=⟨c.w0,c.b,c.kv,c.r,R,c.n,c.key⟩:=⟨_,rfl⟩
 obtain⟨c',hc'⟩:=hob1;have hlt2:=PS.lt hS2;have hge2:=PS.ge hS2;refine ag O C82 (Hf hS2) ?_;rintro v3 w3 ⟨hv3,hS3,hc3⟩;have hv3:v3=.int .u32 root.toNat:=by rw[hv3,<-hkr];rfl
 subst hv3;refine aY O (nZ (List UInt8)) ?_;rintro _ w4 ⟨mq,rfl,hmn,hM4,hc4,hl4⟩;refine a7 O (bR dz I143 O (zs:=[.pointer none,.int .u32 0,.map none,.bool false]) O O (bN O O O (al O) (bN O O O (al O) (bN O O O (al O) (dX (cs':=[.pointer (some ⟨R.pb,0,none⟩),.int .u32 root.toNat,.map (some mq),.bool false]) O))))) ?_;refine aY O (df (l:=[.pointer (some ⟨R.pb,0,none⟩),.int .u32 root.toNat,.map (some mq),.bool false]) O O) ?_;rintro _ w5 ⟨sq,rfl,hsn,hB5,hc5,hl5⟩;refine za O (zNR (zm O ?_));have hS5:=(hS3.chg0 hc4).chg0 hc5;have hM5:MapAt w5 mq (snV (ek (sx'.take 0))):=hM4.mod hc5 (by simp);refine ag O C84 (HM hS5) ?_;rintro v6 w6 ⟨hv6,hS6,hc6⟩;have hv6:v6=str (ig l):=by rw[hv6,<-hkt];rfl
 subst hv6;have hmz:(ig l).length<=65:=by
  have:=kU l (λp hp=>by rw[<-hsl] at hp;obtain⟨q,hq,rfl⟩:=List.mem_map.1 hp;exact h10 q hq)
  omega
 refine aY O (x_s2b uU9 bg uU5 O) ?_;rintro bv w7 ⟨hbo,hc7,hib⟩;refine ag O C83 (jB bv (ig l) 1 w7 hbo.sl (by decide) (by omega)) ?_;rintro v8 w8 ⟨hv8,hh8⟩;have hb1:(be 1 l.length).length=1:=aP _ _;have e1:dG ((ig l).take 1)=l.length:=by unfold ig;rw[cR hb1,gJ,fJ (by omega)]
 have e2:(ig l).drop 1=l.flatMap snB:=by unfold ig;rw[ey hb1]
 unfold oC at hv8;rw[if_neg (by unfold ig;rw[aF,hb1];omega),e1,e2] at hv8;obtain⟨rv,rfl,hrs,hrb⟩:=hv8;have hN:(UInt64.ofNat l.length).toNat=l.length:=mV (show l.length<18446744073709551616 by omega);have hc8:Chg [] w7 w8:=Chg.heap hh8;have hmw:=hM5.lt;have hsw:=hB5.lt;have k3:=hc3.1;have k4:=hc4.1;have k5:=hc5.1;have k6:=hc6.1;have hmb:mq∉ax bv:=λhh=>by have:=hib.ge mq hh;omega
 have hms:mq≠sq:=by omega
 refine zm O (zx O (zx O (zx O (zaa O (za O (a6 (aa (zSR (za O (a6 (aq (aX [6,7,8,9,10,11] (λq vs w'=>∃(i:Nat) (rv:Value),vs=[.pointer (some ⟨R.pb,0,none⟩),.int .i64 0,.pointer (some ⟨sq,0,none⟩),.int .u64 (UInt64.ofNat l.length).toNat,rv,.int .i64 i]/\i+q=l.length/\Sl w' rv ((l.drop i).flatMap snB)/\ax rv=ax bv/\MapAt w' mq (snV (ek (sx'.take i)))/\Blk w' sq [.pointer (some ⟨R.pb,0,none⟩),.int .u32 root.toNat,.map (some mq),.bool false]/\Chg [] w3 w') (l.length) ?_ ?_))))))))))))
 ·exact⟨0,rv,rfl,by omega,by rw[gW];exact hrs,hrb,((hM5.mod hc6 (by simp)).mod hc7 (by simp)).mod hc8 (by simp),((hB5.chg0 hc6).chg0 hc7).chg0 hc8,hc4.tr (hc5.tr (hc6.tr (hc7.tr hc8)))⟩
 ·rintro q vs J w9 ⟨i,rv,rfl,hiq,hr9,hb9,hM9,hB9,hc9⟩;refine aa (zSR (zmm O (a7 O (gG O eF uU3 (by omega)) ?_)));by_cases hil:i<l.length
  ·refine a7 O (bD (bK O O) (bT (by omega))) ?_;refine zm O (ae O (zm O (ae O (a7 O (dB O O) (a7 O (aL O) (a6 (bI O (rfl) (zKN (aa (aq (zSR (za O (zNR (a7 O (gO (v:=.int .u64 ((0:UInt64).toNat:Nat)) O) ?_))))))))))))));refine a6 (aa (zSR (zm O ?_)));have hob2:∃z,q=z+1:=⟨q-1,by omega⟩
   obtain⟨q,rfl⟩:=hob2;have hob3:∃x,sx'[i]?=some x:=⟨sx'[i]'(by omega),bO _⟩
   obtain⟨x,hx⟩:=hob3;have hlx2:l[i]?=some (x.1,x.2.1):=by rw[<-hsl];unfold ek;rw[mT,hx];rfl
   have hx10:=h10 x (jc hx);rw[H8 hlx2] at hr9;have hob4:=txtT (s:=x.1) (z:=be 4 x.2.1.toNat++(l.drop (i+1)).flatMap snB) hx10;obtain⟨t1,t2,t3,t4⟩:=hob4;have hzl:((l.drop (i+1)).flatMap snB).length<=64:=by
    have h1:=kU (l.drop (i+1)) (λp hp=>by
     have hp:=List.mem_of_mem_drop hp;rw[<-hsl] at hp;obtain⟨q,hq,rfl⟩:=List.mem_map.1 hp;exact h10 q hq)
    unfold ig at h1;rw[aF,aP,bG] at h1;omega
   have hb4:(be 4 x.2.1.toNat).length=4:=aP _ _;have hbz:(be 4 x.2.1.toNat++(l.drop (i+1)).flatMap snB).length=4+((l.drop (i+1)).flatMap snB).length:=by rw[aF,hb4]
   rw[hbz] at t4;refine ag O C85 (nI rv _ 10 w9 hr9 (by rw[t4];omega) (by decide)) ?_;rintro va wa ⟨hva,hha⟩;unfold pQ at hva;rw[t1,t2,t3,if_neg (by rw[t4];omega)] at hva;obtain⟨ra,rfl,hra,hrab⟩:=hva;refine zm O (zx O (zx O (zx O (zaa O (za O (zNR (zmv O (dB O O) (a6 (bI O (rfl) (ah (zm O (ag O C83 (jB ra _ 4 wa hra (by decide) (by rw[aF,hb4];omega)) ?_))))))))))));rintro vb wb ⟨hvb,hhb⟩;unfold oC at hvb;rw[if_neg (by rw[aF,hb4];omega),cR hb4,ey hb4,gJ,fJ (by have:=x.2.1.toNat_lt;omega)] at hvb;obtain⟨rb,rfl,hrb2,hrbb⟩:=hvb;have hcb:Chg [] w9 wb:=(Chg.heap hha).tr (Chg.heap hhb);have hBb:=hB9.chg0 hcb;have hMb:MapAt wb mq (snV (ek (sx'.take i))):=hM9.mod hcb (by simp);refine zm O (zx O (zx O (zx O (zaa O (za O (a6 (ah (zm O (zn O O (a7 O (a8 dz O nH O O) ?_))))))))));have hu32:gQ ((UInt64.ofNat x.2.1.toNat).toNat:Int)=x.2.1:=by rw[Cx];simp
   refine a7 O (aD ft O O (hBb.c O)) (zmm O (a7 O (eJ O eF bu) ?_));rw[hu32];refine aQ O (gC (k:=x.1) ft (fR uU9) O O O hMb) ?_;rintro wc ⟨hMc,hcc,hsc⟩;refine bA (ay (aj (ah (zmv O (aC O O (by omega)) (za O ?_)))));refine a6 ?_;have htk:sx'.take (i+1)=sx'.take i++[x]:=by rw[gm,hx];rfl
   have hne:∀y∈sx'.take i,y.1≠x.1:=by
    have:=hnd.sublist ((oL (i+1) sx').map (·.1))
    rw[htk,fN,kC] at this;exact λy hy e=>this.2.2 y.1 (List.mem_map.2 ⟨y,hy,rfl⟩) x.1 (by simp) e
   have hMc:MapAt wc mq (snV (ek (sx'.take (i+1)))):=by rw[htk,zK x _ hne];exact hMc
   have hbb:ax rb=ax bv:=hrbb.trans (hrab.trans hb9);refine aT (q) (bq (by omega) ?_);exact⟨i+1,rb,rfl,by omega,hrb2.mod hcc (λy hy hh=>by simp at hh;subst hh;rw[hbb] at hy;exact hmb hy),hbb,hMc,hBb.chg hcc (by simp;exact hms.symm),(hc9.tr hcb).t1 hcc hmn⟩
  ·have hil2:i=l.length:=by omega
   subst hil2;refine a7 O (bD (bK O O) (bF (by omega))) ?_;refine zm O (au O O (au O O (a7 O (aI O) (a6 (aJ (rfl) (aN (an (an (aE (aj (aa (zSR (zm O ?_)))))))))))));rw[cd (by omega)] at hM9;have hS9:=hS3.chg0 hc9;have hus:∀x,s.P.kept.st.used x=s.P.now.used x:=λx=>by rw[h.st]
   have hws:∀x,s.P.kept.st.written x=s.P.now.written x:=λx=>by rw[h.st]
   refine a7 O (bD (bS O O) (congrArg Value.bool (decide_eq_false (λh=>h O)))) ?_;refine zm O (ae O (zm O (ae O (ag O C80 (wZ w9 R c.b c.key _ hS9.2.1 c.n (by omega) (λx hx=>hS9.2.2.2.1.ok.used x hx)) ?_))));rintro uv wu ⟨lu,hou,hnu,hmu,_,hcu,hiu⟩;have hob5:=hou.form (n:=lu.length) rfl;obtain⟨pu,cu,rfl⟩:=hob5;have hru:root∈lu:=by
    rw[hmu root];show s.P.kept.st.used root=true;rw[hus root,h.used root];have hob6:=h.live;obtain⟨_,d,pg,ht,_,_⟩:=hob6;have hob7:=Bf ht;obtain⟨q,hq⟩:=hob7;exact⟨root,cO,d,pg,m,ht,by rw[hq];simp⟩
   have hlu:=List.length_pos_of_mem hru;refine ae O (a7 O (az O aZ) (ae O (a7 O (dB O O) (a7 O (aI O) (a6 (aK O (by omega) ?_))))));refine zKR (zma O (za O (a6 (zrf ?_))));have hS10:=hS9.chg0 hcu;have hmv:∀{r:UInt32} {m:List Pr},Tre s r m->Tre ⟨k+1,ds2,⟨s.P.kept.st,opS c.key ds s.P.kept,(a+1) % 2,0,f,false⟩,s.V⟩ r m:=λ⟨q,d,pg,h1,h2,h3⟩=>⟨q,d,pg,h1,λx hx=>(hws x).trans (h2 x hx),h3⟩
   have hFq:∀x∈PF R++DF c.b c.kv c.r,x<w2.heap.size:=hlt2;have k2:=hc2.1;have k1:=hc1.1;refine⟨R,⟨k+1,ds2,⟨s.P.kept.st,opS c.key ds s.P.kept,(a+1) % 2,0,f,false⟩,s.V⟩,sq,mq,sx',rfl,⟨hS10,hB9.chg0 hcu,hM9.mod hcu (by simp),⟨λhh=>by have:=hFq _ hh;omega,by show c.w0.heap.size<=sq;omega⟩,⟨λhh=>by have:=hFq _ hh;omega,hms,by show c.w0.heap.size<=mq;omega⟩,hmv h.live,λp hp=>hmv (h.olds p (hsx.subset hp)),h10,hlx,λx=>?_,⟨λx=>rfl,λx=>rfl,λx hx=>hS10.2.2.2.1.ok.written x hx⟩,rfl,λ_=>hpd2,hkr,⟨l,by rw[hsl],hkt⟩⟩,hsx,aO _,λj hj0 hj1=>?_,?_,by omega,by omega,λx hx=>by have:=hR2 x hx;omega⟩
   ·show s.P.kept.st.used x=true↔_;rw[hus x,h.used x];have hrs:∀r,r∈root::xp sx'↔r∈root::xp sx:=λr=>by
     have:=(hsx.map (·.2.1)).mem_iff (a:=r)
     rw[bZ,bZ];unfold xp;rw[this]
    constructor
    ·rintro⟨r,hr,q⟩;exact⟨r,(hrs r).2 hr,q⟩
    ·rintro⟨r,hr,q⟩;exact⟨r,(hrs r).1 hr,q⟩
   ·show ds2.now j=_;have hsn:=nj (s:=opS c.key ds s.P.kept) hC.sup.ok.txt;rw[hLd.now j (by omega) (by have:=hC.len;omega),if_neg (by omega)]
   ·exact((hc1.tr0' hc2).tr0 hc3).tr0 (hc9.tr hcu)
theorem Dp{ds:DSt}(h0:ds.offAt=0)(hp:ds.pend=[]):ds.crash []=ds:=by
 obtain⟨s,o,kk,p⟩:=ds;cases hp;cases h0;simp[DSt.crash,mE,jg]
abbrev Sn:=Bs×List Pr
def snP(sx:List Sx):List Sn:=sx.map λp=>(p.1,p.2.2)
def sV(m:List Pr)(sn:List Sn):Nat:=2*m.length+1+(sn.map λp=>2*p.2.length+1).sum
theorem yl{m:List Pr}{a b:List Sn}(h:a.Perm b):sV m a=sV m b:=by
 unfold sV;rw[(h.map _).sum_nat]
theorem Ec(m:List Pr)(sx:List Sx):xt m sx=sV m (snP sx):=by
 unfold xt sV snP;rw[fM];rfl
def Gr(w:World)(F F':List Nat):Prop:=∀x∈F',x∈F∨w.heap.size<=x
def SS(w0:World)(F:List Nat)(w:World)(sv dv:Value)(key:List UInt8)(m:List Pr)(sn:List Sn)(n k:Nat):Prop :=
 ∃(c:TC) (s:TP) (sb mr:Nat) (root:UInt32) (sx:List Sx),StoreAt c w s sb mr root m sx/\c.w0=w0/\F=sb::mr::c.F/\sv=.pointer (some ⟨sb,0,none⟩)/\dv=.pointer (some ⟨c.b,0,none⟩)/\c.key=key/\(snP sx).Perm sn/\c.n=n/\s.k<=k
theorem yN{nm:Bs}:∀{sx:List Sx},(sx.map (·.1)).Nodup->snP (qF nm sx)=(snP sx).filter (λp=>decide (p.1≠nm))
 | [], _ => rfl
 | p :: l, h => by
  rw[eY,jI] at h;unfold qF;by_cases e:nm=p.1
  ·rw[if_pos e];unfold snP;rw[eY,ze,if_neg (by simp[e])];refine(List.filter_eq_self.2 (λq hq=>?_)).symm;obtain⟨z,hz,rfl⟩:=List.mem_map.1 hq;refine decide_eq_true (λe2=>h.1 (List.mem_map.2 ⟨z,hz,?_⟩));rw[<-e];exact e2
  ·rw[if_neg e];have ih:=yN (nm:=nm) h.2;unfold snP at ih ⊢;rw[eY,eY,ze,if_pos (by simpa using λq=>e q.symm),ih]
theorem StoreAt.nd{c:TC}{w:World}{s:TP}{sb mr:Nat}{root:UInt32}{m:List Pr}{sx:List Sx}(h:StoreAt c w s sb mr root m sx):(sx.map (·.1)).Nodup:=by
 have h1:=h.map.nodup;rw[vK] at h1;have h2:(ek sx).map (·.1)=sx.map (·.1):=by unfold ek;rw[fM];rfl
 rw[h2] at h1;exact h1
theorem BV{w0 w:World}{b r n:Nat}{kv:Value}{key:List UInt8}(hd:RunD w0 w b kv r (dsN (32+8*n)))(hn:4<=n/\n<=400)(hkl:key.length=32) :
  Ret Tryz.prog 30 #[.pointer (some ⟨b,0,none⟩),cJ key] w λv w'=>∃F sv,v=.tuple #[sv,.int .i64 0]/\SS w0 F w' sv (.pointer (some ⟨b,0,none⟩)) key [] [] n 4/\Chg (DF b kv r) w w'/\Gr w (DF b kv r) F:=by
 refine(Make_ok w0 w b r n 1 kv key _ hd (λw1 hc1=>?_) hn (by decide) hkl).mono ?_
 ·refine(Df (n:=n) V0 ⟨hd.1.chg hc1 (by simp),hd.2.1.tr hc1,hd.2.2⟩ hn hkl).mono ?_;rintro v w' ⟨R,a,ds,rfl,h1,h2,h3⟩;exact⟨R,2,1,a,ds,rfl,h1,h2,h3⟩
 rintro v w' ⟨c,s,sb,mr,id,rfl,hS,rfl,rfl,rfl,rfl,rfl,rfl,hk,hc,hsb,hmr,hF⟩;refine⟨_,_,rfl,⟨c,s,sb,mr,id,[],hS,rfl,rfl,rfl,rfl,rfl,.refl _,rfl,hk⟩,hc,λx hx=>?_⟩;rcases List.mem_cons.1 hx with rfl|hx
 ·exact .inr hsb
 ·rcases List.mem_cons.1 hx with rfl|hx
  ·exact .inr hmr
  ·exact hF x hx
section
variable {w0 w w':World}{F:List Nat}{sv dv:Value}{key:List UInt8}{m:List Pr}{sn:List Sn}{n k:Nat}
theorem SS.now(h:SS w0 F w sv dv key m sn n k):Chg [] w0 w:=by
 obtain⟨c,s,sb,mr,root,sx,h,rfl,rfl,rfl,rfl,rfl,hp,rfl,hk⟩:=h;exact PS.now h.pg
theorem SS.lt(h:SS w0 F w sv dv key m sn n k):∀x∈F,x<w.heap.size:=by
 obtain⟨c,s,sb,mr,root,sx,h,rfl,rfl,rfl,rfl,rfl,hp,rfl,hk⟩:=h;intro x hx;rcases List.mem_cons.1 hx with rfl|hx
 ·exact h.blk.lt
 ·rcases List.mem_cons.1 hx with rfl|hx
  ·exact h.map.lt
  ·exact h.pg.lt x hx
theorem SS.ge(h:SS w0 F w sv dv key m sn n k):∀x∈F,w0.heap.size<=x:=by
 obtain⟨c,s,sb,mr,root,sx,h,rfl,rfl,rfl,rfl,rfl,hp,rfl,hk⟩:=h;intro x hx;rcases List.mem_cons.1 hx with rfl|hx
 ·exact h.sF.2
 ·rcases List.mem_cons.1 hx with rfl|hx
  ·exact h.mF.2.2
  ·exact h.pg.ge x hx
theorem StoreAt.chg{c:TC}{s:TP}{sb mr:Nat}{root:UInt32}{sx:List Sx}{S:List Nat}(h:StoreAt c w s sb mr root m sx)(hc:Chg S w w')(hn:∀x∈sb::mr::c.F,x∉S)(hs:∀x∈S,c.w0.heap.size<=x):StoreAt c w' s sb mr root m sx :=
 ⟨h.pg.chg hc (λx hx=>hn x (bP _ (bP _ hx))) hs,h.blk.chg hc (hn _ cO),h.map.mod hc (hn _ (bP _ cO)),h.sF,h.mF,h.live,h.olds,h.names,h.few,h.used,h.com,h.st,h.pend,h.rt,h.txt⟩
theorem SS.chg{S:List Nat}(h:SS w0 F w sv dv key m sn n k)(hc:Chg S w w')(hn:∀x∈F,x∉S)(hs:∀x∈S,w0.heap.size<=x):SS w0 F w' sv dv key m sn n k:=by
 obtain⟨c,s,sb,mr,root,sx,h,rfl,rfl,rfl,rfl,rfl,hp,rfl,hk⟩:=h;exact⟨c,s,sb,mr,root,sx,h.chg hc hn hs,rfl,rfl,rfl,rfl,rfl,hp,rfl,hk⟩
theorem SS.chg0(h:SS w0 F w sv dv key m sn n k)(hc:Chg [] w w'):SS w0 F w' sv dv key m sn n k:=h.chg hc (by simp) (by simp)
theorem SS.sort(h:SS w0 F w sv dv key m sn n k):dY m:=by
 obtain⟨c,s,sb,mr,root,sx,h,rfl,rfl,rfl,rfl,rfl,hp,rfl,hk⟩:=h;exact h.live.sort
def SR(w0:World)(F:List Nat)(w w':World)(sv dv:Value)(key:List UInt8)(m:List Pr)(sn:List Sn)(n k:Nat):Prop :=
 (∃F',SS w0 F' w' sv dv key m sn n k/\Gr w F F')/\Chg F w w'
theorem SS.doA{lv:Value}{l:List Wr}(h:SS w0 F w sv dv key m sn n k)(hl:Sl w lv l)(hlF:∀x∈ax lv,x∉F)(hb:isB l=true)(hm:m.length+l.length<=900)(hk:k+24*l.length+1<=40000)(hr:300<=n->sV m sn+2*(m.length+l.length)+30<=n) :
  Ret Tryz.prog 32 #[sv,lv] w λr w'=>∃(e:Int) (M:List Pr),r=.int .i64 e/\DoE m l (n<sV m sn+2*(m.length+l.length)+30) e M/\SR w0 F w w' sv dv key M sn n (k+24*l.length+1):=by
 obtain⟨c,s,sb,mr,root,sx,h,rfl,rfl,rfl,rfl,rfl,hp,rfl,hk1⟩:=h;have hpg:xt m sx=sV m sn:=by rw[Ec,yl hp]
 refine(Do_ok c w s sb mr root m sx lv l h hl (λx hx hh=>hlF x hx (bP _ (bP _ hh))) hb hm (by omega) (by rw[hpg];exact hr)).mono ?_;rintro r w' ⟨⟨e,M,rfl,hE,c',s',id,hS,hcc,hF,hk2⟩,hc⟩;have e0:c'.w0=c.w0:=by rw[hcc]
 have e1:c'.b=c.b:=by rw[hcc]
 have e2:c'.key=c.key:=by rw[hcc]
 have e3:c'.n=c.n:=by rw[hcc]
 rw[hpg] at hE;refine⟨e,M,rfl,hE,⟨_,⟨c',s',sb,mr,id,sx,hS,e0,rfl,rfl,by rw[e1],e2,hp,e3,by omega⟩,λx hx=>?_⟩,hc.mono (λx hx _=>?_)⟩
 ·rcases List.mem_cons.1 hx with rfl|hx
  ·exact .inl cO
  ·rcases List.mem_cons.1 hx with rfl|hx
   ·exact .inl (bP _ cO)
   ·exact(hF x hx).imp (λq=>bP _ (bP _ q)) (λq=>q)
 ·rcases List.mem_cons.1 hx with rfl|hx
  ·exact cO
  ·exact bP _ (bP _ hx)
theorem SS.do_{lv:Value}{l:List Wr}(h:SS w0 F w sv dv key m sn n k)(hl:Sl w lv l)(hlF:∀x∈ax lv,x∉F)(hb:isB l=true)(hm:m.length+l.length<=900)(hk:k+24*l.length+1<=40000)(hr:sV m sn+2*(m.length+l.length)+30<=n) :
  Ret Tryz.prog 32 #[sv,lv] w λr w'=>r=.int .i64 0/\SR w0 F w w' sv dv key (hU m l) sn n (k+24*l.length+1):=by
 refine(h.doA hl hlF hb hm hk (λ_=>hr)).mono ?_;rintro r w' ⟨e,M,rfl,⟨rfl,rfl⟩|⟨_,_,q⟩,h2⟩
 ·exact⟨rfl,h2⟩
 ·omega
theorem SS.aft{c:TC}{s:TP}{sb mr:Nat}{root:UInt32}{sx:List Sx}(ha:Aft c w w' s sb root m sx)(hp:(snP sx).Perm sn)(hk:s.k<=k)(hc:Chg (sb::c.F) w w') :
  SR c.w0 (sb::mr::c.F) w w' (.pointer (some ⟨sb,0,none⟩)) (.pointer (some ⟨c.b,0,none⟩)) c.key m sn c.n (k+1):=by
 obtain⟨c',s',mr',hS,hcc,hF,hk2,hmr⟩:=ha;have e0:c'.w0=c.w0:=by rw[hcc]
 have e1:c'.b=c.b:=by rw[hcc]
 have e2:c'.key=c.key:=by rw[hcc]
 have e3:c'.n=c.n:=by rw[hcc]
 refine⟨⟨_,⟨c',s',sb,mr',root,sx,hS,e0,rfl,rfl,by rw[e1],e2,hp,e3,by omega⟩,λx hx=>?_⟩,hc.mono (λx hx _=>?_)⟩
 ·rcases List.mem_cons.1 hx with rfl|hx
  ·exact .inl cO
  ·rcases List.mem_cons.1 hx with rfl|hx
   ·exact .inr hmr
   ·exact(hF x hx).imp (λq=>bP _ (bP _ q)) (λq=>q)
 ·rcases List.mem_cons.1 hx with rfl|hx
  ·exact cO
  ·exact bP _ (bP _ hx)
theorem yg{sx:List Sx}{nm:Bs}(hp:(snP sx).Perm sn):(∃p∈sx,p.1=nm)↔nm∈sn.map (·.1):=by
 rw[<-(hp.map _).mem_iff];unfold snP;rw[fM]
 constructor
 ·rintro⟨p,h,e⟩;exact List.mem_map.2 ⟨p,h,e⟩
 ·intro h;obtain⟨p,h,e⟩:=List.mem_map.1 h;exact⟨p,h,e⟩
theorem sn_len{sx:List Sx}(hp:(snP sx).Perm sn):sx.length=sn.length:=by
 rw[<-hp.length_eq];exact(dj ..).symm
theorem SS.snap(h:SS w0 F w sv dv key m sn n k)(nm:Bs)(hn:pG nm=true)(hp:nm∉sn.map (·.1))(h4:sn.length<4)(hk:k+1<=40000) :
  Ret Tryz.prog 33 #[sv,str nm] w λr w'=>r=.int .i64 0/\SR w0 F w w' sv dv key m (sn++[(nm,m)]) n (k+1):=by
 obtain⟨c,s,sb,mr,root,sx,h,rfl,rfl,rfl,rfl,rfl,hq,rfl,hk1⟩:=h;refine(Snap_ok h nm hn (λz=>hp ((yg hq).1 z)) (by rw[sn_len hq];exact h4) (by omega)).mono ?_;rintro r w' ⟨rfl,ha,hc⟩;exact⟨rfl,SS.aft ha (by unfold snP;rw[fN];exact hq.append_right _) hk1 hc⟩
theorem SS.drop(h:SS w0 F w sv dv key m sn n k)(nm:Bs)(hn:pG nm=true)(hp:nm∈sn.map (·.1))(hk:k+1<=40000) :
  Ret Tryz.prog 36 #[sv,str nm] w λr w'=>r=.int .i64 0/\SR w0 F w w' sv dv key m (sn.filter (λp=>decide (p.1≠nm))) n (k+1):=by
 obtain⟨c,s,sb,mr,root,sx,h,rfl,rfl,rfl,rfl,rfl,hq,rfl,hk1⟩:=h;refine(Drop_ok h nm hn ((yg hq).2 hp) (by omega)).mono ?_;rintro r w' ⟨rfl,ha,hc⟩;exact⟨rfl,SS.aft ha (by rw[yN h.nd];exact hq.filter _) hk1 hc⟩
theorem SS.snapT(h:SS w0 F w sv dv key m sn n k)(nm:Bs)(hl:nm.length<=100000)(hn:pG nm=true)(hp:nm∈sn.map (·.1)) :
  Ret Tryz.prog 33 #[sv,str nm] w λr w'=>r=.int .i64 101/\w=w':=by
 obtain⟨c,s,sb,mr,root,sx,h,rfl,rfl,rfl,rfl,rfl,hq,rfl,hk1⟩:=h;exact DE h nm hl hn ((yg hq).2 hp)
theorem SS.dropN(h:SS w0 F w sv dv key m sn n k)(nm:Bs)(hl:nm.length<=100000)(hn:pG nm=true)(hp:nm∉sn.map (·.1)) :
  Ret Tryz.prog 36 #[sv,str nm] w λr w'=>r=.int .i64 100/\w=w':=by
 obtain⟨c,s,sb,mr,root,sx,h,rfl,rfl,rfl,rfl,rfl,hq,rfl,hk1⟩:=h;exact Gj h nm hl hn (λz=>hp ((yg hq).1 z))
theorem SS.doB{lv:Value}{l:List Wr}(h:SS w0 F w sv dv key m sn n k)(hl:Sl w lv l)(hll:l.length<=100000)(hb:isB l=false) :
  Ret Tryz.prog 32 #[sv,lv] w λr w'=>r=.int .i64 12/\Chg [] w w':=by
 obtain⟨c,s,sb,mr,root,sx,h,rfl,rfl,rfl,rfl,rfl,hp,rfl,hk1⟩:=h;refine enter [4] Tryz.func32 O O (al O) (zSR (za O (a6 (aa (aq (zSR (zm O (zn O O (a7 O (a8 dz O I4 O O) (a7 O (aD uU4 O O (h.blk.c O)) (za O (a6 (aJ (rfl) (zSR (zm O (ag O C72 (wG w _ l hl hll) ?_))))))))))))))));rintro _ w1 ⟨rfl,hc1⟩;rw[hb];refine a7 O (cg O) (za O (a6 (aV (rfl) (zSR (za O (a6 (zrb ?_)))))));exact⟨rfl,hc1⟩
theorem SS.get(h:SS w0 F w sv dv key m sn n k)(ky v:Bs)(b:Bool)(hv:(lK m ky).getD []=v)(hb:fz m ky=b) :
  Ret Tryz.prog 47 #[sv,str ky] w λr w'=>r=.tuple #[str v,.bool b]/\Chg [] w w':=by
 obtain⟨c,s,sb,mr,root,sx,h,rfl,rfl,rfl,rfl,rfl,hp,rfl,hk1⟩:=h;exact SGet_ok h ky v b hv hb
theorem SS.len(h:SS w0 F w sv dv key m sn n k) :
  Ret Tryz.prog 39 #[sv] w λr w'=>r=.int .i64 m.length/\Chg [] w w':=by
 obtain⟨c,s,sb,mr,root,sx,h,rfl,rfl,rfl,rfl,rfl,hp,rfl,hk1⟩:=h;exact SLen_ok h
theorem SS.scan(h:SS w0 F w sv dv key m sn n k)(lo hi:Bs)(most:Nat)(hm1:most<=1000) :
  Ret Tryz.prog 43 #[sv,str lo,str hi,.int .i64 most] w λr w'=>Own w' r (pN m lo hi most)/\In r [] w.heap.size/\Chg [] w w':=by
 obtain⟨c,s,sb,mr,root,sx,h,rfl,rfl,rfl,rfl,rfl,hp,rfl,hk1⟩:=h;exact IE h lo hi most hm1
theorem SS.dead(h:SS w0 F w sv dv key m sn n k) :
  Ret Tryz.prog 46 #[sv] w λr w'=>r=.bool false/\w=w':=by
 obtain⟨c,s,sb,mr,root,sx,h,rfl,rfl,rfl,rfl,rfl,hp,rfl,hk1⟩:=h;refine enter [2] Tryz.func46 O O (al O) (zSR (za O (zNR (zm O (zn O O (a7 O (a8 dz O I4 O O) (a7 O (aD uU4 O O (h.blk.c O)) (za O (a6 (zrf ?_))))))))));exact⟨rfl,rfl⟩
theorem H7{sx:List Sx}{q:Sn}(hp:(snP sx).Perm sn)(hq:q∈sn):∃p∈sx,p.1=q.1/\p.2.2=q.2:=by
 have hob1:=List.mem_map.1 (hp.mem_iff.2 hq);obtain⟨p,h,rfl⟩:=hob1;exact⟨p,h,rfl,rfl⟩
theorem SS.getAt(h:SS w0 F w sv dv key m sn n k)(q:Sn)(hq:q∈sn)(ky v:Bs)(b:Bool)(hv:(lK q.2 ky).getD []=v)(hb:fz q.2 ky=b) :
  Ret Tryz.prog 34 #[sv,str q.1,str ky] w λr w'=>r=.tuple #[str v,.bool b,.int .i64 0]/\Chg [] w w':=by
 obtain⟨c,s,sb,mr,root,sx,h,rfl,rfl,rfl,rfl,rfl,hp,rfl,hk1⟩:=h;have hob2:=H7 hp hq;obtain⟨p,hpx,e1,e2⟩:=hob2;rw[<-e1];exact Ga h p hpx ky v b (by rw[e2];exact hv) (by rw[e2];exact hb)
theorem SS.getN(h:SS w0 F w sv dv key m sn n k)(nm ky:Bs)(hq:nm∉sn.map (·.1)) :
  Ret Tryz.prog 34 #[sv,str nm,str ky] w λr w'=>r=.tuple #[str [],.bool false,.int .i64 100]/\w=w':=by
 obtain⟨c,s,sb,mr,root,sx,h,rfl,rfl,rfl,rfl,rfl,hp,rfl,hk1⟩:=h;exact Gb h nm ky (λp hpx e=>hq ((yg hp).1 ⟨p,hpx,e⟩))
theorem SS.scanAt(h:SS w0 F w sv dv key m sn n k)(q:Sn)(hq:q∈sn)(lo hi:Bs)(most:Nat)(hm1:most<=1000) :
  Ret Tryz.prog 48 #[sv,str q.1,str lo,str hi,.int .i64 most] w λr w'=>(∃ov,r=.tuple #[ov,.int .i64 0]/\Own w' ov (pN q.2 lo hi most)/\In ov [] w.heap.size)/\Chg [] w w':=by
 obtain⟨c,s,sb,mr,root,sx,h,rfl,rfl,rfl,rfl,rfl,hp,rfl,hk1⟩:=h;have hob3:=H7 hp hq;obtain⟨p,hpx,e1,e2⟩:=hob3;rw[<-e1,<-e2];exact DG h p hpx lo hi most hm1
theorem SS.scanN(h:SS w0 F w sv dv key m sn n k)(nm lo hi:Bs)(most:Int)(hq:nm∉sn.map (·.1)) :
  Ret Tryz.prog 48 #[sv,str nm,str lo,str hi,.int .i64 most] w λr w'=>r=.tuple #[.slice none 0 0,.int .i64 100]/\w=w':=by
 obtain⟨c,s,sb,mr,root,sx,h,rfl,rfl,rfl,rfl,rfl,hp,rfl,hk1⟩:=h;have hlook:Value.tuple #[(cE nm (snV (ek sx))).getD (.int .u32 0),.bool (cE nm (snV (ek sx))).isSome]=.tuple #[.int .u32 0,.bool false]:=by rw[H6 h (λp hpx e=>hq ((yg hp).1 ⟨p,hpx,e⟩))];rfl
 refine enter [10,11] Tryz.func48 O O (al O) (zSR (zaa O (zNR (zm O (zn O O (a7 O (a8 dz O nH O O) (a7 O (aD ft O O (h.blk.c O)) (zmv O (bD (iH (k:=nm) ft (fR uU9) I25 O O O h.map) hlook) ?_))))))));refine zm O (zx O (zx O (zaa O (a6 (aa (zSR (zmv O (cg O) (a6 (aV (rfl) (zSR (zaa O (a6 (zrt ?_)))))))))))));exact⟨rfl,rfl⟩
theorem SS.names(h:SS w0 F w sv dv key m sn n k) :
  Ret Tryz.prog 35 #[sv] w λv w'=>∃l,Own w' v l/\l.Perm (sn.map (·.1))/\Chg [] w w'/\In v [] w.heap.size:=by
 obtain⟨c,s,sb,mr,root,sx,h,rfl,rfl,rfl,rfl,rfl,hp,rfl,hk1⟩:=h;refine(BU w sb mr _ _ _ (ek sx) h.blk h.map (by unfold ek;rw[dj];have:=h.few;omega)).mono ?_;rintro v w' ⟨l,h1,h2,h3,h4⟩;refine⟨l,h1,h2.trans ?_,h3,h4⟩
 have:=hp.map (·.1)
 unfold snP at this;unfold ek;rw[fM] at this ⊢;exact this
theorem SS.pages(h:SS w0 F w sv dv key m sn n k) :
  Ret Tryz.prog 38 #[sv] w λr w'=>(∃(av bv:Value) (la lb:List UInt32),r=.tuple #[av,bv]/\Own w' av la/\Own w' bv lb/\la.length=lb.length/\la.length<=sV m sn/\0<la.length/\la.length<=n)/\Chg [] w w':=by
 obtain⟨c,s,sb,mr,root,sx,h,rfl,rfl,rfl,rfl,rfl,hp,rfl,hk1⟩:=h;rw[<-yl hp,<-Ec];exact IH h
theorem SS.crash0(h:SS w0 F w sv dv key m sn n k)(hn:n=300)(cv:Value)(hcf:∃p c,cv=.slice p 0 c) :
  Ret Tryz.prog 69 #[dv,cv] w λ_ w'=>SS w0 F w' sv dv key m sn n k/\Chg F w w':=by
 obtain⟨c,s,sb,mr,root,sx,h,rfl,rfl,rfl,rfl,rfl,hp,rfl,hk1⟩:=h;refine(BM h.pg (h.pend hn) cv hcf).mono ?_;rintro v w' ⟨hS,hc⟩;have hc:Chg c.F w w':=hc;exact⟨⟨c,s,sb,mr,root,sx,⟨hS,h.blk.chg hc h.sF.1,h.map.mod hc h.mF.1,h.sF,h.mF,h.live,h.olds,h.names,h.few,h.used,h.com,h.st,h.pend,h.rt,h.txt⟩,rfl,rfl,rfl,rfl,rfl,hp,rfl,hk1⟩,hc.mono (λx hx _=>bP _ (bP _ hx))⟩
theorem SS.open_(h:SS w0 F w sv dv key m sn n k)(hn:n=300)(hk:k+1<=40000) :
  Ret Tryz.prog 41 #[dv,cJ key] w λv w'=>∃F' sv',v=.tuple #[sv',.int .i64 0]/\SS w0 F' w' sv' dv key m sn n (k+1)/\Gr w F F'/\Chg F w w':=by
 obtain⟨c,s,sb,mr,root,sx,h,rfl,rfl,rfl,rfl,rfl,hp,rfl,hk1⟩:=h;have hC:=h.pg.2.2.2.1.crash (by omega) [];rw[Dp h.pg.2.2.2.1.ok.off (h.pend hn)] at hC;refine(IF h h.pg.1 hC (by omega)).mono ?_;rintro v w' ⟨R,s',sb',mr',sx',rfl,hS,hpx,hk2,_,hc,hsb,hmr,hR⟩;refine⟨_,_,rfl,⟨_,s',sb',mr',root,sx',hS,rfl,rfl,rfl,rfl,rfl,(hpx.map _).trans hp,rfl,by omega⟩,λx hx=>?_,hc.mono (λx hx _=>?_)⟩
 ·rcases List.mem_cons.1 hx with rfl|hx
  ·exact .inr hsb
  ·rcases List.mem_cons.1 hx with rfl|hx
   ·exact .inr hmr
   ·rcases List.mem_append.1 hx with hx|hx
    ·exact .inr (hR x hx)
    ·exact .inl (bP _ (bP _ (cA _ hx)))
 ·exact bP _ (bP _ (cA _ hx))
end
theorem yL(w0 w:World)(h0:Chg [] w0 w) :
  Ret Tryz.prog 31 #[] w λv w'=>∃b kv r,v=.pointer (some ⟨b,0,none⟩)/\RunD w0 w' b kv r (dsN (32+8*300))/\Chg [] w w'/\∀x∈DF b kv r,w.heap.size<=x:=by
 refine enter [0] Tryz.func31 O O (al O) (zSR (za O (zNR (ag O C37 (HL w0 w (32+8*300) (by omega) h0) ?_))));rintro _ w1 ⟨b,kv,r,rfl,hd1,hc1,hF1⟩;refine za O (a6 (zrf ?_));exact⟨b,kv,r,rfl,hd1,hc1,hF1⟩
def kK:List UInt8:=0::0::0::0::4::List.replicate 27 0
theorem Gr.not{w:World}{F F':List Nat}{x:Nat}(h:Gr w F F')(hx:x∉F)(hw:x<w.heap.size):x∉F':=λhh=>by
 rcases h x hh with q|q
 ·exact hx q
 ·omega
theorem D8(w:World):Ret Tryz.prog 29 #[] w λv w'=>v=.bool true/\Chg [] w w':=by
 refine enter [0] Tryz.func29 O O (al O) (zSR (za O (zNR (ag O C31 (yL w w (Chg.refl _)) ?_))));rintro _ w1 ⟨b,kv,r,rfl,hd1,hc1,hF1⟩;refine a7 O (kg (List.replicate 32 (0:UInt8)) ([(4,4)]) (l:=kK) gP I63 O I5 (by kernel_rfl) O (by kernel_rfl) O (by kernel_rfl)) ?_;refine aU (List.replicate 32 (0:UInt8)) I63 O O O ?_;rintro w2 b2 hn2 ha2 hc2 hl2;refine za O (aQ O (bH 32 I63 O (ha2) O O (rfl) (rfl)) ?_);rintro w3 ⟨ha3,hc3,hs3⟩;refine zNR (zm O ?_);have hd3:=hd1.chg0 (hc2.t1 hc3 hn2);refine a7 O (cT 32 gP O I63 O O (ha3) (rfl)) (ag O C30 (BV hd3 (by decide) O) ?_);rintro _ w4 ⟨F,sv,rfl,hS4,hc4,hG4⟩;refine zm O (zx O (zx O (zaa O (a6 (aa (zSR (zm O ?_)))))));have hb2:b2∉F:=λhh=>by
  have q:=ha3.lt;rcases hG4 b2 hh with g|g
  ·have:=hd1.1.lt b2 g;omega
  ·omega
 have hb4:=(ha3.chg hc4 (λhh=>by have:=hd1.1.lt b2 hh;omega))
 refine a7 O (bD (bS O O) (congrArg Value.bool (decide_eq_false (λh=>h O)))) ?_;refine zm O (ae O (zm O (ae O (a7 O (bR lJ I66 O (zs:=[str [],str [],.bool false]) O O (bN O O O (al O) (bN O O O (al O) (dX (cs':=[str [97],str [49],.bool false]) O)))) ?_))));refine ae O (aY O (oc (⟨[97],[49],false⟩:Wr) jC I66 O O O O O (by decide)) ?_);rintro _ w5 ⟨l5,rfl,hB5,hn5,hc5,hl5⟩;refine ae O ?_;have hF4:=hS4.lt;have hS5:=hS4.chg0 hc5;have hx5:l5∉F:=λhh=>by have:=hF4 _ hh;omega
 refine ag O C32 ((hS5.do_ (Blk.sl1 hB5) (λx hx=>by simp[ax] at hx;subst hx;exact hx5) O (by decide) (by decide) (by decide) :)) ?_;rintro _ w6 ⟨rfl,⟨F6,hS6,hG6⟩,hc6⟩;refine ae O (a7 O (bD (bS O O) (congrArg Value.bool (decide_eq_false (λh=>h O)))) ?_);refine a7 O (aI O) (zm O (ae O (zm O (ae O (ag O C33 ((hS6.snap [120] O (by simp) (by decide) (by decide) :)) ?_)))));rintro _ w7 ⟨rfl,⟨F7,hS7,hG7⟩,hc7⟩;refine ae O (a7 O (bD (bS O O) (congrArg Value.bool (decide_eq_false (λh=>h O)))) ?_);refine a7 O (aI O) (zm O (ae O (zm O (ae O (a7 O (bR lJ I66 O (zs:=[str [],str [],.bool false]) O O (bN O O O (al O) (bN O O O (al O) (dX (cs':=[str [97],str [50],.bool false]) O)))) ?_)))));refine ae O (aY O (oc (⟨[97],[50],false⟩:Wr) jC I66 O O O O O (by decide)) ?_);rintro _ w8 ⟨l8,rfl,hB8,hn8,hc8,hl8⟩;refine ae O ?_;have hF7:=hS7.lt;have hS8:=hS7.chg0 hc8;have hx8:l8∉F7:=λhh=>by have:=hF7 _ hh;omega
 refine ag O C32 ((hS8.do_ (Blk.sl1 hB8) (λx hx=>by simp[ax] at hx;subst hx;exact hx8) O (by decide) (by decide) (by decide) :)) ?_;rintro _ w9 ⟨rfl,⟨F9,hS9,hG9⟩,hc9⟩;refine ae O (a7 O (bS O O) (a7 O (aI O) (a6 (aK O (λh=>h O) ?_))));refine zKR (zm O (ag O C69 (hS9.crash0 O (.slice none 0 0) ⟨_,_,rfl⟩) ?_));rintro v10 w10 ⟨hS10,hc10⟩;refine zNR (zm O ?_);have kk:=ha3.lt;have k4:=hc4.1;have k5:=hc5.1;have k6:=hc6.1;have k7:=hc7.1;have k8:=hc8.1;have hb6:=hG6.not hb2 (by omega);have hb7:=hG7.not hb6 (by omega);have hb9:=hG9.not hb7 (by omega);have ha10:Arr w10 b2 kK:=(((((hb4.chg0 hc5).chg hc6 hb2).chg hc7 hb6).chg0 hc8).chg hc9 hb7).chg hc10 hb9;refine a7 O (cT 32 gP O I63 O O (ha10) (rfl)) (ag O C41 ((hS10.open_ O (by decide) :)) ?_);rintro _ w11 ⟨F11,sv2,rfl,hS11,hG11,hc11⟩;refine zm O (zx O (zx O (zaa O (a6 (aa (zSR (zmv O (bS O O) (a6 (aK O (λh=>h O) ?_)))))))));refine zKR (zm O (ag O C47 ((hS11.get [97] [50] true O O :)) ?_));rintro _ w12 ⟨rfl,hc12⟩;refine zm O (zx O (zx O (zaa O (zNR (zm O ?_)))));have hS12:=hS11.chg0 hc12;refine ag O C34 ((hS12.getAt ([120],[([97],[49])]) (by decide) [97] [49] true O O :)) ?_;rintro _ w13 ⟨rfl,hc13⟩;refine zm O (zx O (zx O (zx O (zaa O (za O (zNR (zm O ?_)))))));have hS13:=hS12.chg0 hc13;refine ag O C34 ((hS13.getN [121] [97] (by decide) :)) ?_;rintro _ w14 ⟨rfl,rfl⟩;refine zm O (zx O (zx O (zx O (zaa O (za O (zNR (zm O (ag O C38 ((hS13.pages :)) ?_))))))));rintro _ w14 ⟨⟨av,bv,la,lb,rfl,hla,hlb,hll,_⟩,hc14⟩;refine zm O (zx O (zx O (zaa O (zNR (zmm O (ae O (zm O (ae O ?_))))))));have hS14:=hS13.chg0 hc14;have hob1:=hla.sl.form rfl;obtain⟨pa,ca,rfl⟩:=hob1;have hob2:=hlb.sl.form rfl;obtain⟨pb,cb,rfl⟩:=hob2;refine a7 O (bD (vl O O) (congrArg Value.bool (decide_eq_true (rfl)))) (a7 O (aL O) (zm O (ae O (zm O (ae O (a7 O (bD (dB O O) (congrArg Value.bool (decide_eq_true (rfl)))) (a7 O (aL O) (zm O (ae O (zmv O (aL O) (zm O (ae O (zm O (ae O (a7 O (bD (vl O O) (congrArg Value.bool (decide_eq_true (rfl)))) (a7 O (aL O) (zm O (ae O (zm O (ae O (a7 O (bD (dB O O) (congrArg Value.bool (decide_eq_true (rfl)))) (a7 O (aL O) (zm O (ae O (zm O (ae O (ag O C39 ((hS14.len :)) ?_)))))))))))))))))))))))))));rintro _ w15 ⟨rfl,hc15⟩;refine ae O ?_;have hS15:=hS14.chg0 hc15;refine a7 O (bD (dB O O) (congrArg Value.bool (decide_eq_true (rfl)))) (a7 O (aL O) (zm O (ae O (zm O (ae O (a7 O (az O aZ) (ae O (zm O (ae O (a7 O (az O aZ) (ae O (a7 O (bD (dB O O) (bT (by omega))) ?_))))))))))));refine a7 O (aL O) (zm O (ae O (zm O (ae O (ag O C32 ((hS15.doB (Sl.nil (α:=Wr) _ 0) (by decide) O :)) ?_)))));rintro _ w16 ⟨rfl,hc16⟩;refine ae O ?_;have hS16:=hS15.chg0 hc16;refine a7 O (bD (dB O O) (congrArg Value.bool (decide_eq_true (rfl)))) (a7 O (aL O) (zm O (ae O (zm O (ae O (ag O C36 ((hS16.dropN [121] (by decide) O (by decide) :)) ?_))))));rintro _ w17 ⟨rfl,rfl⟩;refine ae O (a7 O (bD (dB O O) (congrArg Value.bool (decide_eq_true (rfl)))) (a7 O (aL O) (zm O (ae O (zm O (ae O (ag O C33 ((hS16.snapT [120] (by decide) O (by decide) :)) ?_)))))));rintro _ w18 ⟨rfl,rfl⟩;refine ae O (a7 O (dB O O) (a7 O (aL O) (za O (a6 (zrf ?_)))));exact⟨rfl,hS16.now⟩
theorem Ix(w:World)(lv:Value)(l:List Wr)(hl:Sl w lv l)(hl2:l.length<=9223372036854775807) :
  Ret Tryz.prog 40 #[lv] w λv w'=>v=.bool (isB l)/\w=w':=by
 obtain⟨pl,cl,rfl⟩:=hl.form rfl;refine enter [2] Tryz.func40 O O (al O) (zSR (za O (a6 (aa (zSR (za O (a6 (aq (aX [0,3] (λn vs w'=>∃i:Nat,vs=[.slice pl l.length cl,.int .i64 i]/\i+n=l.length/\(l.take i).all Wr.good=true/\w=w') (l.length) ?_ ?_)))))))))
 ·exact⟨0,rfl,by omega,rfl,rfl⟩
 ·rintro n vs J w1 ⟨i,rfl,hin,hall,rfl⟩;refine aa (zSR (zmm O (a7 O (az O jC) (a7 O (bK O O) ?_))));refine a6 (aB O (λhlt=>?_) (λhlt=>?_))
  ·refine zKN (aa (aq (zSR (zmm O ?_))));have hob1:∃z,n=z+1:=⟨n-1,by omega⟩
   obtain⟨n,rfl⟩:=hob1;have hob2:∃a,l[i]?=some a:=⟨l[i]'(by omega),bO _⟩
   obtain⟨a,ha⟩:=hob2;have hno:a.good=false->Value.bool false=Value.bool (isB l):=λh=>by
    unfold isB;rw[List.all_eq_false.2 ⟨a,jc ha,by simp[h]⟩];rfl
   have hall2:a.good=true->(l.take (i+1)).all Wr.good=true:=λh=>by
    rw[gm,ha,Cf,hall];simp[h]
   refine bE O (aR (i) jC I66 O (hl) O O (by first|rfl|omega) (by omega)) ?_;rintro _ ⟨b1,o1,rfl,he1,hb1⟩;refine a7 O (a8 lJ O I9 O O) (a7 O (aD uU9 O O (((hl.at he1 ha).cell (i:=0) rfl:_=some (str a.k)))) ?_);refine a7 O (gX O uU9) ?_;by_cases k1:a.k.length<1
   ·refine a7 O (bD (bK O O) (bT (by omega))) ?_;refine zm O (au O O (au O O (au O O (au O O (au O O (au O O (au O O (a7 O (aL O) (zm O (au O O (au O O (au O O (au O O (au O O (au O O (au O O (a7 O (aL O) (zm O (au O O (au O O (au O O (au O O (au O O (au O O (au O O (au O O (au O O (au O O (au O O (au O O (au O O (a7 O (aL O) (a6 (aV (rfl) (zSR (za O (a6 (bC (aS (aM (aM (aS (aM (cZ ?_))))))))))))))))))))))))))))))))))))))))))));exact⟨hno (by unfold Wr.good;rw[decide_eq_false (by omega)];rfl),rfl⟩
   ·refine a7 O (bD (bK O O) (bF (by omega))) ?_;refine zm O (ae O (zm O (ae O (zm O (ae O (bE O (aR (i) jC I66 O (hl) O O (by first|rfl|omega) (by omega)) ?_))))));rintro _ ⟨b2,o2,rfl,he2,hb2⟩;refine ae O (a7 O (a8 lJ O I9 O O) (ae O (a7 O (aD uU9 O O (((hl.at he2 ha).cell (i:=0) rfl:_=some (str a.k)))) ?_)));refine ae O (a7 O (gX O uU9) (ae O ?_));by_cases k2:a.k.length > 60
    ·refine a7 O (bD (dm O O) (bT (by omega))) ?_;refine a7 O (aI O) (zm O (au O O (au O O (au O O (au O O (au O O (au O O (au O O (a7 O (aL O) (zm O (au O O (au O O (au O O (au O O (au O O (au O O (au O O (au O O (au O O (au O O (au O O (au O O (au O O (a7 O (aL O) (a6 (aV (rfl) (zSR (za O (a6 (bC (aS (aM (aM (aS (aM (cZ ?_))))))))))))))))))))))))))))))))))));exact⟨hno (by unfold Wr.good;rw[decide_eq_false (by omega)];rfl),rfl⟩
    ·refine a7 O (bD (dm O O) (bF (by omega))) ?_;refine a7 O (aI O) (zm O (ae O (zm O (ae O (zm O (ae O (bE O (aR (i) jC I66 O (hl) O O (by first|rfl|omega) (by omega)) ?_)))))));rintro _ ⟨b3,o3,rfl,he3,hb3⟩;refine ae O (a7 O (a8 lJ O I9 O O) (ae O (a7 O (aD uU9 O O (((hl.at he3 ha).cell (i:=1) rfl:_=some (str a.v)))) ?_)));refine ae O (a7 O (gX O uU9) (ae O ?_));by_cases k3:a.v.length > 150
     ·refine a7 O (bD (dm O O) (bT (by omega))) ?_;refine a7 O (aI O) (zm O (au O O (au O O (au O O (au O O (au O O (au O O (au O O (au O O (au O O (au O O (au O O (au O O (au O O (a7 O (aL O) (a6 (aV (rfl) (zSR (za O (a6 (bC (aS (aM (aM (aS (aM (cZ ?_)))))))))))))))))))))))))));exact⟨hno (by unfold Wr.good;rw[decide_eq_false (by omega)];rfl),rfl⟩
     ·refine a7 O (bD (dm O O) (bF (by omega))) ?_;refine a7 O (aI O) (zm O (ae O (zm O (ae O (zm O (ae O ?_))))));have hk:decide (1<=a.k.length/\a.k.length<=60/\a.v.length<=150)=true:=decide_eq_true (by omega);refine bE O (aR (i) jC I66 O (hl) O O (by first|rfl|omega) (by omega)) ?_;rintro _ ⟨b4,o4,rfl,he4,hb4⟩;refine ae O (a7 O (a8 lJ O I4 O O) (ae O ?_));by_cases k4:a.d=true
      ·refine a7 O (aD uU4 O O ((((hl.at he4 ha).cell (i:=2) O).trans (congrArg (λx=>some (Value.bool x)) k4):_=some (.bool true)))) ?_;refine ae O (zm O (ae O (zm O (ae O (zm O (ae O (bE O (aR (i) jC I66 O (hl) O O (by first|rfl|omega) (by omega)) ?_)))))));rintro _ ⟨b5,o5,rfl,he5,hb5⟩;refine ae O (a7 O (a8 lJ O I9 O O) (ae O (a7 O (aD uU9 O O (((hl.at he5 ha).cell (i:=1) rfl:_=some (str a.v)))) ?_)));refine ae O (a7 O (qX O O) (ae O (a7 O (aL O) (a7 O (aI O) (a6 (bX O (λk5=>?_) (λk5=>?_)))))))
       ·refine zSR (za O (a6 (bC (aS (aM (aM (aS (aM (cZ ?_)))))))));have k5:a.v≠[]:=by simpa using k5
        exact⟨hno (by unfold Wr.good;rw[hk,k4,decide_eq_true k5];rfl),rfl⟩
       ·refine bU (ay (aj (ah (zmv O (aC O O (by omega)) (za O ?_)))));refine a6 ?_;have k5:¬a.v≠[]:=by simpa using k5
        refine aT (n) (bq (by omega) ?_);exact⟨i+1,rfl,by omega,hall2 (by unfold Wr.good;rw[hk,k4,decide_eq_false k5];rfl),rfl⟩
      ·have k4:a.d=false:=by simpa using k4
       refine a7 O (aD uU4 O O ((((hl.at he4 ha).cell (i:=2) O).trans (congrArg (λx=>some (Value.bool x)) k4):_=some (.bool false)))) ?_;refine ae O (zm O (au O O (au O O (au O O (au O O (au O O (au O O (ae O (a7 O (aI O) (a7 O (aI O) (a6 (aJ (rfl) (bU (ay (aj (ah (zmv O (aC O O (by omega)) (za O ?_))))))))))))))))));refine a6 (aT (n) (bq (by omega) ?_));exact⟨i+1,rfl,by omega,hall2 (by unfold Wr.good;rw[hk,k4];rfl),rfl⟩
  ·refine aN (an (an (aE (aj (zSR (zmv O (az O jC) ?_))))));have hil:i=l.length:=by omega
   subst hil;rw[cV] at hall;have hres:∀g:Bool,g=(decide (1<=l.length)&&decide (l.length<=40))->Value.bool g=Value.bool (isB l):=λg h=>by
    rw[h];unfold isB;rw[hall,iW]
   by_cases h1:1<=l.length
   ·refine a7 O (bD (fF O O) (bT (by omega))) ?_;refine zm O (ae O (zm O (ae O (a7 O (az O jC) (ae O (a7 O (fL O O) (a7 O (aL O) (za O (a6 (zrf ?_))))))))));refine⟨hres _ ?_,rfl⟩;rw[decide_eq_true h1,iW,qP,decide_eq_true_iff,decide_eq_true_iff];omega
   ·refine a7 O (bD (fF O O) (bF (by omega))) ?_;refine zm O (au O O (au O O (au O O (a7 O (aI O) (za O (a6 (zrf ?_)))))));exact⟨hres _ (by rw[decide_eq_false h1];rfl),rfl⟩
theorem uM(w:World)(lv:Value)(l:List Wr)(b:Bool)(hl:Sl w lv l)(hl2:l.length<=9223372036854775807)(hb:isB l=b) :
  Ret Tryz.prog 40 #[lv] w λv w'=>v=.bool b/\w=w':=by
 subst hb;exact Ix w lv l hl hl2
def isLt(l:List Wr):Bool:=l.all λa=>decide (a.k.length<=100/\a.v.length<=200)
theorem Fj(w:World)(av bv:Value)(a b:List Pr)(ha:Sl w av a)(hb:Sl w bv b)(hl:a.length<=9223372036854775807)(_:b.length<=9223372036854775807) :
  Ret Tryz.prog 42 #[av,bv] w λr w'=>r=.bool (decide (a=b))/\Chg [] w w':=by
 have hob8:=ha.form rfl;obtain⟨pa,ca,rfl⟩:=hob8;have hob9:=hb.form rfl;obtain⟨pb,cb,rfl⟩:=hob9;refine enter [4] Tryz.func42 O O (al O) (zSR (za O (a6 (aa (zSR (zmv O (az O da) (zmv O (az O da) (a7 O (bS O O) (a6 (aB O (λhne=>?_) (λhne=>?_)))))))))))
 ·refine zSR (za O (a6 (zrt ?_)));exact⟨congrArg Value.bool (decide_eq_false (λh=>hne (by rw[h]))).symm,Chg.refl _⟩
 ·refine zKN (aa (zSR (za O (a6 (aq ?_)))));have hab:a.length=b.length:=by omega
  refine aX [0,1,5] (λq vs w'=>∃i:Nat,vs=[.slice pa a.length ca,.slice pb b.length cb,.int .i64 i]/\i+q=a.length/\Chg [] w w'/\a.take i=b.take i) (a.length) ?_ ?_
  ·exact⟨0,rfl,by omega,Chg.refl _,rfl⟩
  ·rintro q vs J w1 ⟨i,rfl,hi,hc1,ht⟩;refine aa (zSR (zmm O (a7 O (az O da) (a7 O (bK O O) ?_))));refine a6 ?_;have ha1:=ha.mod0 hc1;have hb1:=hb.mod0 hc1;refine aB O (λhlt=>?_) (λhlt=>?_)
   ·refine zKN (aa (aq (aa ?_)));have hob10:∃z,q=z+1:=⟨q-1,by omega⟩
    obtain⟨q,rfl⟩:=hob10;have hob11:∃x,a[i]?=some x:=⟨a[i]'(by omega),bO _⟩
    obtain⟨x,hx⟩:=hob11;have hob12:∃y,b[i]?=some y:=⟨b[i]'(by omega),bO _⟩
    obtain⟨y,hy⟩:=hob12;refine aH bw (.pure 0 (.pure 1 (.pure 2 (.read 3 (.pure 4 (.pure 5 (.pure 6 (.read 7 (.pure 8 .nil))))))))) (by kernel_rfl) ?_;refine ym O (ym O (yex O (aR (i) da I49 O (ha1) O O (by first|rfl|omega) (by omega)) ?_));rintro _ ⟨bi,oi,rfl,hei,hbi⟩;refine dI O O O (λw'=>At w' bi oi [str x.1,str x.2]) (ha1.at hei hx) (λw1 h1=>cN il O I49 O h1 O) ?_;refine ym O (ym O (yex O (aR (i) da I49 O (hb1) O O (by first|rfl|omega) (by omega)) ?_));rintro _ ⟨bj,oj,rfl,hej,hbj⟩;refine dI O O O (λw'=>At w' bj oj [str y.1,str y.2]) (hb1.at hej hy) (λw1 h1=>cN il O I49 O h1 O) ?_;refine yp O (λ_=>x_nePr (a:=x) (b:=y) O O (by kernel_rfl) il (by kernel_rfl) (by decide) (by decide) O O uU9 uU9) ?_;refine aA (aB O (λhxy=>?_) (λhxy=>?_))
    ·refine zSR (za O (a6 (bC (aS (aM (aM (aS (aM (cZ ?_)))))))));exact⟨congrArg Value.bool (decide_eq_false (λh=>hxy (by rw[<-h,hx] at hy;exact qS hy))).symm,hc1.tr (drw _)⟩
    ·refine bU (ay (aj (ah (zmv O (aC O O (by omega)) (za O ?_)))));refine a6 ?_;have hxy:x=y:=Decidable.not_not.1 hxy;subst hxy;refine aT (q) (bq (by omega) ?_);exact⟨i+1,rfl,by omega,hc1.tr (drw _),by rw[gm,gm,ht,hx,hy]⟩
   ·refine aN (an (an (aE (aj (zSR (za O (a6 (zrf ?_))))))));have hil:i=a.length:=by omega
    subst hil;rw[cV,hab,cV] at ht;exact⟨congrArg Value.bool (decide_eq_true ht).symm,hc1⟩
theorem AN(w:World)(av bv:Value)(a b:List Pr)(ha:Sl w av a)(hb:Sl w bv b)(hl:a.length<=9223372036854775807)(he:a=b) :
  Ret Tryz.prog 42 #[av,bv] w λr w'=>r=.bool true/\Chg [] w w':=by
 subst he;refine(Fj w av bv a a ha hb hl hl).mono ?_;rintro r w' ⟨rfl,hc⟩;exact⟨bT rfl,hc⟩
theorem El{l:List Wr}(h:isB l=true):1<=l.length/\l.length<=40:=by
 unfold isB at h;rw[ji,ji,decide_eq_true_iff,decide_eq_true_iff] at h;exact⟨h.1.2,h.2⟩
theorem EZ(m:List Pr)(a b:List Wr):hU m (a++b)=hU (hU m a) b:=kD
theorem sO:∀{l:List Wr} {m:List Pr},dY m->(hU m l).length<=m.length+l.length/\dY (hU m l)
 | [], m, h => ⟨aO _, h⟩
 | a :: l, m, h => by
  have h1:=Ax (m:=m) a h;have hs:dY (updW m a):=by
   unfold updW
   split
   ·exact yM _ h
   ·exact yi _ h
  have:=sO (l:=l) hs
  show(hU (updW m a) l).length<=_/\dY (hU (updW m a) l);rw[cf];exact⟨by omega,this.2⟩
theorem pgsN0(m:List Pr):sV m []=2*m.length+1:=rfl
theorem Chg.fr{F:List Nat}{w w0 w':World}(h:Chg F w w')(hF:∀x∈F,w0.heap.size<=x)(h0:Chg [] w0 w):Chg [] w0 w':=h0.t0 h hF
def drW(p:Pr):Wr:=⟨p.1,[],true⟩
def ptW(p:Pr):Wr:=⟨p.1,p.2,false⟩
theorem y3:∀(l m:List Pr),hU m (l.map drW)=m.filter λq => !(l.any λp=>q.1==p.1)
 | [], m => (List.filter_eq_self.2 (λ_ _ => rfl)).symm
 | p :: l, m => by
  show hU (updW m (drW p)) (l.map drW)=_;rw[y3 l,show updW m (drW p)=jQ m p.1 from if_pos rfl];unfold jQ;rw[List.filter_filter];congr 1
  funext q
  rw[List.any_cons,Bool.not_or,Bool.and_comm]
theorem F0(m:List Pr):hU m (m.map drW)=[]:=by
 rw[y3];refine iE (λp hp=>?_)
 have:m.any (λq=>p.1==q.1)=true:=List.any_eq_true.2 ⟨p,hp,beq_self_eq_true _⟩
 rw[this];rfl
theorem xZ:∀(l a:List Pr),dY (a++l)->hU a (l.map ptW)=a++l
 | [], a, _ => (cF a).symm
 | p :: l, a, h => by
  have h1:∀q∈a,ltB q.1 p.1=true:=λq hq=>(List.pairwise_append.1 h).2.2 q hq p cO;have e:updW a (ptW p)=a++[p]:=by
   refine(if_neg (λh=>Bool.noConfusion h)).trans ?_;show fO a p=_;unfold fO;rw[fp h1,iE (λq hq=>iN (h1 q hq))]
  show hU (updW a (ptW p)) (l.map ptW)=_;rw[e,xZ l (a++[p]) (by rw[bL];exact h),bL];rfl
def sA(now was:List Pr):List Wr:=now.map drW++was.map ptW
theorem Ct{now was:List Pr}(h:dY was):hU now (sA now was)=was:=by
 unfold sA;rw[EZ,F0];exact xZ was [] h
theorem G1(now was:List Pr):(sA now was).length=now.length+was.length:=by
 unfold sA;rw[aF,dj,dj]
theorem HY{now was:List Pr}(h1:∀p∈now,me p)(h2:∀p∈was,me p)(h3:1<=(sA now was).length)(h4:(sA now was).length<=40):isB (sA now was)=true:=by
 have hk:∀p:Pr,me p->∀d v,v.length<=150->(d=true->v=[])->(⟨p.1,v,d⟩:Wr).good=true:=λp hp d v hv hd=>by
  have:=hp.1
  unfold Wr.good;rw[decide_eq_true (by exact⟨this.1,this.2,hv⟩),iW];cases d with
  | false => rfl
  | true => rw [hd rfl]; rfl
 unfold isB;rw[ji,ji,List.all_eq_true,decide_eq_true_iff,decide_eq_true_iff];refine⟨⟨λa ha=>?_,h3⟩,h4⟩;unfold sA at ha;rcases List.mem_append.1 ha with g|g
 ·obtain⟨p,hp,rfl⟩:=List.mem_map.1 g;exact hk p (h1 p hp) true [] (dZ _) (λ_=>rfl)
 ·obtain⟨p,hp,rfl⟩:=List.mem_map.1 g;exact hk p (h2 p hp) false p.2 (h2 p hp).2 (λh=>by cases h)
theorem SS.good{w0 w:World}{F:List Nat}{sv dv:Value}{key:List UInt8}{m:List Pr}{sn:List Sn}{n k:Nat}(h:SS w0 F w sv dv key m sn n k):∀p∈m,me p:=by
 obtain⟨c,s,sb,mr,root,sx,h,rfl,rfl,rfl,rfl,rfl,hp,rfl,hk⟩:=h;obtain⟨_,d,pg,h1,_,_⟩:=h.live;exact(iQ h1).1
theorem xL(w:World)(av:Value)(a:List Wr)(ha:Sl w av a)(ha2:a.length<=9223372036854775807)(bv:Value)(b:List Wr)(hb:Sl w bv b)(hb2:b.length<=9223372036854775807)(ky:Bs) :
  Ret Tryz.prog 14 #[av,bv,str ky] w λv w'=>v=.bool true/\Chg [] w w':=by
 obtain⟨pl,cl,rfl⟩:=ha.form rfl;obtain⟨pb,cb,rfl⟩:=hb.form rfl;refine enter [6] Tryz.func14 O O (al O) (zSR (za O (a6 (aa (zSR (ag O C29 (D8 w) ?_))))));rintro _ w1 ⟨rfl,hc1⟩;refine a7 O (cg O) (a6 (aJ (rfl) (zKN (aa (zSR (zm O ?_))))));have ha1:=ha.mod0 hc1;have hb1:=hb.mod0 hc1;by_cases hba:isB a=true
 rotate_left
 ·have hba:isB a=false:=by simpa using hba
  refine ag O C40 (uM _ _ a false ha1 ha2 hba) ?_;rintro _ _ ⟨rfl,rfl⟩;refine a7 O (cg O) (zm O (au O O (au O O (au O O (a7 O (aL O) (zm O (au O O (au O O (au O O (a7 O (aL O) (zm O (au O O (au O O (au O O (a7 O (aL O) (zm O (au O O (au O O (au O O (a7 O (aL O) (a6 (aV (rfl) (zSR (za O (a6 (zrt ?_))))))))))))))))))))))))));exact⟨rfl,hc1⟩
 refine ag O C40 (uM _ _ a true ha1 ha2 hba) ?_;rintro _ _ ⟨rfl,rfl⟩;refine a7 O (cg O) (zm O (ae O (zm O (ae O ?_))));by_cases hbb:isB b=true
 rotate_left
 ·have hbb:isB b=false:=by simpa using hbb
  refine ag O C40 (uM _ _ b false hb1 hb2 hbb) ?_;rintro _ _ ⟨rfl,rfl⟩;refine ae O (a7 O (cg O) (a7 O (aI O) (zm O (au O O (au O O (au O O (a7 O (aL O) (zm O (au O O (au O O (au O O (a7 O (aL O) (zm O (au O O (au O O (au O O (a7 O (aL O) (a6 (aV (rfl) (zSR (za O (a6 (zrt ?_)))))))))))))))))))))));exact⟨rfl,hc1⟩
 refine ag O C40 (uM _ _ b true hb1 hb2 hbb) ?_;rintro _ _ ⟨rfl,rfl⟩;refine ae O (a7 O (cg O) (a7 O (aI O) (zm O (ae O (zm O (ae O (a7 O (az O jC) (ae O ?_))))))));have hla:=El hba;have hlb:=El hbb;by_cases h1:a.length > 12
 ·refine a7 O (bD (dm O O) (bT (by omega))) ?_;refine a7 O (aI O) (zm O (au O O (au O O (au O O (a7 O (aL O) (zm O (au O O (au O O (au O O (a7 O (aL O) (a6 (aV (rfl) (zSR (za O (a6 (zrt ?_))))))))))))))));exact⟨rfl,hc1⟩
 refine a7 O (bD (dm O O) (bF (by omega))) ?_;refine a7 O (aI O) (zm O (ae O (zm O (ae O (a7 O (az O jC) (ae O ?_))))));by_cases h2:b.length > 12
 ·refine a7 O (bD (dm O O) (bT (by omega))) ?_;refine a7 O (aI O) (zm O (au O O (au O O (au O O (a7 O (aL O) (a6 (aV (rfl) (zSR (za O (a6 (zrt ?_)))))))))));exact⟨rfl,hc1⟩
 refine a7 O (bD (dm O O) (bF (by omega))) ?_;refine a7 O (aI O) (zm O (ae O (zm O (ae O (a7 O (gX O uU9) (ae O (a7 O (dm O O) (a7 O (aI O) (a6 (aB O (λh3=>?_) (λh3=>?_)))))))))))
 ·refine zSR (za O (a6 (zrt ?_)));exact⟨rfl,hc1⟩
 ·refine zKR (ag O C31 (yL w _ hc1) ?_);rintro _ w2 ⟨b',kv,r,rfl,hd2,hc2,hF2⟩;refine a7 O (kg (List.replicate 32 (0:UInt8)) ([]) (l:=key0) gP I63 O I5 (by kernel_rfl) O (by kernel_rfl) O (by kernel_rfl)) ?_;refine ag O C30 (BV hd2 (by decide) O) ?_;rintro _ w3 ⟨F,sv,rfl,hS3,hc3,hG3⟩;refine zm O (zx O (zx O (zaa O (a6 (aa (zSR (zm O ?_)))))));have ha3:=ha.mod0 hS3.now;have haF:∀x∈ax (.slice pl a.length cl),x<w.heap.size:=λx hx=>ha.lt x hx;have hbF:∀x∈ax (.slice pb b.length cb),x<w.heap.size:=λx hx=>hb.lt x hx;have hFg:=hS3.ge;refine a7 O (bD (bS O O) (congrArg Value.bool (decide_eq_false (λh=>h O)))) ?_;refine zm O (ae O (zm O (ae O (zm O (ae O (ag O C32 ((hS3.do_ ha3 (λx hx hh=>by have:=haF x hx;have:=hFg x hh;omega) hba (by show 0+_<=_;omega) (by omega) (by rw[pgsN0];show 2*0+1+2*(0+_)+30<=_;omega) :)) ?_))))));rintro _ w4 ⟨rfl,⟨F4,hS4,hG4⟩,hc4⟩;refine ae O (a7 O (bS O O) (a7 O (aI O) (a6 ?_)));have hml:=(sO (l:=a) (m:=[]) zi).1;have h0:([]:List Pr).length=0:=rfl;have hob1:∃M,M=hU [] a:=⟨_,rfl⟩
  obtain⟨M,hM⟩:=hob1;rw[<-hM] at hS4 hml;refine aK O (λh=>h O) ?_;refine zKR (zm O (ag O C38 ((hS4.pages :)) ?_));rintro _ w5 ⟨⟨uv,rv,la,lb,rfl,hu5,_,_,_,hu1⟩,hc5⟩;refine zm O (zx O (zx O (zaa O (a6 ?_))));have hob2:=hu5.sl.form rfl;obtain⟨pu,cu,rfl⟩:=hob2;have hS5:=hS4.chg0 hc5;refine zSR (zm O (ag O C43 ((hS5.scan [] [] 100 (by decide) :)) ?_));rintro v6 w6 ⟨ho6,hi6,hc6⟩;refine za O (a6 ?_);rw[lW (by omega)] at ho6;have hob3:=ho6.sl.form rfl;obtain⟨pw,cw,rfl⟩:=hob3;have hS6:=hS5.chg0 hc6;have hob4:∃gv,(lK M ky).getD []=gv:=⟨_,rfl⟩
  obtain⟨gv,hgv⟩:=hob4;have hob5:∃gb,fz M ky=gb:=⟨_,rfl⟩
  obtain⟨gb,hgb⟩:=hob5;refine zSR (zmm O (ag O C47 ((hS6.get ky gv gb hgv hgb :)) ?_));rintro _ w7 ⟨rfl,hc7⟩;refine zm O (zx O (zx O (zaa O (a6 (aa (zSR (zm O ?_)))))));have hS7:=hS6.chg0 hc7;refine ag O C33 ((hS7.snap [111,110,101] O (by simp) (by decide) (by omega) :)) ?_;rintro _ w8 ⟨rfl,⟨F8,hS8,hG8⟩,hc8⟩;refine a7 O (bD (bS O O) (congrArg Value.bool (decide_eq_false (λh=>h O)))) ?_;refine zm O (ae O (zm O (ae O (zm O (ae O ?_)))));have hF8g:=hS8.ge;have hpg:sV M ([]++[(([111,110,101]:Bs),M)])=2*M.length+1+(2*M.length+1):=rfl;refine ag O C32 ((hS8.do_ (hb.mod0 hS8.now) (λx hx hh=>by have:=hbF x hx;have:=hF8g x hh;omega) hbb (by omega) (by omega) (by rw[hpg];omega) :)) ?_;rintro _ w9 ⟨rfl,⟨F9,hS9,hG9⟩,hc9⟩;refine ae O (a7 O (bS O O) (a7 O (aI O) (a6 (aK O (λh=>h O) ?_))));refine zKR (zm O ?_);have hF5:=hS5.lt;have hwl:=ho6.sl.lt;have k7:=hc7.1;have k8:=hc8.1;have hw4:∀x∈ax (.slice pw M.length cw),x∉F4:=λx hx hh=>by have:=hi6.ge x hx;have:=hF5 x hh;omega
  have hw8:∀x∈ax (.slice pw M.length cw),x∉F8:=λx hx=>hG8.not (hw4 x hx) (by have:=hwl x hx;omega);have hw9:∀x∈ax (.slice pw M.length cw),x∉F9:=λx hx=>hG9.not (hw8 x hx) (by have:=hwl x hx;omega);have ho9:=((ho6.mod0 hc7).mod hc8 hw4).mod hc9 hw8;have hsM:=hS8.sort;have hgM:=hS8.good;have hml2:=(sO (l:=b) (m:=M) hsM).1;have hob6:∃K,K=hU M b:=⟨_,rfl⟩
  obtain⟨K,hK⟩:=hob6;rw[<-hK] at hS9 hml2;refine ag O C48 ((hS9.scanAt ([111,110,101],M) (by simp) [] [] 100 (by decide) :)) ?_;rintro _ w10 ⟨⟨lv,rfl,hol,hil⟩,hc10⟩;refine zm O (zx O (zx O (zaa O (zNR (zmm O ?_)))));have hol:Own w10 lv (pN M [] [] 100):=hol;rw[lW (by omega)] at hol;have hob7:=hol.sl.form rfl;obtain⟨pq,cq,rfl⟩:=hob7;refine ag O C34 (((hS9.chg0 hc10).getAt ([111,110,101],M) (by simp) ky gv gb hgv hgb :)) ?_;rintro _ w11 ⟨rfl,hc11⟩;refine zm O (zx O (zx O (zx O (zaa O (za O (a6 (aa (zSR (zm O ?_)))))))));have h911:=hc10.tr hc11;refine a7 O (bD (bS O O) (congrArg Value.bool (decide_eq_false (λh=>h O)))) ?_;refine zm O (ae O (zm O (ae O (a7 O (bD (bS O O) (congrArg Value.bool (decide_eq_false (λh=>h O)))) ?_))));refine a7 O (aI O) (zm O (ae O (zm O (ae O (zm O (ae O (ag O C42 (AN _ _ _ _ _ (hol.mod0 hc11).sl (ho9.mod0 h911).sl (by omega) O) ?_)))))));rintro _ w12 ⟨rfl,hc12⟩;refine ae O (a7 O (cg O) (a7 O (aI O) (zm O (ae O (zm O (ae O (zm O (ae O (a7 O (bD (x_neb O O uU4) (congrArg Value.bool (decide_eq_false (λh=>h O)))) ?_)))))))));refine a7 O (aI O) (zm O (ae O (zm O (ae O (zm O (ae O (a7 O (qX O O) (a7 O (aI O) (a6 (aK O (λh=>h O) ?_))))))))));refine zKR (za O (zNR (zm O ?_)));have hS12:=hS9.chg0 (h911.tr hc12);have ho12:=ho9.mod0 (h911.tr hc12);refine ag O C43 ((hS12.scan [] [] 100 (by decide) :)) ?_;rintro v13 w13 ⟨ho13,hi13,hc13⟩;refine za O (a6 ?_);rw[lW (by omega)] at ho13;have hob8:=ho13.sl.form rfl;obtain⟨pn,cn,rfl⟩:=hob8;have hS13:=hS12.chg0 hc13;refine aa (zSR (za O (a6 (aq (aX [7,9,11,19,20,21] (λq vs w'=>∃(i:Nat) (bk:Value),vs=[sv,.slice pu la.length cu,.slice pw M.length cw,bk,.slice pn K.length cn,.int .i64 i]/\i+q=K.length/\Own w' bk ((K.take i).map drW)/\In bk [] w13.heap.size/\Chg [] w13 w') (K.length) ?_ ?_)))))
  ·exact⟨0,_,rfl,by omega,Own.nil _,In.nil,Chg.refl _⟩
  ·rintro q vs J w14 ⟨i,bk,rfl,hi,hob,hib,hc14⟩;refine aa (zSR (zmm O (a7 O (az O da) (a7 O (bK O O) ?_))));refine a6 ?_;have hln:((K.take i).map drW).length=i:=by rw[dj,bx];omega
   have hob9:=hob.form hln;obtain⟨pk,ck,rfl⟩:=hob9;have hn14:=ho13.mod0 hc14;refine aB O (λhlt=>?_) (λhlt=>?_)
   ·refine zKN (aa (aq (ah (zmm O (zm O ?_)))));have hob10:∃z,q=z+1:=⟨q-1,by omega⟩
    obtain⟨q,rfl⟩:=hob10;have hob11:∃x,K[i]?=some x:=⟨K[i]'(by omega),bO _⟩
    obtain⟨p,hp⟩:=hob11;have htk:(K.take (i+1)).map drW=(K.take i).map drW++[drW p]:=by rw[gm,hp,fN];rfl
    refine bE O (aR (i) da I49 O (hn14.sl) O O (by first|rfl|omega) (by omega)) ?_;rintro _ ⟨b3,o3,rfl,he3,hb3⟩;refine a7 O (a8 il O I9 O O) (a7 O (aD uU9 O O (((hn14.sl.at he3 hp).cell (i:=0) rfl:_=some (str p.1)))) ?_);refine a7 O (bR lJ I66 O (zs:=[str [],str [],.bool false]) O O (bN O O O (al O) (bN O O O (al O) (dX (cs':=[str p.1,str [],.bool true]) O)))) ?_;refine aY O (oc (drW p) jC I66 O O O O O (by decide)) ?_;rintro _ w15 ⟨b15,rfl,hB15,hn15,hc15,hl15⟩;refine cH jC jC I66 (.inr ⟨_,rfl⟩) O O O (by decide) O (hob.mod0 hc15) ((Blk.sl1 hB15).src) O O (by simp;omega) ?_;rintro vb w16 hb16;refine za O (bA (ay (aj (ah (zmv O (aC O O (by omega)) (za O ?_))))));refine a6 (aT (q) (bq (by omega) ?_));have hk:=hc14.tr hc15;have hin:In vb [] w13.heap.size:=λx hx=>by
     rcases hb16.inn x hx with g|g
     ·exact hib x g
     ·exact .inr (by have:=hk.1;omega)
    exact⟨i+1,vb,rfl,by omega,by rw[htk];exact hb16.own,hin,hk.t0 hb16.mod (λx hx=>hib.ge x hx)⟩
   ·refine aN (an (an (aE (aj (aa (zSR (za O (a6 (aq ?_)))))))));have hiK:i=K.length:=by omega
    subst hiK;rw[cV] at hob;have hwas13:=ho12.mod0 hc13;refine aX [7,9,11,19,22] (λq vs w'=>∃(j:Nat) (bk:Value),vs=[sv,.slice pu la.length cu,.slice pw M.length cw,bk,.int .i64 j]/\j+q=M.length/\Own w' bk (K.map drW++(M.take j).map ptW)/\In bk [] w13.heap.size/\Chg [] w13 w') (M.length) ?_ ?_
    ·exact⟨0,_,rfl,by omega,by rw[lN,sG,cF];exact hob,hib,hc14⟩
    ·rintro q vs J w17 ⟨j,bk,rfl,hj,hob2,hib2,hc17⟩;refine aa (zSR (zmm O (a7 O (az O da) (a7 O (bK O O) ?_))));refine a6 ?_;have hln:(K.map drW++(M.take j).map ptW).length=K.length+j:=by rw[aF,dj,dj,bx];omega
     have hob12:=hob2.form hln;obtain⟨pk2,ck2,rfl⟩:=hob12;have hw17:=hwas13.mod0 hc17;refine aB O (λhlt2=>?_) (λhlt2=>?_)
     ·refine zKN (aa (aq ?_));have hob13:∃z,q=z+1:=⟨q-1,by omega⟩
      obtain⟨q,rfl⟩:=hob13;have hob14:∃x,M[j]?=some x:=⟨M[j]'(by omega),bO _⟩
      obtain⟨p,hp⟩:=hob14;have htk:(M.take (j+1)).map ptW=(M.take j).map ptW++[ptW p]:=by rw[gm,hp,fN];rfl
      refine aH bw (.pure 0 (.pure 1 (.pure 2 (.pure 3 (.pure 4 (.read 5 (.pure 6 (.pure 7 (.pure 8 (.pure 9 (.read 10 (.pure 11 (.eff 12 [] (.eff 13 [] (.pure 14 .nil))))))))))))))) (by kernel_rfl) ?_;refine ym O (ym O (ym O (yex O (aR (j) da I49 O (hw17.sl) O O (by first|rfl|omega) (by omega)) ?_)));rintro _ ⟨b3,o3,rfl,he3,hb3⟩;refine yp O (λ_=>(a8 il O I9 O O)) ?_;refine aG O O O uU9 O O (((hw17.sl.at he3 hp).cell (i:=0) rfl:_=some (str p.1))) ?_;refine ym O (ym O (yex O (aR (j) da I49 O (hw17.sl) O O (by first|rfl|omega) (by omega)) ?_));rintro _ ⟨b4,o4,rfl,he4,hb4⟩;refine yp O (λ_=>(a8 il O I9 O O)) ?_;refine aG O O O uU9 O O (((hw17.sl.at he4 hp).cell (i:=1) rfl:_=some (str p.2))) ?_;refine yp O (λ_=>bR lJ I66 O (zs:=[str [],str [],.bool false]) O O (bN O O O (al O) (bN O O O (al O) (dX (cs':=[str p.1,str p.2,.bool false]) O)))) ?_;refine fb O (oc (ptW p) jC I66 O O O O O (by decide)) ?_;rintro _ w18 ⟨b18,rfl,hB18,hn18,hc18,hl18⟩;refine⟨trivial,?_⟩;have hc18:Chg [] w17 w18:=(drw w17).tr hc18;refine fb O (As jC jC I66 (.inr ⟨_,rfl⟩) O O O (by decide) (hob2.mod0 hc18) ((Blk.sl1 hB18).src) O O (by simp;omega)) ?_;rintro vb w19 hb19;refine⟨trivial,?_⟩;refine ya O (et (ay (aj (ah (zmv O (aC O O (by omega)) (za O ?_))))));refine a6 (aT (q) (bq (by omega) ?_));have hk:=hc17.tr hc18;have hin:In vb [] w13.heap.size:=λx hx=>by
       rcases hb19.inn x hx with g|g
       ·exact hib2 x g
       ·exact .inr (by have:=hk.1;omega)
      exact⟨j+1,vb,rfl,by omega,by rw[htk,<-bL];exact hb19.own,hin,hk.t0 hb19.mod (λx hx=>hib2.ge x hx)⟩
     ·refine aN (an (an (aE (aj (aa (zSR (zmv O (az O jC) ?_)))))));have hjM:j=M.length:=by omega
      subst hjM;rw[cV] at hob2;have hbl:=G1 K M;have hob2:Own w17 (.slice pk2 (K.length+M.length) ck2) (sA K M):=hob2;have hS17:=hS13.chg0 hc17;have hgK:=hS17.good;have hF9l:=hS13.lt;have k17:=hc17.1;have h3l:(([]:List Sn)++[(([111,110,101]:Bs),M)]).map (·.1)=[[111,110,101]]:=rfl;have hpg2:sV K ([]++[(([111,110,101]:Bs),M)])=2*K.length+1+(2*M.length+1):=rfl;by_cases hz:K.length+M.length=0
      ·refine a7 O (bD (dB O O) (bT (by omega))) ?_;refine zm O (au O O (au O O (au O O (a7 O (aL O) (a6 (aV (rfl) (zSR (za O (a6 (zrt ?_))))))))));exact⟨rfl,hS17.now⟩
      ·refine a7 O (bD (dB O O) (bF (by omega))) ?_;refine zm O (ae O (zm O (ae O (a7 O (az O jC) (ae O (a7 O (dm O O) (a7 O (aI O) (a6 (aK O (by omega) ?_)))))))));refine zKN (aa (zSR (zmm O (ag O C32 ((hS17.do_ hob2.sl (λx hx hh=>by have:=hib2.ge x hx;have:=hF9l x hh;omega) (HY hgK hgM (by omega) (by omega)) (by omega) (by omega) (by rw[hpg2];omega) :)) ?_))));rintro _ w20 ⟨rfl,⟨F20,hS20,hG20⟩,hc20⟩;rw[Ct hsM] at hS20;refine a7 O (bD (bS O O) (congrArg Value.bool (decide_eq_false (λh=>h O)))) ?_;refine zm O (ae O (zm O (ae O (ag O C36 ((hS20.drop [111,110,101] O (by simp) (by omega) :)) ?_))));rintro _ w21 ⟨rfl,⟨F21,hS21,hG21⟩,hc21⟩;refine ae O ?_;have hdr:List.filter (λp:Sn=>decide (p.1≠[111,110,101])) ([]++[([111,110,101],M)])=[]:=by simp
       rw[hdr] at hS21;refine a7 O (bD (bS O O) (congrArg Value.bool (decide_eq_false (λh=>h O)))) ?_;refine a7 O (aI O) (zm O (ae O (zm O (ae O (ag O C43 ((hS21.scan [] [] 100 (by decide) :)) ?_)))));rintro v22 w22 ⟨ho22,hi22,hc22⟩;rw[lW (by omega)] at ho22;have hob15:=ho22.sl.form rfl;obtain⟨pz,cz,rfl⟩:=hob15;refine ae O (zm O (ae O ?_));have hw20:∀x∈ax (.slice pw M.length cw),x∉F20:=λx hx=>hG20.not (hw9 x hx) (by have:=hwl x hx;have:=(h911.tr hc12).1;have:=hc13.1;have:=hc9.1;omega);have how22:=((((hwas13.mod0 hc17).mod hc20 hw9).mod hc21 hw20).mod0 hc22)
       refine ag O C42 (AN _ _ _ _ _ ho22.sl how22.sl (by omega) O) ?_;rintro _ w23 ⟨rfl,hc23⟩;refine ae O (a7 O (cg O) (a7 O (aI O) (a6 (aJ (rfl) (zKR (zm O ?_))))));have hS23:=hS21.chg0 (hc22.tr hc23);refine ag O C48 ((hS23.scanN [111,110,101] [] [] 1 (by simp) :)) ?_;rintro _ w24 ⟨rfl,rfl⟩;refine zm O (zx O (zx O (zaa O (zNR (zm O (ag O C38 ((hS23.pages :)) ?_))))));rintro _ w25 ⟨⟨xv,yv,lx,ly,rfl,hox,hoy,hxy,hxn,_⟩,hc25⟩;rw[pgsN0] at hxn;have hob16:=hox.sl.form rfl;obtain⟨px,cx,rfl⟩:=hob16;have hob17:=hoy.sl.form rfl;obtain⟨py,cy,rfl⟩:=hob17;refine zm O (zx O (zx O (zaa O (zNR (zmv O (bD (dB O O) (congrArg Value.bool (decide_eq_true (rfl)))) (zm O (ae O (zm O (ae O (a7 O (az O aZ) (ae O (zm O (ae O (a7 O (az O aZ) (ae O (a7 O (bD (dB O O) (bT (by omega))) ?_))))))))))))))));refine a7 O (aL O) (zm O (ae O (zm O (ae O (a7 O (az O aZ) (ae O (zm O (ae O (a7 O (az O da) (ae O (a7 O (qY O O) (ae O (a7 O (ff O O (by omega)) (ae O (a7 O (aC O O (by omega)) (ae O ?_))))))))))))))));refine a7 O (bD (fL O O) (bT (by omega))) ?_;refine a7 O (aL O) (zm O (ae O (zm O (ae O (a7 O (az O aZ) (ae O (a7 O (dm O O) (a7 O (aL O) (za O (a6 (zrf ?_)))))))))));exact⟨bT (by omega),(hS23.chg0 hc25).now⟩
end Go.Proofs.YtpbfapbajmdlkaaGreat
