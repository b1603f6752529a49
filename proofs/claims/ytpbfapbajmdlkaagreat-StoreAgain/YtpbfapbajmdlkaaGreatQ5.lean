/- Opened as often as one likes, by whatever key it was made, it is as it was; made anew it is empty. It holds for every input; there are no conditions. -/
import Derived.Test.YtpbfapbajmdlkaaGreatQ4
namespace Go.Proofs.YtpbfapbajmdlkaaGreat
open Go Go.Sac
set_option maxRecDepth 100000
set_option maxHeartbeats 4000000
theorem GQ{l:List (Bs×UInt32)}{i:Nat}{p:Bs×UInt32}(h:l[i]?=some p):(l.drop i).flatMap snB=txt p.1++(be 4 p.2.toNat++(l.drop (i+1)).flatMap snB):=by
 obtain⟨hi,rfl⟩:=List.getElem?_eq_some_iff.1 h;rw[jE hi,pT];unfold snB;rw[bP]
theorem txtT{s z:Bs}(h:s.length<=10):dB ((txt s++z).take 2)=s.length/\((txt s++z).drop 2).take s.length=s/\(txt s++z).drop (2+s.length)=z/\(txt s++z).length=2+s.length+z.length:=by
 unfold txt;have h2:(be 2 s.length).length=2:=aP _ _;refine⟨?_,?_,?_,?_⟩
 ·rw[bP,cP h2,gF,fp (by omega)]
 ·rw[bP,ej h2,cP rfl]
 ·rw[ej (by rw[aF,h2])]
 ·rw[aF,aF,h2]
theorem BG{c:TC}{w0 w:World}{s:TP}{sb mr a k:Nat}{root:UInt32}{m:List Pr}{sx:List Sx}{ds:DSt}(h:StoreAt c w0 s sb mr root m sx)(hd:RunD c.w0 w c.b c.kv c.r ds)(hC:PCra c.n k c.key ds a s.P.kept s.V)(hk:k+1<=40000) :
  Ret Tryz.prog 41 #[.pointer (some ⟨c.b,0,none⟩),cy c.key] w λv w'=>∃(R:PR) (s':TP) (sb' mr':Nat) (sx':List Sx),v=.tuple #[.pointer (some ⟨sb',0,none⟩),.int .i64 0]/\StoreAt ⟨c.w0,c.b,c.kv,c.r,R,c.n,c.key⟩ w' s' sb' mr' root m sx'/\sx'.Perm sx/\s'.k<=k+1/\(∀j:Int,32<=j->j<32+8*c.n->s'.ds.now j=ds.now j)/\Chg (DF c.b c.kv c.r) w w'/\w.heap.size<=sb'/\w.heap.size<=mr'/\∀x∈PF R,w.heap.size<=x:=by
 have hkl:c.key.length=32:=h.pg.2.2.2.2;have hDl:=hd.1.lt;have hDg:=hd.2.2;have hwz:=hd.2.1.1;have hn4:=h.pg.n4;obtain⟨l,hl,htx⟩:=h.txt;obtain⟨sx',hsx,hsl⟩:=sN (λp:Sx=>(p.1,p.2.1)) hl;have hsl:eG sx'=l:=hsl;have hlen:l.length=sx'.length:=by rw[<-hsl];exact dr ..
 have hlx:sx'.length<=4:=by rw[hsx.length_eq];exact h.few
 have h10:∀p∈sx',p.1.length<=10:=λp hp=>h.names p (hsx.subset hp);have hnd:(sx'.map (·.1)).Nodup:=by
  have h1:=h.map.nodup;rw[vC] at h1;have h2:(eG sx).map (·.1)=sx.map (·.1):=by unfold eG;rw[fH];rfl
  rw[h2] at h1;exact(hsx.map _).nodup_iff.2 h1
 have hkt:s.P.kept.txt=gY l:=by
  have:=congrArg Pst.txt h.st
  exact this.trans htx
 have hkr:s.P.kept.root=root:=by
  have:=congrArg Pst.root h.st
  exact this.trans h.rt
 refine enter [4,5] Tryz.func41 O O (al O) (zSR (cW (l:=c.key) O O ?_));rintro w1 kb hkn hK1 hc1 hl1;refine zaa O (zNR (zm O ?_));have hd1:RunD c.w0 w1 c.b c.kv c.r ds:=⟨hd.1.chg hc1 (by simp),hd.2.1.tr hc1,hd.2.2⟩
 refine a7 O (cF 32 gm O I63 O O (hK1) (hkl)) (ag O C81 (Hn hd1 hC hk hkl) ?_);rintro _ w2 ⟨R,f,ds2,rfl,hS2,hLd,_,hpd2,hc2,hR2⟩;refine zm O (zx O (zx O (zaa O (a6 (aa (zSR (zmv O (bV O O) (a6 (aJ O (λh=>h O) ?_)))))))));refine zKR (zmm O ?_);have hob1:∃c':TC,c'=⟨c.w0,c.b,c.kv,c.r,R,c.n,c.key⟩:=⟨_,rfl⟩
 obtain⟨c',hc'⟩:=hob1;have hlt2:=PS.lt hS2;have hge2:=PS.ge hS2;refine ag O C82 (GY hS2) ?_;rintro v3 w3 ⟨hv3,hS3,hc3⟩;have hv3:v3=.int .u32 root.toNat:=by rw[hv3,<-hkr];rfl
 subst hv3;refine aY O (nR (List UInt8)) ?_;rintro _ w4 ⟨mq,rfl,hmn,hM4,hc4,hl4⟩;refine a7 O (bW dC I143 O (zs:=[.pointer none,.int .u32 0,.map none,.bool false]) O O (bR O O O (al O) (bR O O O (al O) (bR O O O (al O) (eb (cs':=[.pointer (some ⟨R.pb,0,none⟩),.int .u32 root.toNat,.map (some mq),.bool false]) O))))) ?_;refine aY O (cZ (l:=[.pointer (some ⟨R.pb,0,none⟩),.int .u32 root.toNat,.map (some mq),.bool false]) O O) ?_;rintro _ w5 ⟨sq,rfl,hsn,hB5,hc5,hl5⟩;refine za O (zNR (zm O ?_));have hS5:=(hS3.chg0 hc4).chg0 hc5;have hM5:MapAt w5 mq (snV (eG (sx'.take 0))):=hM4.mod hc5 (by simp);refine ag O C84 (Hx hS5) ?_;rintro v6 w6 ⟨hv6,hS6,hc6⟩;have hv6:v6=str (gY l):=by rw[hv6,<-hkt];rfl
 subst hv6;have hmz:(gY l).length<=65:=by
  have:=kO l (λp hp=>by rw[<-hsl] at hp;obtain⟨q,hq,rfl⟩:=List.mem_map.1 hp;exact h10 q hq)
  omega
 refine aY O (x_s2b uU9 bg uU5 O) ?_;rintro bv w7 ⟨hbo,hc7,hib⟩;refine ag O C83 (jv bv (gY l) 1 w7 hbo.sl (by decide) (by omega)) ?_;rintro v8 w8 ⟨hv8,hh8⟩;have hb1:(be 1 l.length).length=1:=aP _ _;have e1:dB ((gY l).take 1)=l.length:=by unfold gY;rw[cP hb1,gF,fp (by omega)]
 have e2:(gY l).drop 1=l.flatMap snB:=by unfold gY;rw[ej hb1]
 unfold ou at hv8;rw[if_neg (by unfold gY;rw[aF,hb1];omega),e1,e2] at hv8;obtain⟨rv,rfl,hrs,hrb⟩:=hv8;have hN:(UInt64.ofNat l.length).toNat=l.length:=mK (show l.length<18446744073709551616 by omega);have hc8:Chg [] w7 w8:=Chg.heap hh8;have hmw:=hM5.lt;have hsw:=hB5.lt;have k3:=hc3.1;have k4:=hc4.1;have k5:=hc5.1;have k6:=hc6.1;have hmb:mq∉ay bv:=λhh=>by have:=hib.ge mq hh;omega
 have hms:mq≠sq:=by omega
 refine zm O (zx O (zx O (zx O (zaa O (za O (a6 (aa (zSR (za O (a6 (aq (aX [6,7,8,9,10,11] (λq vs w'=>∃(i:Nat) (rv:Value),vs=[.pointer (some ⟨R.pb,0,none⟩),.int .i64 0,.pointer (some ⟨sq,0,none⟩),.int .u64 (UInt64.ofNat l.length).toNat,rv,.int .i64 i]/\i+q=l.length/\Sl w' rv ((l.drop i).flatMap snB)/\ay rv=ay bv/\MapAt w' mq (snV (eG (sx'.take i)))/\Blk w' sq [.pointer (some ⟨R.pb,0,none⟩),.int .u32 root.toNat,.map (some mq),.bool false]/\Chg [] w3 w') (l.length) ?_ ?_))))))))))))
 ·exact⟨0,rv,rfl,by omega,by rw[gS];exact hrs,hrb,((hM5.mod hc6 (by simp)).mod hc7 (by simp)).mod hc8 (by simp),((hB5.chg0 hc6).chg0 hc7).chg0 hc8,hc4.tr (hc5.tr (hc6.tr (hc7.tr hc8)))⟩
 ·rintro q vs J w9 ⟨i,rv,rfl,hiq,hr9,hb9,hM9,hB9,hc9⟩;refine aa (zSR (zmm O (a7 O (gg O eA uU3 (by omega)) ?_)));by_cases hil:i<l.length
  ·refine a7 O (bG (bK O O) (bT (by omega))) ?_;refine zm O (ah O (zm O (ah O (a7 O (dy O O) (a7 O (aN O) (a6 (bI O (rfl) (zKN (aa (aq (zSR (za O (zNR (a7 O (gK (v:=.int .u64 ((0:UInt64).toNat:Nat)) O) ?_))))))))))))));refine a6 (aa (zSR (zm O ?_)));have hob2:∃z,q=z+1:=⟨q-1,by omega⟩
   obtain⟨q,rfl⟩:=hob2;have hob3:∃x,sx'[i]?=some x:=⟨sx'[i]'(by omega),bM _⟩
   obtain⟨x,hx⟩:=hob3;have hlx2:l[i]?=some (x.1,x.2.1):=by rw[<-hsl];unfold eG;rw[mJ,hx];rfl
   have hx10:=h10 x (j1 hx);rw[GQ hlx2] at hr9;have hob4:=txtT (s:=x.1) (z:=be 4 x.2.1.toNat++(l.drop (i+1)).flatMap snB) hx10;obtain⟨t1,t2,t3,t4⟩:=hob4;have hzl:((l.drop (i+1)).flatMap snB).length<=64:=by
    have h1:=kO (l.drop (i+1)) (λp hp=>by
     have hp:=List.mem_of_mem_drop hp;rw[<-hsl] at hp;obtain⟨q,hq,rfl⟩:=List.mem_map.1 hp;exact h10 q hq)
    unfold gY at h1;rw[aF,aP,bE] at h1;omega
   have hb4:(be 4 x.2.1.toNat).length=4:=aP _ _;have hbz:(be 4 x.2.1.toNat++(l.drop (i+1)).flatMap snB).length=4+((l.drop (i+1)).flatMap snB).length:=by rw[aF,hb4]
   rw[hbz] at t4;refine ag O C85 (nz rv _ 10 w9 hr9 (by rw[t4];omega) (by decide)) ?_;rintro va wa ⟨hva,hha⟩;unfold pI at hva;rw[t1,t2,t3,if_neg (by rw[t4];omega)] at hva;obtain⟨ra,rfl,hra,hrab⟩:=hva;refine zm O (zx O (zx O (zx O (zaa O (za O (zNR (zmv O (dy O O) (a6 (bI O (rfl) (ae (zm O (ag O C83 (jv ra _ 4 wa hra (by decide) (by rw[aF,hb4];omega)) ?_))))))))))));rintro vb wb ⟨hvb,hhb⟩;unfold ou at hvb;rw[if_neg (by rw[aF,hb4];omega),cP hb4,ej hb4,gF,fp (by have:=x.2.1.toNat_lt;omega)] at hvb;obtain⟨rb,rfl,hrb2,hrbb⟩:=hvb;have hcb:Chg [] w9 wb:=(Chg.heap hha).tr (Chg.heap hhb);have hBb:=hB9.chg0 hcb;have hMb:MapAt wb mq (snV (eG (sx'.take i))):=hM9.mod hcb (by simp);refine zm O (zx O (zx O (zx O (zaa O (za O (a6 (ae (zm O (zn O O (a7 O (a8 dC O oD O O) ?_))))))))));have hu32:gL ((UInt64.ofNat x.2.1.toNat).toNat:Int)=x.2.1:=by rw[Ci];simp
   refine a7 O (aD fO O O (hBb.c O)) (zmm O (a7 O (eE O eA bu) ?_));rw[hu32];refine aQ O (gz (k:=x.1) fO (gO uU9) O O O hMb) ?_;rintro wc ⟨hMc,hcc,hsc⟩;refine bA (ax (aj (ae (zmv O (aC O O (by omega)) (za O ?_)))));refine a6 ?_;have htk:sx'.take (i+1)=sx'.take i++[x]:=by rw[gU,hx];rfl
   have hne:∀y∈sx'.take i,y.1≠x.1:=by
    have:=hnd.sublist ((oI (i+1) sx').map (·.1))
    rw[htk,gi,kh] at this;exact λy hy e=>this.2.2 y.1 (List.mem_map.2 ⟨y,hy,rfl⟩) x.1 (by simp) e
   have hMc:MapAt wc mq (snV (eG (sx'.take (i+1)))):=by rw[htk,zA x _ hne];exact hMc
   have hbb:ay rb=ay bv:=hrbb.trans (hrab.trans hb9);refine aT (q) (bq (by omega) ?_);exact⟨i+1,rb,rfl,by omega,hrb2.mod hcc (λy hy hh=>by simp at hh;subst hh;rw[hbb] at hy;exact hmb hy),hbb,hMc,hBb.chg hcc (by simp;exact hms.symm),(hc9.tr hcb).t1 hcc hmn⟩
  ·have hil2:i=l.length:=by omega
   subst hil2;refine a7 O (bG (bK O O) (bF (by omega))) ?_;refine zm O (aw O O (aw O O (a7 O (aK O) (a6 (aI (rfl) (aO (an (an (aE (aj (aa (zSR (zm O ?_)))))))))))));rw[cd (by omega)] at hM9;have hS9:=hS3.chg0 hc9;have hus:∀x,s.P.kept.st.used x=s.P.now.used x:=λx=>by rw[h.st]
   have hws:∀x,s.P.kept.st.written x=s.P.now.written x:=λx=>by rw[h.st]
   refine a7 O (bG (bV O O) (congrArg Value.bool (decide_eq_false (λh=>h O)))) ?_;refine zm O (ah O (zm O (ah O (ag O C80 (wT w9 R c.b c.key _ hS9.2.1 c.n (by omega) (λx hx=>hS9.2.2.2.1.ok.used x hx)) ?_))));rintro uv wu ⟨lu,hou,hnu,hmu,_,hcu,hiu⟩;have hob5:=hou.form (n:=lu.length) rfl;obtain⟨pu,cu,rfl⟩:=hob5;have hru:root∈lu:=by
    rw[hmu root];show s.P.kept.st.used root=true;rw[hus root,h.used root];have hob6:=h.live;obtain⟨_,d,pg,ht,_,_⟩:=hob6;have hob7:=B2 ht;obtain⟨q,hq⟩:=hob7;exact⟨root,cM,d,pg,m,ht,by rw[hq];simp⟩
   have hlu:=List.length_pos_of_mem hru;refine ah O (a7 O (aB O aZ) (ah O (a7 O (dy O O) (a7 O (aK O) (a6 (aJ O (by omega) ?_))))));refine zKR (zma O (za O (a6 (zrf ?_))));have hS10:=hS9.chg0 hcu;have hmv:∀{r:UInt32} {m:List Pr},Tre s r m->Tre ⟨k+1,ds2,⟨s.P.kept.st,opS c.key ds s.P.kept,(a+1) % 2,0,f,false⟩,s.V⟩ r m:=λ⟨q,d,pg,h1,h2,h3⟩=>⟨q,d,pg,h1,λx hx=>(hws x).trans (h2 x hx),h3⟩
   have hFq:∀x∈PF R++DF c.b c.kv c.r,x<w2.heap.size:=hlt2;have k2:=hc2.1;have k1:=hc1.1;refine⟨R,⟨k+1,ds2,⟨s.P.kept.st,opS c.key ds s.P.kept,(a+1) % 2,0,f,false⟩,s.V⟩,sq,mq,sx',rfl,⟨hS10,hB9.chg0 hcu,hM9.mod hcu (by simp),⟨λhh=>by have:=hFq _ hh;omega,by show c.w0.heap.size<=sq;omega⟩,⟨λhh=>by have:=hFq _ hh;omega,hms,by show c.w0.heap.size<=mq;omega⟩,hmv h.live,λp hp=>hmv (h.olds p (hsx.subset hp)),h10,hlx,λx=>?_,⟨λx=>rfl,λx=>rfl,λx hx=>hS10.2.2.2.1.ok.written x hx⟩,rfl,λ_=>hpd2,hkr,⟨l,by rw[hsl],hkt⟩⟩,hsx,aM _,λj hj0 hj1=>?_,?_,by omega,by omega,λx hx=>by have:=hR2 x hx;omega⟩
   ·show s.P.kept.st.used x=true↔_;rw[hus x,h.used x];have hrs:∀r,r∈root::xj sx'↔r∈root::xj sx:=λr=>by
     have:=(hsx.map (·.2.1)).mem_iff (a:=r)
     rw[bZ,bZ];unfold xj;rw[this]
    constructor
    ·rintro⟨r,hr,q⟩;exact⟨r,(hrs r).2 hr,q⟩
    ·rintro⟨r,hr,q⟩;exact⟨r,(hrs r).1 hr,q⟩
   ·show ds2.now j=_;have hsn:=mY (s:=opS c.key ds s.P.kept) hC.sup.ok.txt;rw[hLd.now j (by omega) (by have:=hC.len;omega),if_neg (by omega)]
   ·exact((hc1.tr0' hc2).tr0 hc3).tr0 (hc9.tr hcu)
theorem qz{ds:DSt}(h0:ds.offAt=0)(hp:ds.pend=[]):ds.crash []=ds:=by
 obtain⟨s,o,kk,p⟩:=ds;cases hp;cases h0;simp[DSt.crash,mh,j7]
abbrev Sn:=Bs×List Pr
def snP(sx:List Sx):List Sn:=sx.map λp=>(p.1,p.2.2)
def vY(m:List Pr)(sn:List Sn):Nat:=2*m.length+1+(sn.map λp=>2*p.2.length+1).sum
theorem yb{m:List Pr}{a b:List Sn}(h:a.Perm b):vY m a=vY m b:=by
 unfold vY;rw[(h.map _).sum_nat]
theorem DZ(m:List Pr)(sx:List Sx):xm m sx=vY m (snP sx):=by
 unfold xm vY snP;rw[fH];rfl
def Gr(w:World)(F F':List Nat):Prop:=∀x∈F',x∈F∨w.heap.size<=x
def SS(w0:World)(F:List Nat)(w:World)(sv dv:Value)(key:List UInt8)(m:List Pr)(sn:List Sn)(n k:Nat):Prop :=
 ∃(c:TC) (s:TP) (sb mr:Nat) (root:UInt32) (sx:List Sx),StoreAt c w s sb mr root m sx/\c.w0=w0/\F=sb::mr::c.F/\sv=.pointer (some ⟨sb,0,none⟩)/\dv=.pointer (some ⟨c.b,0,none⟩)/\c.key=key/\(snP sx).Perm sn/\c.n=n/\s.k<=k
theorem yD{nm:Bs}:∀{sx:List Sx},(sx.map (·.1)).Nodup->snP (qx nm sx)=(snP sx).filter (λp=>decide (p.1≠nm))
 | [], _ => rfl
 | p :: l, h => by
  rw[eV,jC] at h;unfold qx;by_cases e:nm=p.1
  ·rw[if_pos e];unfold snP;rw[eV,yV,if_neg (by simp[e])];refine(List.filter_eq_self.2 (λq hq=>?_)).symm;obtain⟨z,hz,rfl⟩:=List.mem_map.1 hq;refine decide_eq_true (λe2=>h.1 (List.mem_map.2 ⟨z,hz,?_⟩));rw[<-e];exact e2
  ·rw[if_neg e];have ih:=yD (nm:=nm) h.2;unfold snP at ih ⊢;rw[eV,eV,yV,if_pos (by simpa using λq=>e q.symm),ih]
theorem StoreAt.nd{c:TC}{w:World}{s:TP}{sb mr:Nat}{root:UInt32}{m:List Pr}{sx:List Sx}(h:StoreAt c w s sb mr root m sx):(sx.map (·.1)).Nodup:=by
 have h1:=h.map.nodup;rw[vC] at h1;have h2:(eG sx).map (·.1)=sx.map (·.1):=by unfold eG;rw[fH];rfl
 rw[h2] at h1;exact h1
theorem BJ{w0 w:World}{b r n:Nat}{kv:Value}{key:List UInt8}(hd:RunD w0 w b kv r (dsN (32+8*n)))(hn:4<=n/\n<=400)(hkl:key.length=32) :
  Ret Tryz.prog 30 #[.pointer (some ⟨b,0,none⟩),cy key] w λv w'=>∃F sv,v=.tuple #[sv,.int .i64 0]/\SS w0 F w' sv (.pointer (some ⟨b,0,none⟩)) key [] [] n 4/\Chg (DF b kv r) w w'/\Gr w (DF b kv r) F:=by
 refine(EA w0 w b r n 1 kv key _ hd (λw1 hc1=>?_) hn (by decide) hkl).mono ?_
 ·refine(D1 (n:=n) V0 ⟨hd.1.chg hc1 (by simp),hd.2.1.tr hc1,hd.2.2⟩ hn hkl).mono ?_;rintro v w' ⟨R,a,ds,rfl,h1,h2,h3⟩;exact⟨R,2,1,a,ds,rfl,h1,h2,h3⟩
 rintro v w' ⟨c,s,sb,mr,id,rfl,hS,rfl,rfl,rfl,rfl,rfl,rfl,hk,hc,hsb,hmr,hF⟩;refine⟨_,_,rfl,⟨c,s,sb,mr,id,[],hS,rfl,rfl,rfl,rfl,rfl,.refl _,rfl,hk⟩,hc,λx hx=>?_⟩;rcases List.mem_cons.1 hx with rfl|hx
 ·exact .inr hsb
 ·rcases List.mem_cons.1 hx with rfl|hx
  ·exact .inr hmr
  ·exact hF x hx
section
variable {w0 w w':World}{F:List Nat}{sv dv:Value}{key:List UInt8}{m:List Pr}{sn:List Sn}{n k:Nat}
theorem SS.now(h:SS w0 F w sv dv key m sn n k):Chg [] w0 w:=by
 obtain⟨c,s,sb,mr,root,sx,h,rfl,rfl,rfl,rfl,rfl,hp,rfl,hk⟩:=h;exact PS.now h.pg
theorem SS.lt(h:SS w0 F w sv dv key m sn n k):∀x∈F,x<w.heap.size:=by
 obtain⟨c,s,sb,mr,root,sx,h,rfl,rfl,rfl,rfl,rfl,hp,rfl,hk⟩:=h;intro x hx;rcases List.mem_cons.1 hx with rfl|hx
 ·exact h.blk.lt
 ·rcases List.mem_cons.1 hx with rfl|hx
  ·exact h.map.lt
  ·exact h.pg.lt x hx
theorem SS.ge(h:SS w0 F w sv dv key m sn n k):∀x∈F,w0.heap.size<=x:=by
 obtain⟨c,s,sb,mr,root,sx,h,rfl,rfl,rfl,rfl,rfl,hp,rfl,hk⟩:=h;intro x hx;rcases List.mem_cons.1 hx with rfl|hx
 ·exact h.sF.2
 ·rcases List.mem_cons.1 hx with rfl|hx
  ·exact h.mF.2.2
  ·exact h.pg.ge x hx
theorem StoreAt.chg{c:TC}{s:TP}{sb mr:Nat}{root:UInt32}{sx:List Sx}{S:List Nat}(h:StoreAt c w s sb mr root m sx)(hc:Chg S w w')(hn:∀x∈sb::mr::c.F,x∉S)(hs:∀x∈S,c.w0.heap.size<=x):StoreAt c w' s sb mr root m sx :=
 ⟨h.pg.chg hc (λx hx=>hn x (bN _ (bN _ hx))) hs,h.blk.chg hc (hn _ cM),h.map.mod hc (hn _ (bN _ cM)),h.sF,h.mF,h.live,h.olds,h.names,h.few,h.used,h.com,h.st,h.pend,h.rt,h.txt⟩
theorem SS.chg{S:List Nat}(h:SS w0 F w sv dv key m sn n k)(hc:Chg S w w')(hn:∀x∈F,x∉S)(hs:∀x∈S,w0.heap.size<=x):SS w0 F w' sv dv key m sn n k:=by
 obtain⟨c,s,sb,mr,root,sx,h,rfl,rfl,rfl,rfl,rfl,hp,rfl,hk⟩:=h;exact⟨c,s,sb,mr,root,sx,h.chg hc hn hs,rfl,rfl,rfl,rfl,rfl,hp,rfl,hk⟩
theorem SS.chg0(h:SS w0 F w sv dv key m sn n k)(hc:Chg [] w w'):SS w0 F w' sv dv key m sn n k:=h.chg hc (by simp) (by simp)
theorem SS.sort(h:SS w0 F w sv dv key m sn n k):ec m:=by
 obtain⟨c,s,sb,mr,root,sx,h,rfl,rfl,rfl,rfl,rfl,hp,rfl,hk⟩:=h;exact h.live.sort
def SR(w0:World)(F:List Nat)(w w':World)(sv dv:Value)(key:List UInt8)(m:List Pr)(sn:List Sn)(n k:Nat):Prop :=
 (∃F',SS w0 F' w' sv dv key m sn n k/\Gr w F F')/\Chg F w w'
theorem SS.doA{lv:Value}{l:List Wr}(h:SS w0 F w sv dv key m sn n k)(hl:Sl w lv l)(hlF:∀x∈ay lv,x∉F)(hb:isB l=true)(hm:m.length+l.length<=900)(hk:k+24*l.length+1<=40000)(hr:300<=n->vY m sn+2*(m.length+l.length)+30<=n) :
  Ret Tryz.prog 32 #[sv,lv] w λr w'=>∃(e:Int) (M:List Pr),r=.int .i64 e/\DoE m l (n<vY m sn+2*(m.length+l.length)+30) e M/\SR w0 F w w' sv dv key M sn n (k+24*l.length+1):=by
 obtain⟨c,s,sb,mr,root,sx,h,rfl,rfl,rfl,rfl,rfl,hp,rfl,hk1⟩:=h;have hpg:xm m sx=vY m sn:=by rw[DZ,yb hp]
 refine(Do_ok c w s sb mr root m sx lv l h hl (λx hx hh=>hlF x hx (bN _ (bN _ hh))) hb hm (by omega) (by rw[hpg];exact hr)).mono ?_;rintro r w' ⟨⟨e,M,rfl,hE,c',s',id,hS,hcc,hF,hk2⟩,hc⟩;have e0:c'.w0=c.w0:=by rw[hcc]
 have e1:c'.b=c.b:=by rw[hcc]
 have e2:c'.key=c.key:=by rw[hcc]
 have e3:c'.n=c.n:=by rw[hcc]
 rw[hpg] at hE;refine⟨e,M,rfl,hE,⟨_,⟨c',s',sb,mr,id,sx,hS,e0,rfl,rfl,by rw[e1],e2,hp,e3,by omega⟩,λx hx=>?_⟩,hc.mono (λx hx _=>?_)⟩
 ·rcases List.mem_cons.1 hx with rfl|hx
  ·exact .inl cM
  ·rcases List.mem_cons.1 hx with rfl|hx
   ·exact .inl (bN _ cM)
   ·exact(hF x hx).imp (λq=>bN _ (bN _ q)) (λq=>q)
 ·rcases List.mem_cons.1 hx with rfl|hx
  ·exact cM
  ·exact bN _ (bN _ hx)
theorem SS.do_{lv:Value}{l:List Wr}(h:SS w0 F w sv dv key m sn n k)(hl:Sl w lv l)(hlF:∀x∈ay lv,x∉F)(hb:isB l=true)(hm:m.length+l.length<=900)(hk:k+24*l.length+1<=40000)(hr:vY m sn+2*(m.length+l.length)+30<=n) :
  Ret Tryz.prog 32 #[sv,lv] w λr w'=>r=.int .i64 0/\SR w0 F w w' sv dv key (lI m l) sn n (k+24*l.length+1):=by
 refine(h.doA hl hlF hb hm hk (λ_=>hr)).mono ?_;rintro r w' ⟨e,M,rfl,⟨rfl,rfl⟩|⟨_,_,q⟩,h2⟩
 ·exact⟨rfl,h2⟩
 ·omega
theorem SS.aft{c:TC}{s:TP}{sb mr:Nat}{root:UInt32}{sx:List Sx}(ha:Aft c w w' s sb root m sx)(hp:(snP sx).Perm sn)(hk:s.k<=k)(hc:Chg (sb::c.F) w w') :
  SR c.w0 (sb::mr::c.F) w w' (.pointer (some ⟨sb,0,none⟩)) (.pointer (some ⟨c.b,0,none⟩)) c.key m sn c.n (k+1):=by
 obtain⟨c',s',mr',hS,hcc,hF,hk2,hmr⟩:=ha;have e0:c'.w0=c.w0:=by rw[hcc]
 have e1:c'.b=c.b:=by rw[hcc]
 have e2:c'.key=c.key:=by rw[hcc]
 have e3:c'.n=c.n:=by rw[hcc]
 refine⟨⟨_,⟨c',s',sb,mr',root,sx,hS,e0,rfl,rfl,by rw[e1],e2,hp,e3,by omega⟩,λx hx=>?_⟩,hc.mono (λx hx _=>?_)⟩
 ·rcases List.mem_cons.1 hx with rfl|hx
  ·exact .inl cM
  ·rcases List.mem_cons.1 hx with rfl|hx
   ·exact .inr hmr
   ·exact(hF x hx).imp (λq=>bN _ (bN _ q)) (λq=>q)
 ·rcases List.mem_cons.1 hx with rfl|hx
  ·exact cM
  ·exact bN _ (bN _ hx)
theorem Av{sx:List Sx}{nm:Bs}(hp:(snP sx).Perm sn):(∃p∈sx,p.1=nm)↔nm∈sn.map (·.1):=by
 rw[<-(hp.map _).mem_iff];unfold snP;rw[fH]
 constructor
 ·rintro⟨p,h,e⟩;exact List.mem_map.2 ⟨p,h,e⟩
 ·intro h;obtain⟨p,h,e⟩:=List.mem_map.1 h;exact⟨p,h,e⟩
theorem sn_len{sx:List Sx}(hp:(snP sx).Perm sn):sx.length=sn.length:=by
 rw[<-hp.length_eq];exact(dr ..).symm
theorem SS.snap(h:SS w0 F w sv dv key m sn n k)(nm:Bs)(hn:pz nm=true)(hp:nm∉sn.map (·.1))(h4:sn.length<4)(hk:k+1<=40000) :
  Ret Tryz.prog 33 #[sv,str nm] w λr w'=>r=.int .i64 0/\SR w0 F w w' sv dv key m (sn++[(nm,m)]) n (k+1):=by
 obtain⟨c,s,sb,mr,root,sx,h,rfl,rfl,rfl,rfl,rfl,hq,rfl,hk1⟩:=h;refine(Snap_ok h nm hn (λz=>hp ((Av hq).1 z)) (by rw[sn_len hq];exact h4) (by omega)).mono ?_;rintro r w' ⟨rfl,ha,hc⟩;exact⟨rfl,SS.aft ha (by unfold snP;rw[gi];exact hq.append_right _) hk1 hc⟩
theorem SS.drop(h:SS w0 F w sv dv key m sn n k)(nm:Bs)(hn:pz nm=true)(hp:nm∈sn.map (·.1))(hk:k+1<=40000) :
  Ret Tryz.prog 36 #[sv,str nm] w λr w'=>r=.int .i64 0/\SR w0 F w w' sv dv key m (sn.filter (λp=>decide (p.1≠nm))) n (k+1):=by
 obtain⟨c,s,sb,mr,root,sx,h,rfl,rfl,rfl,rfl,rfl,hq,rfl,hk1⟩:=h;refine(Drop_ok h nm hn ((Av hq).2 hp) (by omega)).mono ?_;rintro r w' ⟨rfl,ha,hc⟩;exact⟨rfl,SS.aft ha (by rw[yD h.nd];exact hq.filter _) hk1 hc⟩
theorem SS.snapT(h:SS w0 F w sv dv key m sn n k)(nm:Bs)(hl:nm.length<=100000)(hn:pz nm=true)(hp:nm∈sn.map (·.1)) :
  Ret Tryz.prog 33 #[sv,str nm] w λr w'=>r=.int .i64 101/\w=w':=by
 obtain⟨c,s,sb,mr,root,sx,h,rfl,rfl,rfl,rfl,rfl,hq,rfl,hk1⟩:=h;exact Dq h nm hl hn ((Av hq).2 hp)
theorem SS.dropN(h:SS w0 F w sv dv key m sn n k)(nm:Bs)(hl:nm.length<=100000)(hn:pz nm=true)(hp:nm∉sn.map (·.1)) :
  Ret Tryz.prog 36 #[sv,str nm] w λr w'=>r=.int .i64 100/\w=w':=by
 obtain⟨c,s,sb,mr,root,sx,h,rfl,rfl,rfl,rfl,rfl,hq,rfl,hk1⟩:=h;exact G3 h nm hl hn (λz=>hp ((Av hq).1 z))
theorem SS.doB{lv:Value}{l:List Wr}(h:SS w0 F w sv dv key m sn n k)(hl:Sl w lv l)(hll:l.length<=100000)(hb:isB l=false) :
  Ret Tryz.prog 32 #[sv,lv] w λr w'=>r=.int .i64 12/\Chg [] w w':=by
 obtain⟨c,s,sb,mr,root,sx,h,rfl,rfl,rfl,rfl,rfl,hp,rfl,hk1⟩:=h;refine enter [4] Tryz.func32 O O (al O) (zSR (za O (a6 (aa (aq (zSR (zm O (zn O O (a7 O (a8 dC O I4 O O) (a7 O (aD uU4 O O (h.blk.c O)) (za O (a6 (aI (rfl) (zSR (zm O (ag O C72 (wz w _ l hl hll) ?_))))))))))))))));rintro _ w1 ⟨rfl,hc1⟩;rw[hb];refine a7 O (cz O) (za O (a6 (aW (rfl) (zSR (za O (a6 (zrb ?_)))))));exact⟨rfl,hc1⟩
theorem SS.get(h:SS w0 F w sv dv key m sn n k)(ky v:Bs)(b:Bool)(hv:(lW m ky).getD []=v)(hb:fA m ky=b) :
  Ret Tryz.prog 47 #[sv,str ky] w λr w'=>r=.tuple #[str v,.bool b]/\Chg [] w w':=by
 obtain⟨c,s,sb,mr,root,sx,h,rfl,rfl,rfl,rfl,rfl,hp,rfl,hk1⟩:=h;exact SGet_ok h ky v b hv hb
theorem SS.len(h:SS w0 F w sv dv key m sn n k) :
  Ret Tryz.prog 39 #[sv] w λr w'=>r=.int .i64 m.length/\Chg [] w w':=by
 obtain⟨c,s,sb,mr,root,sx,h,rfl,rfl,rfl,rfl,rfl,hp,rfl,hk1⟩:=h;exact SLen_ok h
theorem SS.scan(h:SS w0 F w sv dv key m sn n k)(lo hi:Bs)(most:Nat)(hm1:most<=1000) :
  Ret Tryz.prog 43 #[sv,str lo,str hi,.int .i64 most] w λr w'=>Own w' r (vG m lo hi most)/\In r [] w.heap.size/\Chg [] w w':=by
 obtain⟨c,s,sb,mr,root,sx,h,rfl,rfl,rfl,rfl,rfl,hp,rfl,hk1⟩:=h;exact Io h lo hi most hm1
theorem SS.dead(h:SS w0 F w sv dv key m sn n k) :
  Ret Tryz.prog 46 #[sv] w λr w'=>r=.bool false/\w=w':=by
 obtain⟨c,s,sb,mr,root,sx,h,rfl,rfl,rfl,rfl,rfl,hp,rfl,hk1⟩:=h;refine enter [2] Tryz.func46 O O (al O) (zSR (za O (zNR (zm O (zn O O (a7 O (a8 dC O I4 O O) (a7 O (aD uU4 O O (h.blk.c O)) (za O (a6 (zrf ?_))))))))));exact⟨rfl,rfl⟩
theorem sn_mem{sx:List Sx}{q:Sn}(hp:(snP sx).Perm sn)(hq:q∈sn):∃p∈sx,p.1=q.1/\p.2.2=q.2:=by
 have hob1:=List.mem_map.1 (hp.mem_iff.2 hq);obtain⟨p,h,rfl⟩:=hob1;exact⟨p,h,rfl,rfl⟩
theorem SS.getAt(h:SS w0 F w sv dv key m sn n k)(q:Sn)(hq:q∈sn)(ky v:Bs)(b:Bool)(hv:(lW q.2 ky).getD []=v)(hb:fA q.2 ky=b) :
  Ret Tryz.prog 34 #[sv,str q.1,str ky] w λr w'=>r=.tuple #[str v,.bool b,.int .i64 0]/\Chg [] w w':=by
 obtain⟨c,s,sb,mr,root,sx,h,rfl,rfl,rfl,rfl,rfl,hp,rfl,hk1⟩:=h;have hob2:=sn_mem hp hq;obtain⟨p,hpx,e1,e2⟩:=hob2;rw[<-e1];exact FV h p hpx ky v b (by rw[e2];exact hv) (by rw[e2];exact hb)
theorem SS.getN(h:SS w0 F w sv dv key m sn n k)(nm ky:Bs)(hq:nm∉sn.map (·.1)) :
  Ret Tryz.prog 34 #[sv,str nm,str ky] w λr w'=>r=.tuple #[str [],.bool false,.int .i64 100]/\w=w':=by
 obtain⟨c,s,sb,mr,root,sx,h,rfl,rfl,rfl,rfl,rfl,hp,rfl,hk1⟩:=h;exact FW h nm ky (λp hpx e=>hq ((Av hp).1 ⟨p,hpx,e⟩))
theorem SS.names(h:SS w0 F w sv dv key m sn n k) :
  Ret Tryz.prog 35 #[sv] w λv w'=>∃l,Own w' v l/\l.Perm (sn.map (·.1))/\Chg [] w w'/\In v [] w.heap.size:=by
 obtain⟨c,s,sb,mr,root,sx,h,rfl,rfl,rfl,rfl,rfl,hp,rfl,hk1⟩:=h;refine(BI w sb mr _ _ _ (eG sx) h.blk h.map (by unfold eG;rw[dr];have:=h.few;omega)).mono ?_;rintro v w' ⟨l,h1,h2,h3,h4⟩;refine⟨l,h1,h2.trans ?_,h3,h4⟩
 have:=hp.map (·.1)
 unfold snP at this;unfold eG;rw[fH] at this ⊢;exact this
theorem SS.pages(h:SS w0 F w sv dv key m sn n k) :
  Ret Tryz.prog 38 #[sv] w λr w'=>(∃(av bv:Value) (la lb:List UInt32),r=.tuple #[av,bv]/\Own w' av la/\Own w' bv lb/\la.length=lb.length/\la.length<=vY m sn/\0<la.length/\la.length<=n)/\Chg [] w w':=by
 obtain⟨c,s,sb,mr,root,sx,h,rfl,rfl,rfl,rfl,rfl,hp,rfl,hk1⟩:=h;rw[<-yb hp,<-DZ];exact Iq h
theorem SS.crash0(h:SS w0 F w sv dv key m sn n k)(hn:n=300)(cv:Value)(hcf:∃p c,cv=.slice p 0 c) :
  Ret Tryz.prog 69 #[dv,cv] w λ_ w'=>SS w0 F w' sv dv key m sn n k/\Chg F w w':=by
 obtain⟨c,s,sb,mr,root,sx,h,rfl,rfl,rfl,rfl,rfl,hp,rfl,hk1⟩:=h;refine(Bz h.pg (h.pend hn) cv hcf).mono ?_;rintro v w' ⟨hS,hc⟩;have hc:Chg c.F w w':=hc;exact⟨⟨c,s,sb,mr,root,sx,⟨hS,h.blk.chg hc h.sF.1,h.map.mod hc h.mF.1,h.sF,h.mF,h.live,h.olds,h.names,h.few,h.used,h.com,h.st,h.pend,h.rt,h.txt⟩,rfl,rfl,rfl,rfl,rfl,hp,rfl,hk1⟩,hc.mono (λx hx _=>bN _ (bN _ hx))⟩
theorem SS.open_(h:SS w0 F w sv dv key m sn n k)(hn:n=300)(hk:k+1<=40000) :
  Ret Tryz.prog 41 #[dv,cy key] w λv w'=>∃F' sv',v=.tuple #[sv',.int .i64 0]/\SS w0 F' w' sv' dv key m sn n (k+1)/\Gr w F F'/\Chg F w w':=by
 obtain⟨c,s,sb,mr,root,sx,h,rfl,rfl,rfl,rfl,rfl,hp,rfl,hk1⟩:=h;have hC:=h.pg.2.2.2.1.crash (by omega) [];rw[qz h.pg.2.2.2.1.ok.off (h.pend hn)] at hC;refine(BG h h.pg.1 hC (by omega)).mono ?_;rintro v w' ⟨R,s',sb',mr',sx',rfl,hS,hpx,hk2,_,hc,hsb,hmr,hR⟩;refine⟨_,_,rfl,⟨_,s',sb',mr',root,sx',hS,rfl,rfl,rfl,rfl,rfl,(hpx.map _).trans hp,rfl,by omega⟩,λx hx=>?_,hc.mono (λx hx _=>?_)⟩
 ·rcases List.mem_cons.1 hx with rfl|hx
  ·exact .inr hsb
  ·rcases List.mem_cons.1 hx with rfl|hx
   ·exact .inr hmr
   ·rcases List.mem_append.1 hx with hx|hx
    ·exact .inr (hR x hx)
    ·exact .inl (bN _ (bN _ (cf _ hx)))
 ·exact bN _ (bN _ (cf _ hx))
end
theorem yB(w0 w:World)(h0:Chg [] w0 w) :
  Ret Tryz.prog 31 #[] w λv w'=>∃b kv r,v=.pointer (some ⟨b,0,none⟩)/\RunD w0 w' b kv r (dsN (32+8*300))/\Chg [] w w'/\∀x∈DF b kv r,w.heap.size<=x:=by
 refine enter [0] Tryz.func31 O O (al O) (zSR (za O (zNR (ag O C37 (Hw w0 w (32+8*300) (by omega) h0) ?_))));rintro _ w1 ⟨b,kv,r,rfl,hd1,hc1,hF1⟩;refine za O (a6 (zrf ?_));exact⟨b,kv,r,rfl,hd1,hc1,hF1⟩
def kK:List UInt8:=0::0::0::0::4::List.replicate 27 0
theorem Gr.not{w:World}{F F':List Nat}{x:Nat}(h:Gr w F F')(hx:x∉F)(hw:x<w.heap.size):x∉F':=λhh=>by
 rcases h x hh with q|q
 ·exact hx q
 ·omega
theorem CS(w:World):Ret Tryz.prog 29 #[] w λv w'=>v=.bool true/\Chg [] w w':=by
 refine enter [0] Tryz.func29 O O (al O) (zSR (za O (zNR (ag O C31 (yB w w (Chg.refl _)) ?_))));rintro _ w1 ⟨b,kv,r,rfl,hd1,hc1,hF1⟩;refine a7 O (lf (List.replicate 32 (0:UInt8)) ([(4,4)]) (l:=kK) gm I63 O I5 (by kernel_rfl) O (by kernel_rfl) O (by kernel_rfl)) ?_;refine aU (List.replicate 32 (0:UInt8)) I63 O O O ?_;rintro w2 b2 hn2 ha2 hc2 hl2;refine za O (aQ O (bH 32 I63 O (ha2) O O (rfl) (rfl)) ?_);rintro w3 ⟨ha3,hc3,hs3⟩;refine zNR (zm O ?_);have hd3:=hd1.chg0 (hc2.t1 hc3 hn2);refine a7 O (cF 32 gm O I63 O O (ha3) (rfl)) (ag O C30 (BJ hd3 (by decide) O) ?_);rintro _ w4 ⟨F,sv,rfl,hS4,hc4,hG4⟩;refine zm O (zx O (zx O (zaa O (a6 (aa (zSR (zm O ?_)))))));have hb2:b2∉F:=λhh=>by
  have q:=ha3.lt;rcases hG4 b2 hh with g|g
  ·have:=hd1.1.lt b2 g;omega
  ·omega
 have hb4:=(ha3.chg hc4 (λhh=>by have:=hd1.1.lt b2 hh;omega))
 refine a7 O (bG (bV O O) (congrArg Value.bool (decide_eq_false (λh=>h O)))) ?_;refine zm O (ah O (zm O (ah O (a7 O (bW mW I66 O (zs:=[str [],str [],.bool false]) O O (bR O O O (al O) (bR O O O (al O) (eb (cs':=[str [97],str [49],.bool false]) O)))) ?_))));refine ah O (aY O (qU (⟨[97],[49],false⟩:Wr) nJ I66 O O O O O (by decide)) ?_);rintro _ w5 ⟨l5,rfl,hB5,hn5,hc5,hl5⟩;refine ah O ?_;have hF4:=hS4.lt;have hS5:=hS4.chg0 hc5;have hx5:l5∉F:=λhh=>by have:=hF4 _ hh;omega
 refine ag O C32 ((hS5.do_ (Blk.sl1 hB5) (λx hx=>by simp[ay] at hx;subst hx;exact hx5) O (by decide) (by decide) (by decide) :)) ?_;rintro _ w6 ⟨rfl,⟨F6,hS6,hG6⟩,hc6⟩;refine ah O (a7 O (bG (bV O O) (congrArg Value.bool (decide_eq_false (λh=>h O)))) ?_);refine a7 O (aK O) (zm O (ah O (zm O (ah O (ag O C33 ((hS6.snap [120] O (by simp) (by decide) (by decide) :)) ?_)))));rintro _ w7 ⟨rfl,⟨F7,hS7,hG7⟩,hc7⟩;refine ah O (a7 O (bG (bV O O) (congrArg Value.bool (decide_eq_false (λh=>h O)))) ?_);refine a7 O (aK O) (zm O (ah O (zm O (ah O (a7 O (bW mW I66 O (zs:=[str [],str [],.bool false]) O O (bR O O O (al O) (bR O O O (al O) (eb (cs':=[str [97],str [50],.bool false]) O)))) ?_)))));refine ah O (aY O (qU (⟨[97],[50],false⟩:Wr) nJ I66 O O O O O (by decide)) ?_);rintro _ w8 ⟨l8,rfl,hB8,hn8,hc8,hl8⟩;refine ah O ?_;have hF7:=hS7.lt;have hS8:=hS7.chg0 hc8;have hx8:l8∉F7:=λhh=>by have:=hF7 _ hh;omega
 refine ag O C32 ((hS8.do_ (Blk.sl1 hB8) (λx hx=>by simp[ay] at hx;subst hx;exact hx8) O (by decide) (by decide) (by decide) :)) ?_;rintro _ w9 ⟨rfl,⟨F9,hS9,hG9⟩,hc9⟩;refine ah O (a7 O (bV O O) (a7 O (aK O) (a6 (aJ O (λh=>h O) ?_))));refine zKR (zm O (ag O C69 (hS9.crash0 O (.slice none 0 0) ⟨_,_,rfl⟩) ?_));rintro v10 w10 ⟨hS10,hc10⟩;refine zNR (zm O ?_);have kk:=ha3.lt;have k4:=hc4.1;have k5:=hc5.1;have k6:=hc6.1;have k7:=hc7.1;have k8:=hc8.1;have hb6:=hG6.not hb2 (by omega);have hb7:=hG7.not hb6 (by omega);have hb9:=hG9.not hb7 (by omega);have ha10:Arr w10 b2 kK:=(((((hb4.chg0 hc5).chg hc6 hb2).chg hc7 hb6).chg0 hc8).chg hc9 hb7).chg hc10 hb9;refine a7 O (cF 32 gm O I63 O O (ha10) (rfl)) (ag O C41 ((hS10.open_ O (by decide) :)) ?_);rintro _ w11 ⟨F11,sv2,rfl,hS11,hG11,hc11⟩;refine zm O (zx O (zx O (zaa O (a6 (aa (zSR (zmv O (bV O O) (a6 (aJ O (λh=>h O) ?_)))))))));refine zKR (zm O (ag O C47 ((hS11.get [97] [50] true O O :)) ?_));rintro _ w12 ⟨rfl,hc12⟩;refine zm O (zx O (zx O (zaa O (zNR (zm O ?_)))));have hS12:=hS11.chg0 hc12;refine ag O C34 ((hS12.getAt ([120],[([97],[49])]) (by decide) [97] [49] true O O :)) ?_;rintro _ w13 ⟨rfl,hc13⟩;refine zm O (zx O (zx O (zx O (zaa O (za O (zNR (zm O ?_)))))));have hS13:=hS12.chg0 hc13;refine ag O C34 ((hS13.getN [121] [97] (by decide) :)) ?_;rintro _ w14 ⟨rfl,rfl⟩;refine zm O (zx O (zx O (zx O (zaa O (za O (zNR (zm O (ag O C38 ((hS13.pages :)) ?_))))))));rintro _ w14 ⟨⟨av,bv,la,lb,rfl,hla,hlb,hll,_⟩,hc14⟩;refine zm O (zx O (zx O (zaa O (zNR (zmm O (ah O (zm O (ah O ?_))))))));have hS14:=hS13.chg0 hc14;have hob1:=hla.sl.form rfl;obtain⟨pa,ca,rfl⟩:=hob1;have hob2:=hlb.sl.form rfl;obtain⟨pb,cb,rfl⟩:=hob2;refine a7 O (bG (uZ O O) (congrArg Value.bool (decide_eq_true (rfl)))) (a7 O (aN O) (zm O (ah O (zm O (ah O (a7 O (bG (dy O O) (congrArg Value.bool (decide_eq_true (rfl)))) (a7 O (aN O) (zm O (ah O (zmv O (aN O) (zm O (ah O (zm O (ah O (a7 O (bG (uZ O O) (congrArg Value.bool (decide_eq_true (rfl)))) (a7 O (aN O) (zm O (ah O (zm O (ah O (a7 O (bG (dy O O) (congrArg Value.bool (decide_eq_true (rfl)))) (a7 O (aN O) (zm O (ah O (zm O (ah O (ag O C39 ((hS14.len :)) ?_)))))))))))))))))))))))))));rintro _ w15 ⟨rfl,hc15⟩;refine ah O ?_;have hS15:=hS14.chg0 hc15;refine a7 O (bG (dy O O) (congrArg Value.bool (decide_eq_true (rfl)))) (a7 O (aN O) (zm O (ah O (zm O (ah O (a7 O (aB O aZ) (ah O (zm O (ah O (a7 O (aB O aZ) (ah O (a7 O (bG (dy O O) (bT (by omega))) ?_))))))))))));refine a7 O (aN O) (zm O (ah O (zm O (ah O (ag O C32 ((hS15.doB (Sl.nil (α:=Wr) _ 0) (by decide) O :)) ?_)))));rintro _ w16 ⟨rfl,hc16⟩;refine ah O ?_;have hS16:=hS15.chg0 hc16;refine a7 O (bG (dy O O) (congrArg Value.bool (decide_eq_true (rfl)))) (a7 O (aN O) (zm O (ah O (zm O (ah O (ag O C36 ((hS16.dropN [121] (by decide) O (by decide) :)) ?_))))));rintro _ w17 ⟨rfl,rfl⟩;refine ah O (a7 O (bG (dy O O) (congrArg Value.bool (decide_eq_true (rfl)))) (a7 O (aN O) (zm O (ah O (zm O (ah O (ag O C33 ((hS16.snapT [120] (by decide) O (by decide) :)) ?_)))))));rintro _ w18 ⟨rfl,rfl⟩;refine ah O (a7 O (dy O O) (a7 O (aN O) (za O (a6 (zrf ?_)))));exact⟨rfl,hS16.now⟩
theorem Ig(w:World)(lv:Value)(l:List Wr)(hl:Sl w lv l)(hl2:l.length<=9223372036854775807) :
  Ret Tryz.prog 40 #[lv] w λv w'=>v=.bool (isB l)/\w=w':=by
 obtain⟨pl,cl,rfl⟩:=hl.form rfl;refine enter [2] Tryz.func40 O O (al O) (zSR (za O (a6 (aa (zSR (za O (a6 (aq (aX [0,3] (λn vs w'=>∃i:Nat,vs=[.slice pl l.length cl,.int .i64 i]/\i+n=l.length/\(l.take i).all Wr.good=true/\w=w') (l.length) ?_ ?_)))))))))
 ·exact⟨0,rfl,by omega,rfl,rfl⟩
 ·rintro n vs J w1 ⟨i,rfl,hin,hall,rfl⟩;refine aa (zSR (zmm O (a7 O (aB O nJ) (a7 O (bK O O) ?_))));refine a6 (aA O (λhlt=>?_) (λhlt=>?_))
  ·refine zKN (aa (aq (zSR (zmm O ?_))));have hob1:∃z,n=z+1:=⟨n-1,by omega⟩
   obtain⟨n,rfl⟩:=hob1;have hob2:∃a,l[i]?=some a:=⟨l[i]'(by omega),bM _⟩
   obtain⟨a,ha⟩:=hob2;have hno:a.good=false->Value.bool false=Value.bool (isB l):=λh=>by
    unfold isB;rw[List.all_eq_false.2 ⟨a,j1 ha,by simp[h]⟩];rfl
   have hall2:a.good=true->(l.take (i+1)).all Wr.good=true:=λh=>by
    rw[gU,ha,BU,hall];simp[h]
   refine bD O (aS (i) nJ I66 O (hl) O O (by first|rfl|omega) (by omega)) ?_;rintro _ ⟨b1,o1,rfl,he1,hb1⟩;refine a7 O (a8 mW O I9 O O) (a7 O (aD uU9 O O (((hl.at he1 ha).cell (i:=0) rfl:_=some (str a.k)))) ?_);refine a7 O (hU O uU9) ?_;by_cases k1:a.k.length<1
   ·refine a7 O (bG (bK O O) (bT (by omega))) ?_;refine zm O (aw O O (aw O O (aw O O (aw O O (aw O O (aw O O (aw O O (a7 O (aN O) (zm O (aw O O (aw O O (aw O O (aw O O (aw O O (aw O O (aw O O (a7 O (aN O) (zm O (aw O O (aw O O (aw O O (aw O O (aw O O (aw O O (aw O O (aw O O (aw O O (aw O O (aw O O (aw O O (aw O O (a7 O (aN O) (a6 (aW (rfl) (zSR (za O (a6 (bC (aR (aL (aL (aR (aL (cV ?_))))))))))))))))))))))))))))))))))))))))))));exact⟨hno (by unfold Wr.good;rw[decide_eq_false (by omega)];rfl),rfl⟩
   ·refine a7 O (bG (bK O O) (bF (by omega))) ?_;refine zm O (ah O (zm O (ah O (zm O (ah O (bD O (aS (i) nJ I66 O (hl) O O (by first|rfl|omega) (by omega)) ?_))))));rintro _ ⟨b2,o2,rfl,he2,hb2⟩;refine ah O (a7 O (a8 mW O I9 O O) (ah O (a7 O (aD uU9 O O (((hl.at he2 ha).cell (i:=0) rfl:_=some (str a.k)))) ?_)));refine ah O (a7 O (hU O uU9) (ah O ?_));by_cases k2:a.k.length > 60
    ·refine a7 O (bG (dk O O) (bT (by omega))) ?_;refine a7 O (aK O) (zm O (aw O O (aw O O (aw O O (aw O O (aw O O (aw O O (aw O O (a7 O (aN O) (zm O (aw O O (aw O O (aw O O (aw O O (aw O O (aw O O (aw O O (aw O O (aw O O (aw O O (aw O O (aw O O (aw O O (a7 O (aN O) (a6 (aW (rfl) (zSR (za O (a6 (bC (aR (aL (aL (aR (aL (cV ?_))))))))))))))))))))))))))))))))))));exact⟨hno (by unfold Wr.good;rw[decide_eq_false (by omega)];rfl),rfl⟩
    ·refine a7 O (bG (dk O O) (bF (by omega))) ?_;refine a7 O (aK O) (zm O (ah O (zm O (ah O (zm O (ah O (bD O (aS (i) nJ I66 O (hl) O O (by first|rfl|omega) (by omega)) ?_)))))));rintro _ ⟨b3,o3,rfl,he3,hb3⟩;refine ah O (a7 O (a8 mW O I9 O O) (ah O (a7 O (aD uU9 O O (((hl.at he3 ha).cell (i:=1) rfl:_=some (str a.v)))) ?_)));refine ah O (a7 O (hU O uU9) (ah O ?_));by_cases k3:a.v.length > 150
     ·refine a7 O (bG (dk O O) (bT (by omega))) ?_;refine a7 O (aK O) (zm O (aw O O (aw O O (aw O O (aw O O (aw O O (aw O O (aw O O (aw O O (aw O O (aw O O (aw O O (aw O O (aw O O (a7 O (aN O) (a6 (aW (rfl) (zSR (za O (a6 (bC (aR (aL (aL (aR (aL (cV ?_)))))))))))))))))))))))))));exact⟨hno (by unfold Wr.good;rw[decide_eq_false (by omega)];rfl),rfl⟩
     ·refine a7 O (bG (dk O O) (bF (by omega))) ?_;refine a7 O (aK O) (zm O (ah O (zm O (ah O (zm O (ah O ?_))))));have hk:decide (1<=a.k.length/\a.k.length<=60/\a.v.length<=150)=true:=decide_eq_true (by omega);refine bD O (aS (i) nJ I66 O (hl) O O (by first|rfl|omega) (by omega)) ?_;rintro _ ⟨b4,o4,rfl,he4,hb4⟩;refine ah O (a7 O (a8 mW O I4 O O) (ah O ?_));by_cases k4:a.d=true
      ·refine a7 O (aD uU4 O O ((((hl.at he4 ha).cell (i:=2) O).trans (congrArg (λx=>some (Value.bool x)) k4):_=some (.bool true)))) ?_;refine ah O (zm O (ah O (zm O (ah O (zm O (ah O (bD O (aS (i) nJ I66 O (hl) O O (by first|rfl|omega) (by omega)) ?_)))))));rintro _ ⟨b5,o5,rfl,he5,hb5⟩;refine ah O (a7 O (a8 mW O I9 O O) (ah O (a7 O (aD uU9 O O (((hl.at he5 ha).cell (i:=1) rfl:_=some (str a.v)))) ?_)));refine ah O (a7 O (tw O O) (ah O (a7 O (aN O) (a7 O (aK O) (a6 (bX O (λk5=>?_) (λk5=>?_)))))))
       ·refine zSR (za O (a6 (bC (aR (aL (aL (aR (aL (cV ?_)))))))));have k5:a.v≠[]:=by simpa using k5
        exact⟨hno (by unfold Wr.good;rw[hk,k4,decide_eq_true k5];rfl),rfl⟩
       ·refine bQ (ax (aj (ae (zmv O (aC O O (by omega)) (za O ?_)))));refine a6 ?_;have k5:¬a.v≠[]:=by simpa using k5
        refine aT (n) (bq (by omega) ?_);exact⟨i+1,rfl,by omega,hall2 (by unfold Wr.good;rw[hk,k4,decide_eq_false k5];rfl),rfl⟩
      ·have k4:a.d=false:=by simpa using k4
       refine a7 O (aD uU4 O O ((((hl.at he4 ha).cell (i:=2) O).trans (congrArg (λx=>some (Value.bool x)) k4):_=some (.bool false)))) ?_;refine ah O (zm O (aw O O (aw O O (aw O O (aw O O (aw O O (aw O O (ah O (a7 O (aK O) (a7 O (aK O) (a6 (aI (rfl) (bQ (ax (aj (ae (zmv O (aC O O (by omega)) (za O ?_))))))))))))))))));refine a6 (aT (n) (bq (by omega) ?_));exact⟨i+1,rfl,by omega,hall2 (by unfold Wr.good;rw[hk,k4];rfl),rfl⟩
  ·refine aO (an (an (aE (aj (zSR (zmv O (aB O nJ) ?_))))));have hil:i=l.length:=by omega
   subst hil;rw[cX] at hall;have hres:∀g:Bool,g=(decide (1<=l.length)&&decide (l.length<=40))->Value.bool g=Value.bool (isB l):=λg h=>by
    rw[h];unfold isB;rw[hall,j4]
   by_cases h1:1<=l.length
   ·refine a7 O (bG (fC O O) (bT (by omega))) ?_;refine zm O (ah O (zm O (ah O (a7 O (aB O nJ) (ah O (a7 O (fN O O) (a7 O (aN O) (za O (a6 (zrf ?_))))))))));refine⟨hres _ ?_,rfl⟩;rw[decide_eq_true h1,j4,qI,decide_eq_true_iff,decide_eq_true_iff];omega
   ·refine a7 O (bG (fC O O) (bF (by omega))) ?_;refine zm O (aw O O (aw O O (aw O O (a7 O (aK O) (za O (a6 (zrf ?_)))))));exact⟨hres _ (by rw[decide_eq_false h1];rfl),rfl⟩
theorem Ew(w:World)(lv:Value)(l:List Wr)(b:Bool)(hl:Sl w lv l)(hl2:l.length<=9223372036854775807)(hb:isB l=b) :
  Ret Tryz.prog 40 #[lv] w λv w'=>v=.bool b/\w=w':=by
 subst hb;exact Ig w lv l hl hl2
def isLt(l:List Wr):Bool:=l.all λa=>decide (a.k.length<=100/\a.v.length<=200)
theorem EZ(w:World)(av bv:Value)(a b:List Pr)(ha:Sl w av a)(hb:Sl w bv b)(hl:a.length<=9223372036854775807)(_:b.length<=9223372036854775807) :
  Ret Tryz.prog 42 #[av,bv] w λr w'=>r=.bool (decide (a=b))/\Chg [] w w':=by
 have hob8:=ha.form rfl;obtain⟨pa,ca,rfl⟩:=hob8;have hob9:=hb.form rfl;obtain⟨pb,cb,rfl⟩:=hob9;refine enter [4] Tryz.func42 O O (al O) (zSR (za O (a6 (aa (zSR (zmv O (aB O df) (zmv O (aB O df) (a7 O (bV O O) (a6 (aA O (λhne=>?_) (λhne=>?_)))))))))))
 ·refine zSR (za O (a6 (zrt ?_)));exact⟨congrArg Value.bool (decide_eq_false (λh=>hne (by rw[h]))).symm,Chg.refl _⟩
 ·refine zKN (aa (zSR (za O (a6 (aq ?_)))));have hab:a.length=b.length:=by omega
  refine aX [0,1,5] (λq vs w'=>∃i:Nat,vs=[.slice pa a.length ca,.slice pb b.length cb,.int .i64 i]/\i+q=a.length/\Chg [] w w'/\a.take i=b.take i) (a.length) ?_ ?_
  ·exact⟨0,rfl,by omega,Chg.refl _,rfl⟩
  ·rintro q vs J w1 ⟨i,rfl,hi,hc1,ht⟩;refine aa (zSR (zmm O (a7 O (aB O df) (a7 O (bK O O) ?_))));refine a6 ?_;have ha1:=ha.mod0 hc1;have hb1:=hb.mod0 hc1;refine aA O (λhlt=>?_) (λhlt=>?_)
   ·refine zKN (aa (aq (aa ?_)));have hob10:∃z,q=z+1:=⟨q-1,by omega⟩
    obtain⟨q,rfl⟩:=hob10;have hob11:∃x,a[i]?=some x:=⟨a[i]'(by omega),bM _⟩
    obtain⟨x,hx⟩:=hob11;have hob12:∃y,b[i]?=some y:=⟨b[i]'(by omega),bM _⟩
    obtain⟨y,hy⟩:=hob12;refine aH bx (.pure 0 (.pure 1 (.pure 2 (.read 3 (.pure 4 (.pure 5 (.pure 6 (.read 7 (.pure 8 .nil))))))))) (by kernel_rfl) ?_;refine ym O (ym O (yex O (aS (i) df I49 O (ha1) O O (by first|rfl|omega) (by omega)) ?_));rintro _ ⟨bi,oi,rfl,hei,hbi⟩;refine dE O O O (λw'=>At w' bi oi [str x.1,str x.2]) (ha1.at hei hx) (λw1 h1=>cK iM O I49 O h1 O) ?_;refine ym O (ym O (yex O (aS (i) df I49 O (hb1) O O (by first|rfl|omega) (by omega)) ?_));rintro _ ⟨bj,oj,rfl,hej,hbj⟩;refine dE O O O (λw'=>At w' bj oj [str y.1,str y.2]) (hb1.at hej hy) (λw1 h1=>cK iM O I49 O h1 O) ?_;refine yp O (λ_=>x_nePr (a:=x) (b:=y) O O (by kernel_rfl) iM (by kernel_rfl) (by decide) (by decide) O O uU9 uU9) ?_;refine az (aA O (λhxy=>?_) (λhxy=>?_))
    ·refine zSR (za O (a6 (bC (aR (aL (aL (aR (aL (cV ?_)))))))));exact⟨congrArg Value.bool (decide_eq_false (λh=>hxy (by rw[<-h,hx] at hy;exact qK hy))).symm,hc1.tr (drw _)⟩
    ·refine bQ (ax (aj (ae (zmv O (aC O O (by omega)) (za O ?_)))));refine a6 ?_;have hxy:x=y:=Decidable.not_not.1 hxy;subst hxy;refine aT (q) (bq (by omega) ?_);exact⟨i+1,rfl,by omega,hc1.tr (drw _),by rw[gU,gU,ht,hx,hy]⟩
   ·refine aO (an (an (aE (aj (zSR (za O (a6 (zrf ?_))))))));have hil:i=a.length:=by omega
    subst hil;rw[cX,hab,cX] at ht;exact⟨congrArg Value.bool (decide_eq_true ht).symm,hc1⟩
theorem GU(w:World)(av bv:Value)(a b:List Pr)(ha:Sl w av a)(hb:Sl w bv b)(hl:a.length<=9223372036854775807)(he:a=b) :
  Ret Tryz.prog 42 #[av,bv] w λr w'=>r=.bool true/\Chg [] w w':=by
 subst he;refine(EZ w av bv a a ha hb hl hl).mono ?_;rintro r w' ⟨rfl,hc⟩;exact⟨bT rfl,hc⟩
theorem isB_len{l:List Wr}(h:isB l=true):1<=l.length/\l.length<=40:=by
 unfold isB at h;rw[j9,j9,decide_eq_true_iff,decide_eq_true_iff] at h;exact⟨h.1.2,h.2⟩
theorem xS:∀{l:List Wr} {m:List Pr},ec m->(lI m l).length<=m.length+l.length/\ec (lI m l)
 | [], m, h => ⟨aM _, h⟩
 | a :: l, m, h => by
  have h1:=Al (m:=m) a h;have hs:ec (updW m a):=by
   unfold updW
   split
   ·exact yC _ h
   ·exact y7 _ h
  have:=xS (l:=l) hs
  show(lI (updW m a) l).length<=_/\ec (lI (updW m a) l);rw[cg];exact⟨by omega,this.2⟩
theorem pgsN0(m:List Pr):vY m []=2*m.length+1:=rfl
theorem Chg.fr{F:List Nat}{w w0 w':World}(h:Chg F w w')(hF:∀x∈F,w0.heap.size<=x)(h0:Chg [] w0 w):Chg [] w0 w':=h0.t0 h hF
def SD(w0:World)(F:List Nat)(w:World)(sv:Value)(b:Nat)(kv:Value)(r:Nat)(ds:DSt)(key:List UInt8)(m:List Pr)(sn:List Sn)(n k:Nat):Prop :=
 ∃(c:TC) (s:TP) (sb mr:Nat) (root:UInt32) (sx:List Sx),StoreAt c w s sb mr root m sx/\c.w0=w0/\F=sb::mr::c.F/\sv=.pointer (some ⟨sb,0,none⟩)/\c.b=b/\c.kv=kv/\c.r=r/\s.ds=ds/\c.key=key/\(snP sx).Perm sn/\c.n=n/\s.k<=k
section
variable {w0 w w':World}{F G:List Nat}{sv tv dv kv:Value}{b r:Nat}{ds:DSt}{key:List UInt8}{m:List Pr}{sn:List Sn}{n k k':Nat}
theorem SS.sd(h:SS w0 F w sv dv key m sn n k):∃b kv r ds,dv=.pointer (some ⟨b,0,none⟩)/\SD w0 F w sv b kv r ds key m sn n k:=by
 obtain⟨c,s,sb,mr,root,sx,h,e0,e1,e2,e3,e4,hp,e5,hk⟩:=h;exact⟨c.b,c.kv,c.r,s.ds,e3,c,s,sb,mr,root,sx,h,e0,e1,e2,rfl,rfl,rfl,rfl,e4,hp,e5,hk⟩
theorem SD.ss(h:SD w0 F w sv b kv r ds key m sn n k):SS w0 F w sv (.pointer (some ⟨b,0,none⟩)) key m sn n k:=by
 obtain⟨c,s,sb,mr,root,sx,h,e0,e1,e2,rfl,rfl,rfl,rfl,e4,hp,e5,hk⟩:=h;exact⟨c,s,sb,mr,root,sx,h,e0,e1,e2,rfl,e4,hp,e5,hk⟩
theorem SD.chg0(h:SD w0 F w sv b kv r ds key m sn n k)(hc:Chg [] w w'):SD w0 F w' sv b kv r ds key m sn n k:=by
 obtain⟨c,s,sb,mr,root,sx,h,e⟩:=h;exact⟨c,s,sb,mr,root,sx,h.chg0 hc,e⟩
theorem SD.dge(h:SD w0 F w sv b kv r ds key m sn n k):∀x∈DF b kv r,w0.heap.size<=x:=by
 obtain⟨c,s,sb,mr,root,sx,h,rfl,rfl,rfl,rfl,rfl,rfl,rfl,rfl,hq,rfl,hk⟩:=h;exact λx hx=>h.pg.ge x (cf _ hx)
theorem SD.away{ds':DSt}(h:SD w0 F w sv b kv r ds key m sn n k)(hd:RunD w0 w' b kv r ds')(hc:Chg (DF b kv r) w w')(hoff:ds'.offAt=0)(hf:ds'.Fine)(hl:ds'.kept.length=ds.kept.length)(hst:ds'.steps<=5000000)(hp:ds'.pend=[])(hn:∀j:Int,32<=j->j<32+8*n->ds'.now j=ds.now j):SD w0 F w' sv b kv r ds' key m sn n 50000:=by
 obtain⟨c,s,sb,mr,root,sx,h,rfl,rfl,rfl,rfl,rfl,rfl,rfl,rfl,hq,rfl,hk⟩:=h;have hpg:=h.pg;have hDF:∀x∈DF c.b c.kv c.r,x∈c.F:=λx hx=>cf _ hx;exact⟨c,⟨50000,ds',s.P,s.V⟩,sb,mr,root,sx,⟨⟨hd,hpg.2.1.chg hc (PS.apart hpg),hpg.2.2.1,hpg.2.2.2.1.away hoff hf hl hst hp hn,hpg.2.2.2.2⟩,h.blk.chg hc (λhx=>h.sF.1 (hDF _ hx)),h.map.mod hc (λhx=>h.mF.1 (hDF _ hx)),h.sF,h.mF,h.live,h.olds,h.names,h.few,h.used,h.com,h.st,λ_=>hp,h.rt,h.txt⟩,rfl,rfl,rfl,rfl,rfl,rfl,rfl,rfl,hq,rfl,aM _⟩
theorem SD.open2(h:SD w0 G w tv b kv r ds key m sn 300 k){F:List Nat}{m':List Pr}{sn':List Sn}(hs:SD w0 F w sv b kv r ds key m' sn' 300 k')(hk:k+1<=40000) :
  Ret Tryz.prog 41 #[.pointer (some ⟨b,0,none⟩),cy key] w λv w'=>∃G' tv' ds',v=.tuple #[tv',.int .i64 0]/\SD w0 G' w' tv' b kv r ds' key m sn 300 (k+1)/\SD w0 F w' sv b kv r ds' key m' sn' 300 50000/\Chg (DF b kv r) w w'/\∀x∈G',w0.heap.size<=x:=by
 obtain⟨c,s,sb,mr,root,sx,h,rfl,rfl,rfl,rfl,rfl,rfl,rfl,rfl,hp,hn,hk1⟩:=h;have hC:=h.pg.2.2.2.1.crash (by omega) [];rw[qz h.pg.2.2.2.1.ok.off (h.pend hn)] at hC;have hlen:=hC.len;refine(BG h h.pg.1 hC (by omega)).mono ?_;rintro v w' ⟨R,s',sb',mr',sx',rfl,hS,hpx,hk2,hnow,hc,hsb,hmr,hR⟩;have ok:=hS.pg.2.2.2.1.ok;have hok1:=ok.len;have hok2:=ok.steps;have hz:=(PS.now h.pg).1;have hT:SD c.w0 (sb'::mr'::TC.F ⟨c.w0,c.b,c.kv,c.r,R,c.n,c.key⟩) w' (.pointer (some ⟨sb',0,none⟩)) c.b c.kv c.r s'.ds c.key m sn 300 (k+1):=⟨_,s',sb',mr',root,sx',hS,rfl,rfl,rfl,rfl,rfl,rfl,rfl,rfl,(hpx.map _).trans hp,hn,by omega⟩
 refine⟨_,_,s'.ds,rfl,hT,hs.away hS.pg.1 hc ok.off ok.fine (by have:s'.ds.kept.length=32+8*c.n:=hok1;omega) (by omega) (hS.pend hn) (λj h0 h1=>hnow j h0 (by omega)),hc,hT.ss.ge⟩
theorem SS.make(h:SS w0 F w sv dv key m sn n k)(hn:n=300)(hk:k+5<=40000) :
  Ret Tryz.prog 30 #[dv,cy key] w λv w'=>∃F' sv',v=.tuple #[sv',.int .i64 0]/\SS w0 F' w' sv' dv key [] [] n (k+5):=by
 obtain⟨c,s,sb,mr,root,sx,h,rfl,rfl,rfl,rfl,rfl,hp,rfl,hk1⟩:=h;have hC:=h.pg.2.2.2.1.crash (by omega) [];rw[qz h.pg.2.2.2.1.ok.off (h.pend hn)] at hC;have hd:=h.pg.1;refine(EA c.w0 w c.b c.r c.n (s.k+2) c.kv c.key _ hd (λw1 hc1=>?_) h.pg.n4 (by omega) h.pg.2.2.2.2).mono ?_
 ·refine(wG V0 ⟨hd.1.chg hc1 (by simp),hd.2.1.tr hc1,hd.2.2⟩ hC (by omega) h.pg.2.2.2.2).mono ?_;rintro v w' ⟨R,q,e,a,ds,rfl,h1,h2,h3⟩;exact⟨R,q,e,a,ds,rfl,h1,h2,h3⟩
 rintro v w' ⟨c',s',sb',mr',id,rfl,hS,e0,e1,_,_,e2,e3,hk2,hc,hsb,hmr,hF⟩;exact⟨_,_,rfl,c',s',sb',mr',id,[],hS,e0,rfl,rfl,by rw[e1],e3,.refl _,e2,by omega⟩
end
theorem xE(w:World)(key:List UInt8)(hkl:key.length=32)(lv:Value)(l:List Wr)(hl:Sl w lv l)(hl2:l.length<=9223372036854775807)(x2:UInt8) :
  Ret Tryz.prog 10 #[cy key,lv,.int .u8 x2.toNat] w λv w'=>v=.bool true/\Chg [] w w':=by
 obtain⟨pl,cl,rfl⟩:=hl.form rfl;obtain⟨N,hN,hN4⟩:∃m:Nat,(x2 % 4).toNat=m/\m<4:=⟨_,rfl,by rw[UInt8.toNat_mod];exact qM _ (by decide)⟩
 refine enter [6] Tryz.func10 O O (al O) (zSR (cW (l:=key) O O ?_));rintro w0 kb hkn hK0 hc0 hl0;refine za O (a6 (aa (zSR (ag O C29 (CS w0) ?_))));rintro _ w1 ⟨rfl,hc1⟩;refine a7 O (cz O) (a6 (aI (rfl) (zKN (aa (zSR (zm O ?_))))));have hc01:=hc0.tr hc1;have hl1:=hl.mod0 hc01;have hK1:=hK0.chg0 hc1;have hkb:=hK1.lt;have hlw:=hl.lt;have k01:=hc01.1;by_cases hb:isB l=true
 rotate_left
 ·have hb:isB l=false:=by simpa using hb
  refine ag O C40 (Ew _ _ l false hl1 hl2 hb) ?_;rintro _ _ ⟨rfl,rfl⟩;refine a7 O (cz O) (zm O (aw O O (aw O O (aw O O (a7 O (aN O) (a6 (aW (rfl) (zSR (za O (a6 (zrt ?_)))))))))));exact⟨rfl,hc01⟩
 refine ag O C40 (Ew _ _ l true hl1 hl2 hb) ?_;rintro _ _ ⟨rfl,rfl⟩;refine a7 O (cz O) (zm O (ah O (zm O (ah O (a7 O (aB O nJ) (ah O (a7 O (dk O O) (a7 O (aK O) (a6 ?_)))))))));have hlen:=isB_len hb;refine aA O (λh8=>?_) (λh8=>?_)
 ·refine zSR (za O (a6 (zrt ?_)));exact⟨rfl,hc01⟩
 ·refine zKR (ag O C31 (yB w1 w1 (Chg.refl _)) ?_);rintro _ w2 ⟨b,kv,r,rfl,hd2,hc2,hF2⟩;refine za O (zNR (zm O ?_));have hK2:=hK1.chg0 hc2;refine a7 O (cF 32 gm O I63 O O (hK2) (hkl)) (ag O C30 (BJ hd2 (by decide) hkl) ?_);rintro _ w3 ⟨F,sv,rfl,hS3,hc3,hG3⟩;refine zm O (zx O (zx O (zaa O (a6 (aa (zSR (zm O ?_)))))));have hl3:=hl1.mod0 hS3.now;have hFg:=hS3.ge;refine a7 O (bG (bV O O) (congrArg Value.bool (decide_eq_false (λh=>h O)))) ?_;refine zm O (ah O (zm O (ah O (zm O (ah O (ag O C32 ((hS3.do_ hl3 (λx hx hh=>by have:=hlw x hx;have:=hFg x hh;omega) hb (by show 0+_<=_;omega) (by omega) (by rw[pgsN0];show 2*0+1+2*(0+_)+30<=_;omega) :)) ?_))))));rintro _ w4 ⟨rfl,⟨F4,hS4,hG4⟩,hc4⟩;refine ah O ?_;have hml:=(xS (l:=l) (m:=[]) yZ).1;have h0:([]:List Pr).length=0:=rfl;have hob1:∃M,M=lI [] l:=⟨_,rfl⟩
  obtain⟨M,hM⟩:=hob1;rw[<-hM] at hS4 hml;refine a7 O (bG (bV O O) (congrArg Value.bool (decide_eq_false (λh=>h O)))) ?_;refine a7 O (aK O) (zm O (ah O (zm O (ah O (ag O C33 ((hS4.snap [97] O (by simp) (by decide) (by omega) :)) ?_)))));rintro _ w5 ⟨rfl,⟨F5,hS5,hG5⟩,hc5⟩;refine ah O (a7 O (bV O O) (a7 O (aK O) (a6 (aJ O (λh=>h O) ?_))));refine zKN (aa (zSR (za O (a6 (aq ?_)))));have hK5:Arr w5 kb key:=((hK2.chg hc3 (λhh=>by have:=hd2.2.2 _ hh;omega)).chg hc4 (λhh=>by have:=hFg _ hh;omega)).chg hc5 (λhh=>by have:=hS4.ge _ hh;omega);have hob2:=hS5.sd;obtain⟨b',kv',r',ds,hbb,hD⟩:=hob2;obtain rfl:b=b':=by injection hbb with h;injection h with h;injection h
  refine aX [2,3,7,8,10] (λq vs w'=>∃(i:Nat) (G:List Nat) (tv:Value) (ds:DSt) (kq:Nat),vs=[.int .u8 x2.toNat,.pointer (some ⟨kb,0,none⟩),.pointer (some ⟨b,0,none⟩),sv,.int .i64 i]/\i+q=N/\SD w1 G w' tv b kv' r' ds key M ([]++[([97],M)]) 300 (4+24*l.length+1+1+i)/\SD w1 F5 w' sv b kv' r' ds key M ([]++[([97],M)]) 300 kq/\Arr w' kb key) (N) ?_ ?_
  ·exact⟨0,F5,sv,ds,_,rfl,by omega,hD,hD,hK5⟩
  ·rintro q vs J w6 ⟨i,G,tv,ds6,kq,rfl,hi,hT6,hE6,hK6⟩;refine aa (zSR (zmm O (a7 O (DE (b:=4) O O (by decide)) (a7 O (gg O uU5 uU3 (by omega)) (a7 O (bK O O) ?_)))));refine a6 ?_;rw[hN];refine aA O (λhlt=>?_) (λhlt=>?_)
   ·refine zKN (aa (aq (zSR (zm O ?_))));have hob3:∃z,q=z+1:=⟨q-1,by omega⟩
    obtain⟨q,rfl⟩:=hob3;have hD6g:=hT6.dge;refine a7 O (cF 32 gm O I63 O O (hK6) (hkl)) (ag O C41 ((SD.open2 hT6 hE6 (by omega) :)) ?_);rintro _ w7 ⟨G7,tv7,ds7,rfl,hT7,hE7,hc7,hDg7⟩;refine zm O (zx O (zx O (zaa O (zNR (zmv O (bG (bV O O) (congrArg Value.bool (decide_eq_false (λh=>h O)))) ?_)))));refine zm O (ah O (zm O (ah O (ag O C43 ((hT7.ss.scan [] [] 100 (by decide) :)) ?_))));rintro v8 w8 ⟨ho8,hi8,hc8⟩;rw[tG (by omega)] at ho8;have hob4:=ho8.sl.form rfl;obtain⟨p8,c8,rfl⟩:=hob4;refine ah O (zm O (ah O (ag O C43 (((hE7.chg0 hc8).ss.scan [] [] 100 (by decide) :)) ?_)));rintro v9 w9 ⟨ho9,hi9,hc9⟩;rw[tG (by omega)] at ho9;have hob5:=ho9.sl.form rfl;obtain⟨p9,c9,rfl⟩:=hob5;refine ah O (ag O C42 (GU _ _ _ _ _ (ho8.mod0 hc9).sl ho9.sl (by omega) O) ?_);rintro _ wa ⟨rfl,hca⟩;refine ah O (a7 O (cz O) (a7 O (aK O) (zm O (ah O (zm O (ah O ?_))))));have h7a:=hc8.tr (hc9.tr hca);refine ag O C35 (((hT7.chg0 h7a).ss.names :)) ?_;rintro vb wb ⟨ls,hob,hpb,hcb,hib⟩;have hob6:=hob.sl.form rfl;obtain⟨pb,cb,rfl⟩:=hob6;refine ah O (a7 O (aB O cO) (ah O (a7 O (bV O O) (a7 O (aK O) (a6 ?_)))));have hls:ls.length=1:=by rw[hpb.length_eq];simp
    refine aJ O (λh=>h (by omega)) ?_;refine bQ (ax (aj (ae (zmv O (aC O O (by omega)) (za O ?_)))));refine a6 (aT (q) (bq (by omega) ?_));have h7b:=h7a.tr hcb;exact⟨i+1,G7,tv7,ds7,50000,rfl,by omega,hT7.chg0 h7b,hE7.chg0 h7b,(hK6.chg hc7 (λhh=>by have:=hD6g _ hh;omega)).chg0 h7b⟩
   ·refine aO (an (an (aE (aj (zSR (zmv O (cF 32 gm O I63 O O (hK6) (hkl)) ?_))))));refine ag O C30 ((hT6.ss.make O (by omega) :)) ?_;rintro _ w7 ⟨F7,sv7,rfl,hS7⟩;refine zm O (zx O (zx O (zaa O (zNR (zmv O (bG (dy O O) (congrArg Value.bool (decide_eq_true (rfl)))) (zm O (ah O (zm O (ah O (ag O C39 ((hS7.len :)) ?_))))))))));rintro _ w8 ⟨rfl,hc8⟩;refine ah O (a7 O (bG (dy O O) (congrArg Value.bool (decide_eq_true (rfl)))) (a7 O (aN O) (zm O (ah O (zm O (ah O (ag O C35 (((hS7.chg0 hc8).names :)) ?_)))))));rintro v9 w9 ⟨ls,ho9,hp9,hc9,hi9⟩;have hob7:=ho9.sl.form rfl;obtain⟨p9,c9,rfl⟩:=hob7;refine ah O (a7 O (aB O cO) (ah O (a7 O (dy O O) (a7 O (aN O) (za O (a6 (zrf ?_)))))));have hls:ls.length=0:=by rw[hp9.length_eq];rfl
    exact⟨bT (by omega),hc01.tr (hS7.chg0 (hc8.tr hc9)).now⟩
end Go.Proofs.YtpbfapbajmdlkaaGreat
