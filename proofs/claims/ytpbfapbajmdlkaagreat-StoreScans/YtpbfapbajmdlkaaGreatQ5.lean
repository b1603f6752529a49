/- What is scanned from a key to another is just what lies between, live and of a snapshot. It holds for every input; there are no conditions. -/
import Derived.Test.YtpbfapbajmdlkaaGreatQ4
namespace Go.Proofs.YtpbfapbajmdlkaaGreat
open Go Go.Sac
set_option maxRecDepth 100000
set_option maxHeartbeats 4000000
theorem GP{l:List (Bs×UInt32)}{i:Nat}{p:Bs×UInt32}(h:l[i]?=some p):(l.drop i).flatMap snB=txt p.1++(be 4 p.2.toNat++(l.drop (i+1)).flatMap snB):=by
 obtain⟨hi,rfl⟩:=List.getElem?_eq_some_iff.1 h;rw[jC hi,pR];unfold snB;rw[bQ]
theorem txtT{s z:Bs}(h:s.length<=10):dA ((txt s++z).take 2)=s.length/\((txt s++z).drop 2).take s.length=s/\(txt s++z).drop (2+s.length)=z/\(txt s++z).length=2+s.length+z.length:=by
 unfold txt;have h2:(be 2 s.length).length=2:=aP _ _;refine⟨?_,?_,?_,?_⟩
 ·rw[bQ,cO h2,gH,fH (by omega)]
 ·rw[bQ,eM h2,cO rfl]
 ·rw[eM (by rw[aF,h2])]
 ·rw[aF,aF,h2]
theorem Im{c:TC}{w0 w:World}{s:TP}{sb mr a k:Nat}{root:UInt32}{m:List Pr}{sx:List Sx}{ds:DSt}(h:StoreAt c w0 s sb mr root m sx)(hd:RunD c.w0 w c.b c.kv c.r ds)(hC:PCra c.n k c.key ds a s.P.kept s.V)(hk:k+1<=40000) :
  Ret Tryz.prog 41 #[.pointer (some ⟨c.b,0,none⟩),cJ c.key] w λv w'=>∃(R:PR) (s':TP) (sb' mr':Nat) (sx':List Sx),v=.tuple #[.pointer (some ⟨sb',0,none⟩),.int .i64 0]/\StoreAt ⟨c.w0,c.b,c.kv,c.r,R,c.n,c.key⟩ w' s' sb' mr' root m sx'/\sx'.Perm sx/\s'.k<=k+1/\Chg (DF c.b c.kv c.r) w w'/\w.heap.size<=sb'/\w.heap.size<=mr'/\∀x∈PF R,w.heap.size<=x:=by
 have hkl:c.key.length=32:=h.pg.2.2.2.2;have hDl:=hd.1.lt;have hDg:=hd.2.2;have hwz:=hd.2.1.1;have hn4:=h.pg.n4;obtain⟨l,hl,htx⟩:=h.txt;obtain⟨sx',hsx,hsl⟩:=sG (λp:Sx=>(p.1,p.2.1)) hl;have hsl:eH sx'=l:=hsl;have hlen:l.length=sx'.length:=by rw[<-hsl];exact dt ..
 have hlx:sx'.length<=4:=by rw[hsx.length_eq];exact h.few
 have h10:∀p∈sx',p.1.length<=10:=λp hp=>h.names p (hsx.subset hp);have hnd:(sx'.map (·.1)).Nodup:=by
  have h1:=h.map.nodup;rw[vv] at h1;have h2:(eH sx).map (·.1)=sx.map (·.1):=by unfold eH;rw[fK];rfl
  rw[h2] at h1;exact(hsx.map _).nodup_iff.2 h1
 have hkt:s.P.kept.txt=hE l:=by
  have:=congrArg Pst.txt h.st
  exact this.trans htx
 have hkr:s.P.kept.root=root:=by
  have:=congrArg Pst.root h.st
  exact this.trans h.rt
 refine enter [4,5] Tryz.func41 O O (al O) (zSR (db (l:=c.key) O O ?_));rintro w1 kb hkn hK1 hc1 hl1;refine zaa O (zNR (zm O ?_));have hd1:RunD c.w0 w1 c.b c.kv c.r ds:=⟨hd.1.chg hc1 (by simp),hd.2.1.tr hc1,hd.2.2⟩
 refine a7 O (cP 32 gN O I63 O O (hK1) (hkl)) (ah O C81 (Hm hd1 hC hk hkl) ?_);rintro _ w2 ⟨R,f,ds2,rfl,hS2,_,_,hpd2,hc2,hR2⟩;refine zm O (zx O (zx O (zaa O (a6 (aa (zSR (zmv O (bZ O O) (a6 (aK O (λh=>h O) ?_)))))))));refine zKR (zmm O ?_);have hob1:∃c':TC,c'=⟨c.w0,c.b,c.kv,c.r,R,c.n,c.key⟩:=⟨_,rfl⟩
 obtain⟨c',hc'⟩:=hob1;have hlt2:=PS.lt hS2;have hge2:=PS.ge hS2;refine ah O C82 (GX hS2) ?_;rintro v3 w3 ⟨hv3,hS3,hc3⟩;have hv3:v3=.int .u32 root.toNat:=by rw[hv3,<-hkr];rfl
 subst hv3;refine aY O (nN (List UInt8)) ?_;rintro _ w4 ⟨mq,rfl,hmn,hM4,hc4,hl4⟩;refine a7 O (bX dy I143 O (zs:=[.pointer none,.int .u32 0,.map none,.bool false]) O O (bS O O O (al O) (bS O O O (al O) (bS O O O (al O) (ef (cs':=[.pointer (some ⟨R.pb,0,none⟩),.int .u32 root.toNat,.map (some mq),.bool false]) O))))) ?_;refine aY O (da (l:=[.pointer (some ⟨R.pb,0,none⟩),.int .u32 root.toNat,.map (some mq),.bool false]) O O) ?_;rintro _ w5 ⟨sq,rfl,hsn,hB5,hc5,hl5⟩;refine za O (zNR (zm O ?_));have hS5:=(hS3.chg0 hc4).chg0 hc5;have hM5:MapAt w5 mq (snV (eH (sx'.take 0))):=hM4.mod hc5 (by simp);refine ah O C84 (Hv hS5) ?_;rintro v6 w6 ⟨hv6,hS6,hc6⟩;have hv6:v6=str (hE l):=by rw[hv6,<-hkt];rfl
 subst hv6;have hmz:(hE l).length<=65:=by
  have:=kL l (λp hp=>by rw[<-hsl] at hp;obtain⟨q,hq,rfl⟩:=List.mem_map.1 hp;exact h10 q hq)
  omega
 refine aY O (x_s2b uU9 bg uU5 O) ?_;rintro bv w7 ⟨hbo,hc7,hib⟩;refine ah O C83 (ju bv (hE l) 1 w7 hbo.sl (by decide) (by omega)) ?_;rintro v8 w8 ⟨hv8,hh8⟩;have hb1:(be 1 l.length).length=1:=aP _ _;have e1:dA ((hE l).take 1)=l.length:=by unfold hE;rw[cO hb1,gH,fH (by omega)]
 have e2:(hE l).drop 1=l.flatMap snB:=by unfold hE;rw[eM hb1]
 unfold ot at hv8;rw[if_neg (by unfold hE;rw[aF,hb1];omega),e1,e2] at hv8;obtain⟨rv,rfl,hrs,hrb⟩:=hv8;have hN:(UInt64.ofNat l.length).toNat=l.length:=mI (show l.length<18446744073709551616 by omega);have hc8:Chg [] w7 w8:=Chg.heap hh8;have hmw:=hM5.lt;have hsw:=hB5.lt;have k3:=hc3.1;have k4:=hc4.1;have k5:=hc5.1;have k6:=hc6.1;have hmb:mq∉ay bv:=λhh=>by have:=hib.ge mq hh;omega
 have hms:mq≠sq:=by omega
 refine zm O (zx O (zx O (zx O (zaa O (za O (a6 (aa (zSR (za O (a6 (aq (aX [6,7,8,9,10,11] (λq vs w'=>∃(i:Nat) (rv:Value),vs=[.pointer (some ⟨R.pb,0,none⟩),.int .i64 0,.pointer (some ⟨sq,0,none⟩),.int .u64 (UInt64.ofNat l.length).toNat,rv,.int .i64 i]/\i+q=l.length/\Sl w' rv ((l.drop i).flatMap snB)/\ay rv=ay bv/\MapAt w' mq (snV (eH (sx'.take i)))/\Blk w' sq [.pointer (some ⟨R.pb,0,none⟩),.int .u32 root.toNat,.map (some mq),.bool false]/\Chg [] w3 w') (l.length) ?_ ?_))))))))))))
 ·exact⟨0,rv,rfl,by omega,by rw[gV];exact hrs,hrb,((hM5.mod hc6 (by simp)).mod hc7 (by simp)).mod hc8 (by simp),((hB5.chg0 hc6).chg0 hc7).chg0 hc8,hc4.tr (hc5.tr (hc6.tr (hc7.tr hc8)))⟩
 ·rintro q vs J w9 ⟨i,rv,rfl,hiq,hr9,hb9,hM9,hB9,hc9⟩;refine aa (zSR (zmm O (a7 O (fI O eB uU3 (by omega)) ?_)));by_cases hil:i<l.length
  ·refine a7 O (bE (bI O O) (bT (by omega))) ?_;refine zm O (ag O (zm O (ag O (a7 O (dG O O) (a7 O (aL O) (a6 (bM O (rfl) (zKN (aa (aq (zSR (za O (zNR (a7 O (gM (v:=.int .u64 ((0:UInt64).toNat:Nat)) O) ?_))))))))))))));refine a6 (aa (zSR (zm O ?_)));have hob2:∃z,q=z+1:=⟨q-1,by omega⟩
   obtain⟨q,rfl⟩:=hob2;have hob3:∃x,sx'[i]?=some x:=⟨sx'[i]'(by omega),bL _⟩
   obtain⟨x,hx⟩:=hob3;have hlx2:l[i]?=some (x.1,x.2.1):=by rw[<-hsl];unfold eH;rw[mE,hx];rfl
   have hx10:=h10 x (iI hx);rw[GP hlx2] at hr9;have hob4:=txtT (s:=x.1) (z:=be 4 x.2.1.toNat++(l.drop (i+1)).flatMap snB) hx10;obtain⟨t1,t2,t3,t4⟩:=hob4;have hzl:((l.drop (i+1)).flatMap snB).length<=64:=by
    have h1:=kL (l.drop (i+1)) (λp hp=>by
     have hp:=List.mem_of_mem_drop hp;rw[<-hsl] at hp;obtain⟨q,hq,rfl⟩:=List.mem_map.1 hp;exact h10 q hq)
    unfold hE at h1;rw[aF,aP,bG] at h1;omega
   have hb4:(be 4 x.2.1.toNat).length=4:=aP _ _;have hbz:(be 4 x.2.1.toNat++(l.drop (i+1)).flatMap snB).length=4+((l.drop (i+1)).flatMap snB).length:=by rw[aF,hb4]
   rw[hbz] at t4;refine ah O C85 (nu rv _ 10 w9 hr9 (by rw[t4];omega) (by decide)) ?_;rintro va wa ⟨hva,hha⟩;unfold pG at hva;rw[t1,t2,t3,if_neg (by rw[t4];omega)] at hva;obtain⟨ra,rfl,hra,hrab⟩:=hva;refine zm O (zx O (zx O (zx O (zaa O (za O (zNR (zmv O (dG O O) (a6 (bM O (rfl) (ae (zm O (ah O C83 (ju ra _ 4 wa hra (by decide) (by rw[aF,hb4];omega)) ?_))))))))))));rintro vb wb ⟨hvb,hhb⟩;unfold ot at hvb;rw[if_neg (by rw[aF,hb4];omega),cO hb4,eM hb4,gH,fH (by have:=x.2.1.toNat_lt;omega)] at hvb;obtain⟨rb,rfl,hrb2,hrbb⟩:=hvb;have hcb:Chg [] w9 wb:=(Chg.heap hha).tr (Chg.heap hhb);have hBb:=hB9.chg0 hcb;have hMb:MapAt wb mq (snV (eH (sx'.take i))):=hM9.mod hcb (by simp);refine zm O (zx O (zx O (zx O (zaa O (za O (a6 (ae (zm O (zn O O (a7 O (a8 dy O nI O O) ?_))))))))));have hu32:gO ((UInt64.ofNat x.2.1.toNat).toNat:Int)=x.2.1:=by rw[Cf];simp
   refine a7 O (aD fB O O (hBb.c O)) (zmm O (a7 O (eF O eB bu) ?_));rw[hu32];refine aQ O (gB (k:=x.1) fB (gw uU9) O O O hMb) ?_;rintro wc ⟨hMc,hcc,hsc⟩;refine bA (ax (aj (ae (zmv O (aC O O (by omega)) (za O ?_)))));refine a6 ?_;have htk:sx'.take (i+1)=sx'.take i++[x]:=by rw[gD,hx];rfl
   have hne:∀y∈sx'.take i,y.1≠x.1:=by
    have:=hnd.sublist ((oE (i+1) sx').map (·.1))
    rw[htk,gk,kh] at this;exact λy hy e=>this.2.2 y.1 (List.mem_map.2 ⟨y,hy,rfl⟩) x.1 (by simp) e
   have hMc:MapAt wc mq (snV (eH (sx'.take (i+1)))):=by rw[htk,zq x _ hne];exact hMc
   have hbb:ay rb=ay bv:=hrbb.trans (hrab.trans hb9);refine aS (q) (bh (by omega) ?_);exact⟨i+1,rb,rfl,by omega,hrb2.mod hcc (λy hy hh=>by simp at hh;subst hh;rw[hbb] at hy;exact hmb hy),hbb,hMc,hBb.chg hcc (by simp;exact hms.symm),(hc9.tr hcb).t1 hcc hmn⟩
  ·have hil2:i=l.length:=by omega
   subst hil2;refine a7 O (bE (bI O O) (bF (by omega))) ?_;refine zm O (au O O (au O O (a7 O (aJ O) (a6 (aI (rfl) (aN (an (an (aE (aj (aa (zSR (zm O ?_)))))))))))));rw[bU (by omega)] at hM9;have hS9:=hS3.chg0 hc9;have hus:∀x,s.P.kept.st.used x=s.P.now.used x:=λx=>by rw[h.st]
   have hws:∀x,s.P.kept.st.written x=s.P.now.written x:=λx=>by rw[h.st]
   refine a7 O (bE (bZ O O) (congrArg Value.bool (decide_eq_false (λh=>h O)))) ?_;refine zm O (ag O (zm O (ag O (ah O C80 (wP w9 R c.b c.key _ hS9.2.1 c.n (by omega) (λx hx=>hS9.2.2.2.1.ok.used x hx)) ?_))));rintro uv wu ⟨lu,hou,hnu,hmu,_,hcu,hiu⟩;have hob5:=hou.form (n:=lu.length) rfl;obtain⟨pu,cu,rfl⟩:=hob5;have hru:root∈lu:=by
    rw[hmu root];show s.P.kept.st.used root=true;rw[hus root,h.used root];have hob6:=h.live;obtain⟨_,d,pg,ht,_,_⟩:=hob6;have hob7:=HG ht;obtain⟨q,hq⟩:=hob7;exact⟨root,cQ,d,pg,m,ht,by rw[hq];simp⟩
   have hlu:=List.length_pos_of_mem hru;refine ag O (a7 O (aB O bf) (ag O (a7 O (dG O O) (a7 O (aJ O) (a6 (aK O (by omega) ?_))))));refine zKR (zma O (za O (a6 (zrf ?_))));have hS10:=hS9.chg0 hcu;have hmv:∀{r:UInt32} {m:List Pr},Tre s r m->Tre ⟨k+1,ds2,⟨s.P.kept.st,opS c.key ds s.P.kept,(a+1) % 2,0,f,false⟩,s.V⟩ r m:=λ⟨q,d,pg,h1,h2,h3⟩=>⟨q,d,pg,h1,λx hx=>(hws x).trans (h2 x hx),h3⟩
   have hFq:∀x∈PF R++DF c.b c.kv c.r,x<w2.heap.size:=hlt2;have k2:=hc2.1;have k1:=hc1.1;refine⟨R,⟨k+1,ds2,⟨s.P.kept.st,opS c.key ds s.P.kept,(a+1) % 2,0,f,false⟩,s.V⟩,sq,mq,sx',rfl,⟨hS10,hB9.chg0 hcu,hM9.mod hcu (by simp),⟨λhh=>by have:=hFq _ hh;omega,by show c.w0.heap.size<=sq;omega⟩,⟨λhh=>by have:=hFq _ hh;omega,hms,by show c.w0.heap.size<=mq;omega⟩,hmv h.live,λp hp=>hmv (h.olds p (hsx.subset hp)),h10,hlx,λx=>?_,⟨λx=>rfl,λx=>rfl,λx hx=>hS10.2.2.2.1.ok.written x hx⟩,rfl,hpd2,hkr,⟨l,by rw[hsl],hkt⟩⟩,hsx,aO _,?_,by omega,by omega,λx hx=>by have:=hR2 x hx;omega⟩
   ·show s.P.kept.st.used x=true↔_;rw[hus x,h.used x];have hrs:∀r,r∈root::zB sx'↔r∈root::zB sx:=λr=>by
     have:=(hsx.map (·.2.1)).mem_iff (a:=r)
     rw[cd,cd];unfold zB;rw[this]
    constructor
    ·rintro⟨r,hr,q⟩;exact⟨r,(hrs r).2 hr,q⟩
    ·rintro⟨r,hr,q⟩;exact⟨r,(hrs r).1 hr,q⟩
   ·exact((hc1.tr0' hc2).tr0 hc3).tr0 (hc9.tr hcu)
theorem Da{ds:DSt}(h0:ds.offAt=0)(hp:ds.pend=[]):ds.crash []=ds:=by
 obtain⟨s,o,kk,p⟩:=ds;cases hp;cases h0;simp[DSt.crash,ma,j4]
abbrev Sn:=Bs×List Pr
def snP(sx:List Sx):List Sn:=sx.map λp=>(p.1,p.2.2)
def AF(m:List Pr)(sn:List Sn):Nat:=2*m.length+1+(sn.map λp=>2*p.2.length+1).sum
theorem y5{m:List Pr}{a b:List Sn}(h:a.Perm b):AF m a=AF m b:=by
 unfold AF;rw[(h.map _).sum_nat]
theorem DY(m:List Pr)(sx:List Sx):CA m sx=AF m (snP sx):=by
 unfold CA AF snP;rw[fK];rfl
def Gr(w:World)(F F':List Nat):Prop:=∀x∈F',x∈F∨w.heap.size<=x
def SS(w0:World)(F:List Nat)(w:World)(sv dv:Value)(key:List UInt8)(m:List Pr)(sn:List Sn)(n k:Nat):Prop :=
 ∃(c:TC) (s:TP) (sb mr:Nat) (root:UInt32) (sx:List Sx),StoreAt c w s sb mr root m sx/\c.w0=w0/\F=sb::mr::c.F/\sv=.pointer (some ⟨sb,0,none⟩)/\dv=.pointer (some ⟨c.b,0,none⟩)/\c.key=key/\(snP sx).Perm sn/\c.n=n/\s.k<=k
theorem yy{nm:Bs}:∀{sx:List Sx},(sx.map (·.1)).Nodup->snP (qu nm sx)=(snP sx).filter (λp=>decide (p.1≠nm))
 | [], _ => rfl
 | p :: l, h => by
  rw[eX,kg] at h;unfold qu;by_cases e:nm=p.1
  ·rw[if_pos e];unfold snP;rw[eX,uK,if_neg (by simp[e])];refine(List.filter_eq_self.2 (λq hq=>?_)).symm;obtain⟨z,hz,rfl⟩:=List.mem_map.1 hq;refine decide_eq_true (λe2=>h.1 (List.mem_map.2 ⟨z,hz,?_⟩));rw[<-e];exact e2
  ·rw[if_neg e];have ih:=yy (nm:=nm) h.2;unfold snP at ih ⊢;rw[eX,eX,uK,if_pos (by simpa using λq=>e q.symm),ih]
theorem StoreAt.nd{c:TC}{w:World}{s:TP}{sb mr:Nat}{root:UInt32}{m:List Pr}{sx:List Sx}(h:StoreAt c w s sb mr root m sx):(sx.map (·.1)).Nodup:=by
 have h1:=h.map.nodup;rw[vv] at h1;have h2:(eH sx).map (·.1)=sx.map (·.1):=by unfold eH;rw[fK];rfl
 rw[h2] at h1;exact h1
theorem BG{w0 w:World}{b r n:Nat}{kv:Value}{key:List UInt8}(hd:RunD w0 w b kv r (dsN (32+8*n)))(hn:4<=n/\n<=400)(hkl:key.length=32) :
  Ret Tryz.prog 30 #[.pointer (some ⟨b,0,none⟩),cJ key] w λv w'=>∃F sv,v=.tuple #[sv,.int .i64 0]/\SS w0 F w' sv (.pointer (some ⟨b,0,none⟩)) key [] [] n 4/\Chg (DF b kv r) w w'/\Gr w (DF b kv r) F:=by
 refine(Make_ok w0 w b r n kv key hd hn hkl).mono ?_;rintro v w' ⟨c,s,sb,mr,id,rfl,hS,rfl,rfl,rfl,rfl,rfl,rfl,hk,hc,hsb,hmr,hF⟩;refine⟨_,_,rfl,⟨c,s,sb,mr,id,[],hS,rfl,rfl,rfl,rfl,rfl,.refl _,rfl,hk⟩,hc,λx hx=>?_⟩;rcases List.mem_cons.1 hx with rfl|hx
 ·exact .inr hsb
 ·rcases List.mem_cons.1 hx with rfl|hx
  ·exact .inr hmr
  ·exact hF x hx
section
variable {w0 w w':World}{F:List Nat}{sv dv:Value}{key:List UInt8}{m:List Pr}{sn:List Sn}{n k:Nat}
theorem SS.now(h:SS w0 F w sv dv key m sn n k):Chg [] w0 w:=by
 obtain⟨c,s,sb,mr,root,sx,h,rfl,rfl,rfl,rfl,rfl,hp,rfl,hk⟩:=h;exact PS.now h.pg
theorem SS.lt(h:SS w0 F w sv dv key m sn n k):∀x∈F,x<w.heap.size:=by
 obtain⟨c,s,sb,mr,root,sx,h,rfl,rfl,rfl,rfl,rfl,hp,rfl,hk⟩:=h;intro x hx;rcases List.mem_cons.1 hx with rfl|hx
 ·exact h.blk.lt
 ·rcases List.mem_cons.1 hx with rfl|hx
  ·exact h.map.lt
  ·exact h.pg.lt x hx
theorem SS.ge(h:SS w0 F w sv dv key m sn n k):∀x∈F,w0.heap.size<=x:=by
 obtain⟨c,s,sb,mr,root,sx,h,rfl,rfl,rfl,rfl,rfl,hp,rfl,hk⟩:=h;intro x hx;rcases List.mem_cons.1 hx with rfl|hx
 ·exact h.sF.2
 ·rcases List.mem_cons.1 hx with rfl|hx
  ·exact h.mF.2.2
  ·exact h.pg.ge x hx
theorem StoreAt.chg{c:TC}{s:TP}{sb mr:Nat}{root:UInt32}{sx:List Sx}{S:List Nat}(h:StoreAt c w s sb mr root m sx)(hc:Chg S w w')(hn:∀x∈sb::mr::c.F,x∉S)(hs:∀x∈S,c.w0.heap.size<=x):StoreAt c w' s sb mr root m sx :=
 ⟨h.pg.chg hc (λx hx=>hn x (bP _ (bP _ hx))) hs,h.blk.chg hc (hn _ cQ),h.map.mod hc (hn _ (bP _ cQ)),h.sF,h.mF,h.live,h.olds,h.names,h.few,h.used,h.com,h.st,h.pend,h.rt,h.txt⟩
theorem SS.chg{S:List Nat}(h:SS w0 F w sv dv key m sn n k)(hc:Chg S w w')(hn:∀x∈F,x∉S)(hs:∀x∈S,w0.heap.size<=x):SS w0 F w' sv dv key m sn n k:=by
 obtain⟨c,s,sb,mr,root,sx,h,rfl,rfl,rfl,rfl,rfl,hp,rfl,hk⟩:=h;exact⟨c,s,sb,mr,root,sx,h.chg hc hn hs,rfl,rfl,rfl,rfl,rfl,hp,rfl,hk⟩
theorem SS.chg0(h:SS w0 F w sv dv key m sn n k)(hc:Chg [] w w'):SS w0 F w' sv dv key m sn n k:=h.chg hc (by simp) (by simp)
theorem SS.sort(h:SS w0 F w sv dv key m sn n k):dW m:=by
 obtain⟨c,s,sb,mr,root,sx,h,rfl,rfl,rfl,rfl,rfl,hp,rfl,hk⟩:=h;exact h.live.sort
def SR(w0:World)(F:List Nat)(w w':World)(sv dv:Value)(key:List UInt8)(m:List Pr)(sn:List Sn)(n k:Nat):Prop :=
 (∃F',SS w0 F' w' sv dv key m sn n k/\Gr w F F')/\Chg F w w'
theorem SS.do_{lv:Value}{l:List Wr}(h:SS w0 F w sv dv key m sn n k)(hl:Sl w lv l)(hlF:∀x∈ay lv,x∉F)(hb:isB l=true)(hm:m.length+l.length<=900)(hk:k+24*l.length+1<=40000)(hr:AF m sn+2*(m.length+l.length)+30<=n) :
  Ret Tryz.prog 32 #[sv,lv] w λr w'=>r=.int .i64 0/\SR w0 F w w' sv dv key (lG m l) sn n (k+24*l.length+1):=by
 obtain⟨c,s,sb,mr,root,sx,h,rfl,rfl,rfl,rfl,rfl,hp,rfl,hk1⟩:=h;refine(Do_ok c w s sb mr root m sx lv l h hl (λx hx hh=>hlF x hx (bP _ (bP _ hh))) hb hm (by omega) (by rw[DY,y5 hp];exact hr)).mono ?_;rintro r w' ⟨rfl,⟨c',s',id,hS,hcc,hF,hk2⟩,hc⟩;have e0:c'.w0=c.w0:=by rw[hcc]
 have e1:c'.b=c.b:=by rw[hcc]
 have e2:c'.key=c.key:=by rw[hcc]
 have e3:c'.n=c.n:=by rw[hcc]
 refine⟨rfl,⟨_,⟨c',s',sb,mr,id,sx,hS,e0,rfl,rfl,by rw[e1],e2,hp,e3,by omega⟩,λx hx=>?_⟩,hc.mono (λx hx _=>?_)⟩
 ·rcases List.mem_cons.1 hx with rfl|hx
  ·exact .inl cQ
  ·rcases List.mem_cons.1 hx with rfl|hx
   ·exact .inl (bP _ cQ)
   ·exact(hF x hx).imp (λq=>bP _ (bP _ q)) (λq=>q)
 ·rcases List.mem_cons.1 hx with rfl|hx
  ·exact cQ
  ·exact bP _ (bP _ hx)
theorem SS.aft{c:TC}{s:TP}{sb mr:Nat}{root:UInt32}{sx:List Sx}(ha:Aft c w w' s sb root m sx)(hp:(snP sx).Perm sn)(hk:s.k<=k)(hc:Chg (sb::c.F) w w') :
  SR c.w0 (sb::mr::c.F) w w' (.pointer (some ⟨sb,0,none⟩)) (.pointer (some ⟨c.b,0,none⟩)) c.key m sn c.n (k+1):=by
 obtain⟨c',s',mr',hS,hcc,hF,hk2,hmr⟩:=ha;have e0:c'.w0=c.w0:=by rw[hcc]
 have e1:c'.b=c.b:=by rw[hcc]
 have e2:c'.key=c.key:=by rw[hcc]
 have e3:c'.n=c.n:=by rw[hcc]
 refine⟨⟨_,⟨c',s',sb,mr',root,sx,hS,e0,rfl,rfl,by rw[e1],e2,hp,e3,by omega⟩,λx hx=>?_⟩,hc.mono (λx hx _=>?_)⟩
 ·rcases List.mem_cons.1 hx with rfl|hx
  ·exact .inl cQ
  ·rcases List.mem_cons.1 hx with rfl|hx
   ·exact .inr hmr
   ·exact(hF x hx).imp (λq=>bP _ (bP _ q)) (λq=>q)
 ·rcases List.mem_cons.1 hx with rfl|hx
  ·exact cQ
  ·exact bP _ (bP _ hx)
theorem Ap{sx:List Sx}{nm:Bs}(hp:(snP sx).Perm sn):(∃p∈sx,p.1=nm)↔nm∈sn.map (·.1):=by
 rw[<-(hp.map _).mem_iff];unfold snP;rw[fK]
 constructor
 ·rintro⟨p,h,e⟩;exact List.mem_map.2 ⟨p,h,e⟩
 ·intro h;obtain⟨p,h,e⟩:=List.mem_map.1 h;exact⟨p,h,e⟩
theorem sn_len{sx:List Sx}(hp:(snP sx).Perm sn):sx.length=sn.length:=by
 rw[<-hp.length_eq];exact(dt ..).symm
theorem SS.snap(h:SS w0 F w sv dv key m sn n k)(nm:Bs)(hn:pj nm=true)(hp:nm∉sn.map (·.1))(h4:sn.length<4)(hk:k+1<=40000) :
  Ret Tryz.prog 33 #[sv,str nm] w λr w'=>r=.int .i64 0/\SR w0 F w w' sv dv key m (sn++[(nm,m)]) n (k+1):=by
 obtain⟨c,s,sb,mr,root,sx,h,rfl,rfl,rfl,rfl,rfl,hq,rfl,hk1⟩:=h;refine(Snap_ok h nm hn (λz=>hp ((Ap hq).1 z)) (by rw[sn_len hq];exact h4) (by omega)).mono ?_;rintro r w' ⟨rfl,ha,hc⟩;exact⟨rfl,SS.aft ha (by unfold snP;rw[gk];exact hq.append_right _) hk1 hc⟩
theorem SS.drop(h:SS w0 F w sv dv key m sn n k)(nm:Bs)(hn:pj nm=true)(hp:nm∈sn.map (·.1))(hk:k+1<=40000) :
  Ret Tryz.prog 36 #[sv,str nm] w λr w'=>r=.int .i64 0/\SR w0 F w w' sv dv key m (sn.filter (λp=>decide (p.1≠nm))) n (k+1):=by
 obtain⟨c,s,sb,mr,root,sx,h,rfl,rfl,rfl,rfl,rfl,hq,rfl,hk1⟩:=h;refine(Drop_ok h nm hn ((Ap hq).2 hp) (by omega)).mono ?_;rintro r w' ⟨rfl,ha,hc⟩;exact⟨rfl,SS.aft ha (by rw[yy h.nd];exact hq.filter _) hk1 hc⟩
theorem SS.snapT(h:SS w0 F w sv dv key m sn n k)(nm:Bs)(hl:nm.length<=100000)(hn:pj nm=true)(hp:nm∈sn.map (·.1)) :
  Ret Tryz.prog 33 #[sv,str nm] w λr w'=>r=.int .i64 101/\w=w':=by
 obtain⟨c,s,sb,mr,root,sx,h,rfl,rfl,rfl,rfl,rfl,hq,rfl,hk1⟩:=h;exact Dq h nm hl hn ((Ap hq).2 hp)
theorem SS.dropN(h:SS w0 F w sv dv key m sn n k)(nm:Bs)(hl:nm.length<=100000)(hn:pj nm=true)(hp:nm∉sn.map (·.1)) :
  Ret Tryz.prog 36 #[sv,str nm] w λr w'=>r=.int .i64 100/\w=w':=by
 obtain⟨c,s,sb,mr,root,sx,h,rfl,rfl,rfl,rfl,rfl,hq,rfl,hk1⟩:=h;exact G3 h nm hl hn (λz=>hp ((Ap hq).1 z))
theorem SS.doB{lv:Value}{l:List Wr}(h:SS w0 F w sv dv key m sn n k)(hl:Sl w lv l)(hll:l.length<=100000)(hb:isB l=false) :
  Ret Tryz.prog 32 #[sv,lv] w λr w'=>r=.int .i64 12/\Chg [] w w':=by
 obtain⟨c,s,sb,mr,root,sx,h,rfl,rfl,rfl,rfl,rfl,hp,rfl,hk1⟩:=h;refine enter [4] Tryz.func32 O O (al O) (zSR (za O (a6 (aa (aq (zSR (zm O (zn O O (a7 O (a8 dy O I4 O O) (a7 O (aD uU4 O O (h.blk.c O)) (za O (a6 (aI (rfl) (zSR (zm O (ah O C72 (wo w _ l hl hll) ?_))))))))))))))));rintro _ w1 ⟨rfl,hc1⟩;rw[hb];refine a7 O (cB O) (za O (a6 (aV (rfl) (zSR (za O (a6 (zrb ?_)))))));exact⟨rfl,hc1⟩
theorem SS.get(h:SS w0 F w sv dv key m sn n k)(ky v:Bs)(b:Bool)(hv:(lz m ky).getD []=v)(hb:fo m ky=b) :
  Ret Tryz.prog 47 #[sv,str ky] w λr w'=>r=.tuple #[str v,.bool b]/\Chg [] w w':=by
 obtain⟨c,s,sb,mr,root,sx,h,rfl,rfl,rfl,rfl,rfl,hp,rfl,hk1⟩:=h;exact SGet_ok h ky v b hv hb
theorem SS.len(h:SS w0 F w sv dv key m sn n k) :
  Ret Tryz.prog 39 #[sv] w λr w'=>r=.int .i64 m.length/\Chg [] w w':=by
 obtain⟨c,s,sb,mr,root,sx,h,rfl,rfl,rfl,rfl,rfl,hp,rfl,hk1⟩:=h;exact SLen_ok h
theorem SS.scan(h:SS w0 F w sv dv key m sn n k)(lo hi:Bs)(most:Nat)(hm1:most<=1000) :
  Ret Tryz.prog 43 #[sv,str lo,str hi,.int .i64 most] w λr w'=>Own w' r (jz m lo hi most)/\In r [] w.heap.size/\Chg [] w w':=by
 obtain⟨c,s,sb,mr,root,sx,h,rfl,rfl,rfl,rfl,rfl,hp,rfl,hk1⟩:=h;exact Il h lo hi most hm1
theorem SS.dead(h:SS w0 F w sv dv key m sn n k) :
  Ret Tryz.prog 46 #[sv] w λr w'=>r=.bool false/\w=w':=by
 obtain⟨c,s,sb,mr,root,sx,h,rfl,rfl,rfl,rfl,rfl,hp,rfl,hk1⟩:=h;refine enter [2] Tryz.func46 O O (al O) (zSR (za O (zNR (zm O (zn O O (a7 O (a8 dy O I4 O O) (a7 O (aD uU4 O O (h.blk.c O)) (za O (a6 (zrf ?_))))))))));exact⟨rfl,rfl⟩
theorem GO{sx:List Sx}{q:Sn}(hp:(snP sx).Perm sn)(hq:q∈sn):∃p∈sx,p.1=q.1/\p.2.2=q.2:=by
 have hob1:=List.mem_map.1 (hp.mem_iff.2 hq);obtain⟨p,h,rfl⟩:=hob1;exact⟨p,h,rfl,rfl⟩
theorem SS.getAt(h:SS w0 F w sv dv key m sn n k)(q:Sn)(hq:q∈sn)(ky v:Bs)(b:Bool)(hv:(lz q.2 ky).getD []=v)(hb:fo q.2 ky=b) :
  Ret Tryz.prog 34 #[sv,str q.1,str ky] w λr w'=>r=.tuple #[str v,.bool b,.int .i64 0]/\Chg [] w w':=by
 obtain⟨c,s,sb,mr,root,sx,h,rfl,rfl,rfl,rfl,rfl,hp,rfl,hk1⟩:=h;have hob2:=GO hp hq;obtain⟨p,hpx,e1,e2⟩:=hob2;rw[<-e1];exact FU h p hpx ky v b (by rw[e2];exact hv) (by rw[e2];exact hb)
theorem SS.getN(h:SS w0 F w sv dv key m sn n k)(nm ky:Bs)(hq:nm∉sn.map (·.1)) :
  Ret Tryz.prog 34 #[sv,str nm,str ky] w λr w'=>r=.tuple #[str [],.bool false,.int .i64 100]/\w=w':=by
 obtain⟨c,s,sb,mr,root,sx,h,rfl,rfl,rfl,rfl,rfl,hp,rfl,hk1⟩:=h;exact FV h nm ky (λp hpx e=>hq ((Ap hp).1 ⟨p,hpx,e⟩))
theorem SS.scanAt(h:SS w0 F w sv dv key m sn n k)(q:Sn)(hq:q∈sn)(lo hi:Bs)(most:Nat)(hm1:most<=1000) :
  Ret Tryz.prog 48 #[sv,str q.1,str lo,str hi,.int .i64 most] w λr w'=>(∃ov,r=.tuple #[ov,.int .i64 0]/\Own w' ov (jz q.2 lo hi most)/\In ov [] w.heap.size)/\Chg [] w w':=by
 obtain⟨c,s,sb,mr,root,sx,h,rfl,rfl,rfl,rfl,rfl,hp,rfl,hk1⟩:=h;have hob3:=GO hp hq;obtain⟨p,hpx,e1,e2⟩:=hob3;rw[<-e1,<-e2];exact Dr h p hpx lo hi most hm1
theorem SS.names(h:SS w0 F w sv dv key m sn n k) :
  Ret Tryz.prog 35 #[sv] w λv w'=>∃l,Own w' v l/\l.Perm (sn.map (·.1))/\Chg [] w w'/\In v [] w.heap.size:=by
 obtain⟨c,s,sb,mr,root,sx,h,rfl,rfl,rfl,rfl,rfl,hp,rfl,hk1⟩:=h;refine(BF w sb mr _ _ _ (eH sx) h.blk h.map (by unfold eH;rw[dt];have:=h.few;omega)).mono ?_;rintro v w' ⟨l,h1,h2,h3,h4⟩;refine⟨l,h1,h2.trans ?_,h3,h4⟩
 have:=hp.map (·.1)
 unfold snP at this;unfold eH;rw[fK] at this ⊢;exact this
theorem SS.pages(h:SS w0 F w sv dv key m sn n k) :
  Ret Tryz.prog 38 #[sv] w λr w'=>(∃(av bv:Value) (la lb:List UInt32),r=.tuple #[av,bv]/\Own w' av la/\Own w' bv lb/\la.length=lb.length/\la.length<=AF m sn)/\Chg [] w w':=by
 obtain⟨c,s,sb,mr,root,sx,h,rfl,rfl,rfl,rfl,rfl,hp,rfl,hk1⟩:=h;rw[<-y5 hp,<-DY];exact Ip h
theorem SS.crash0(h:SS w0 F w sv dv key m sn n k)(cv:Value)(hcf:∃p c,cv=.slice p 0 c) :
  Ret Tryz.prog 69 #[dv,cv] w λ_ w'=>SS w0 F w' sv dv key m sn n k/\Chg F w w':=by
 obtain⟨c,s,sb,mr,root,sx,h,rfl,rfl,rfl,rfl,rfl,hp,rfl,hk1⟩:=h;refine(Bw h.pg h.pend cv hcf).mono ?_;rintro v w' ⟨hS,hc⟩;have hc:Chg c.F w w':=hc;exact⟨⟨c,s,sb,mr,root,sx,⟨hS,h.blk.chg hc h.sF.1,h.map.mod hc h.mF.1,h.sF,h.mF,h.live,h.olds,h.names,h.few,h.used,h.com,h.st,h.pend,h.rt,h.txt⟩,rfl,rfl,rfl,rfl,rfl,hp,rfl,hk1⟩,hc.mono (λx hx _=>bP _ (bP _ hx))⟩
theorem SS.open_(h:SS w0 F w sv dv key m sn n k)(hk:k+1<=40000) :
  Ret Tryz.prog 41 #[dv,cJ key] w λv w'=>∃F' sv',v=.tuple #[sv',.int .i64 0]/\SS w0 F' w' sv' dv key m sn n (k+1)/\Gr w F F'/\Chg F w w':=by
 obtain⟨c,s,sb,mr,root,sx,h,rfl,rfl,rfl,rfl,rfl,hp,rfl,hk1⟩:=h;have hC:=h.pg.2.2.2.1.crash [];rw[Da h.pg.2.2.2.1.ok.off h.pend] at hC;refine(Im h h.pg.1 hC (by omega)).mono ?_;rintro v w' ⟨R,s',sb',mr',sx',rfl,hS,hpx,hk2,hc,hsb,hmr,hR⟩;refine⟨_,_,rfl,⟨_,s',sb',mr',root,sx',hS,rfl,rfl,rfl,rfl,rfl,(hpx.map _).trans hp,rfl,by omega⟩,λx hx=>?_,hc.mono (λx hx _=>?_)⟩
 ·rcases List.mem_cons.1 hx with rfl|hx
  ·exact .inr hsb
  ·rcases List.mem_cons.1 hx with rfl|hx
   ·exact .inr hmr
   ·rcases List.mem_append.1 hx with hx|hx
    ·exact .inr (hR x hx)
    ·exact .inl (bP _ (bP _ (cE _ hx)))
 ·exact bP _ (bP _ (cE _ hx))
end
theorem yv(w0 w:World)(h0:Chg [] w0 w) :
  Ret Tryz.prog 31 #[] w λv w'=>∃b kv r,v=.pointer (some ⟨b,0,none⟩)/\RunD w0 w' b kv r (dsN (32+8*300))/\Chg [] w w'/\∀x∈DF b kv r,w.heap.size<=x:=by
 refine enter [0] Tryz.func31 O O (al O) (zSR (za O (zNR (ah O C37 (Hu w0 w (32+8*300) (by omega) h0) ?_))));rintro _ w1 ⟨b,kv,r,rfl,hd1,hc1,hF1⟩;refine za O (a6 (zrf ?_));exact⟨b,kv,r,rfl,hd1,hc1,hF1⟩
def kK:List UInt8:=0::0::0::0::4::List.replicate 27 0
theorem Gr.not{w:World}{F F':List Nat}{x:Nat}(h:Gr w F F')(hx:x∉F)(hw:x<w.heap.size):x∉F':=λhh=>by
 rcases h x hh with q|q
 ·exact hx q
 ·omega
theorem CS(w:World):Ret Tryz.prog 29 #[] w λv w'=>v=.bool true/\Chg [] w w':=by
 refine enter [0] Tryz.func29 O O (al O) (zSR (za O (zNR (ah O C31 (yv w w (Chg.refl _)) ?_))));rintro _ w1 ⟨b,kv,r,rfl,hd1,hc1,hF1⟩;refine a7 O (jS (List.replicate 32 (0:UInt8)) ([(4,4)]) (l:=kK) gN I63 O I5 (by kernel_rfl) O (by kernel_rfl) O (by kernel_rfl)) ?_;refine aU (List.replicate 32 (0:UInt8)) I63 O O O ?_;rintro w2 b2 hn2 ha2 hc2 hl2;refine za O (aQ O (bH 32 I63 O (ha2) O O (rfl) (rfl)) ?_);rintro w3 ⟨ha3,hc3,hs3⟩;refine zNR (zm O ?_);have hd3:=hd1.chg0 (hc2.t1 hc3 hn2);refine a7 O (cP 32 gN O I63 O O (ha3) (rfl)) (ah O C30 (BG hd3 (by decide) O) ?_);rintro _ w4 ⟨F,sv,rfl,hS4,hc4,hG4⟩;refine zm O (zx O (zx O (zaa O (a6 (aa (zSR (zm O ?_)))))));have hb2:b2∉F:=λhh=>by
  have q:=ha3.lt;rcases hG4 b2 hh with g|g
  ·have:=hd1.1.lt b2 g;omega
  ·omega
 have hb4:=(ha3.chg hc4 (λhh=>by have:=hd1.1.lt b2 hh;omega))
 refine a7 O (bE (bZ O O) (congrArg Value.bool (decide_eq_false (λh=>h O)))) ?_;refine zm O (ag O (zm O (ag O (a7 O (bX mU I66 O (zs:=[str [],str [],.bool false]) O O (bS O O O (al O) (bS O O O (al O) (ef (cs':=[str [97],str [49],.bool false]) O)))) ?_))));refine ag O (aY O (nP (⟨[97],[49],false⟩:Wr) nG I66 O O O O O (by decide)) ?_);rintro _ w5 ⟨l5,rfl,hB5,hn5,hc5,hl5⟩;refine ag O ?_;have hF4:=hS4.lt;have hS5:=hS4.chg0 hc5;have hx5:l5∉F:=λhh=>by have:=hF4 _ hh;omega
 refine ah O C32 ((hS5.do_ (Blk.sl1 hB5) (λx hx=>by simp[ay] at hx;subst hx;exact hx5) O (by decide) (by decide) (by decide) :)) ?_;rintro _ w6 ⟨rfl,⟨F6,hS6,hG6⟩,hc6⟩;refine ag O (a7 O (bE (bZ O O) (congrArg Value.bool (decide_eq_false (λh=>h O)))) ?_);refine a7 O (aJ O) (zm O (ag O (zm O (ag O (ah O C33 ((hS6.snap [120] O (by simp) (by decide) (by decide) :)) ?_)))));rintro _ w7 ⟨rfl,⟨F7,hS7,hG7⟩,hc7⟩;refine ag O (a7 O (bE (bZ O O) (congrArg Value.bool (decide_eq_false (λh=>h O)))) ?_);refine a7 O (aJ O) (zm O (ag O (zm O (ag O (a7 O (bX mU I66 O (zs:=[str [],str [],.bool false]) O O (bS O O O (al O) (bS O O O (al O) (ef (cs':=[str [97],str [50],.bool false]) O)))) ?_)))));refine ag O (aY O (nP (⟨[97],[50],false⟩:Wr) nG I66 O O O O O (by decide)) ?_);rintro _ w8 ⟨l8,rfl,hB8,hn8,hc8,hl8⟩;refine ag O ?_;have hF7:=hS7.lt;have hS8:=hS7.chg0 hc8;have hx8:l8∉F7:=λhh=>by have:=hF7 _ hh;omega
 refine ah O C32 ((hS8.do_ (Blk.sl1 hB8) (λx hx=>by simp[ay] at hx;subst hx;exact hx8) O (by decide) (by decide) (by decide) :)) ?_;rintro _ w9 ⟨rfl,⟨F9,hS9,hG9⟩,hc9⟩;refine ag O (a7 O (bZ O O) (a7 O (aJ O) (a6 (aK O (λh=>h O) ?_))));refine zKR (zm O (ah O C69 (hS9.crash0 (.slice none 0 0) ⟨_,_,rfl⟩) ?_));rintro v10 w10 ⟨hS10,hc10⟩;refine zNR (zm O ?_);have kk:=ha3.lt;have k4:=hc4.1;have k5:=hc5.1;have k6:=hc6.1;have k7:=hc7.1;have k8:=hc8.1;have hb6:=hG6.not hb2 (by omega);have hb7:=hG7.not hb6 (by omega);have hb9:=hG9.not hb7 (by omega);have ha10:Arr w10 b2 kK:=(((((hb4.chg0 hc5).chg hc6 hb2).chg hc7 hb6).chg0 hc8).chg hc9 hb7).chg hc10 hb9;refine a7 O (cP 32 gN O I63 O O (ha10) (rfl)) (ah O C41 ((hS10.open_ (by decide) :)) ?_);rintro _ w11 ⟨F11,sv2,rfl,hS11,hG11,hc11⟩;refine zm O (zx O (zx O (zaa O (a6 (aa (zSR (zmv O (bZ O O) (a6 (aK O (λh=>h O) ?_)))))))));refine zKR (zm O (ah O C47 ((hS11.get [97] [50] true O O :)) ?_));rintro _ w12 ⟨rfl,hc12⟩;refine zm O (zx O (zx O (zaa O (zNR (zm O ?_)))));have hS12:=hS11.chg0 hc12;refine ah O C34 ((hS12.getAt ([120],[([97],[49])]) (by decide) [97] [49] true O O :)) ?_;rintro _ w13 ⟨rfl,hc13⟩;refine zm O (zx O (zx O (zx O (zaa O (za O (zNR (zm O ?_)))))));have hS13:=hS12.chg0 hc13;refine ah O C34 ((hS13.getN [121] [97] (by decide) :)) ?_;rintro _ w14 ⟨rfl,rfl⟩;refine zm O (zx O (zx O (zx O (zaa O (za O (zNR (zm O (ah O C38 ((hS13.pages :)) ?_))))))));rintro _ w14 ⟨⟨av,bv,la,lb,rfl,hla,hlb,hll,_⟩,hc14⟩;refine zm O (zx O (zx O (zaa O (zNR (zmm O (ag O (zm O (ag O ?_))))))));have hS14:=hS13.chg0 hc14;have hob1:=hla.sl.form rfl;obtain⟨pa,ca,rfl⟩:=hob1;have hob2:=hlb.sl.form rfl;obtain⟨pb,cb,rfl⟩:=hob2;refine a7 O (bE (qP O O) (congrArg Value.bool (decide_eq_true (rfl)))) (a7 O (aL O) (zm O (ag O (zm O (ag O (a7 O (bE (dG O O) (congrArg Value.bool (decide_eq_true (rfl)))) (a7 O (aL O) (zm O (ag O (zmv O (aL O) (zm O (ag O (zm O (ag O (a7 O (bE (qP O O) (congrArg Value.bool (decide_eq_true (rfl)))) (a7 O (aL O) (zm O (ag O (zm O (ag O (a7 O (bE (dG O O) (congrArg Value.bool (decide_eq_true (rfl)))) (a7 O (aL O) (zm O (ag O (zm O (ag O (ah O C39 ((hS14.len :)) ?_)))))))))))))))))))))))))));rintro _ w15 ⟨rfl,hc15⟩;refine ag O ?_;have hS15:=hS14.chg0 hc15;refine a7 O (bE (dG O O) (congrArg Value.bool (decide_eq_true (rfl)))) (a7 O (aL O) (zm O (ag O (zm O (ag O (a7 O (aB O bf) (ag O (zm O (ag O (a7 O (aB O bf) (ag O (a7 O (bE (dG O O) (bT (by omega))) ?_))))))))))));refine a7 O (aL O) (zm O (ag O (zm O (ag O (ah O C32 ((hS15.doB (Sl.nil (α:=Wr) _ 0) (by decide) O :)) ?_)))));rintro _ w16 ⟨rfl,hc16⟩;refine ag O ?_;have hS16:=hS15.chg0 hc16;refine a7 O (bE (dG O O) (congrArg Value.bool (decide_eq_true (rfl)))) (a7 O (aL O) (zm O (ag O (zm O (ag O (ah O C36 ((hS16.dropN [121] (by decide) O (by decide) :)) ?_))))));rintro _ w17 ⟨rfl,rfl⟩;refine ag O (a7 O (bE (dG O O) (congrArg Value.bool (decide_eq_true (rfl)))) (a7 O (aL O) (zm O (ag O (zm O (ag O (ah O C33 ((hS16.snapT [120] (by decide) O (by decide) :)) ?_)))))));rintro _ w18 ⟨rfl,rfl⟩;refine ag O (a7 O (dG O O) (a7 O (aL O) (za O (a6 (zrf ?_)))));exact⟨rfl,hS16.now⟩
theorem Ic(w:World)(lv:Value)(l:List Wr)(hl:Sl w lv l)(hl2:l.length<=9223372036854775807) :
  Ret Tryz.prog 40 #[lv] w λv w'=>v=.bool (isB l)/\w=w':=by
 obtain⟨pl,cl,rfl⟩:=hl.form rfl;refine enter [2] Tryz.func40 O O (al O) (zSR (za O (a6 (aa (zSR (za O (a6 (aq (aX [0,3] (λn vs w'=>∃i:Nat,vs=[.slice pl l.length cl,.int .i64 i]/\i+n=l.length/\(l.take i).all Wr.good=true/\w=w') (l.length) ?_ ?_)))))))))
 ·exact⟨0,rfl,by omega,rfl,rfl⟩
 ·rintro n vs J w1 ⟨i,rfl,hin,hall,rfl⟩;refine aa (zSR (zmm O (a7 O (aB O nG) (a7 O (bI O O) ?_))));refine a6 (aA O (λhlt=>?_) (λhlt=>?_))
  ·refine zKN (aa (aq (zSR (zmm O ?_))));have hob1:∃z,n=z+1:=⟨n-1,by omega⟩
   obtain⟨n,rfl⟩:=hob1;have hob2:∃a,l[i]?=some a:=⟨l[i]'(by omega),bL _⟩
   obtain⟨a,ha⟩:=hob2;have hno:a.good=false->Value.bool false=Value.bool (isB l):=λh=>by
    unfold isB;rw[List.all_eq_false.2 ⟨a,iI ha,by simp[h]⟩];rfl
   have hall2:a.good=true->(l.take (i+1)).all Wr.good=true:=λh=>by
    rw[gD,ha,BR,hall];simp[h]
   refine bB O (aR (i) nG I66 O (hl) O O (by first|rfl|omega) (by omega)) ?_;rintro _ ⟨b1,o1,rfl,he1,hb1⟩;refine a7 O (a8 mU O I9 O O) (a7 O (aD uU9 O O (((hl.at he1 ha).cell (i:=0) rfl:_=some (str a.k)))) ?_);refine a7 O (gE O uU9) ?_;by_cases k1:a.k.length<1
   ·refine a7 O (bE (bI O O) (bT (by omega))) ?_;refine zm O (au O O (au O O (au O O (au O O (au O O (au O O (au O O (a7 O (aL O) (zm O (au O O (au O O (au O O (au O O (au O O (au O O (au O O (a7 O (aL O) (zm O (au O O (au O O (au O O (au O O (au O O (au O O (au O O (au O O (au O O (au O O (au O O (au O O (au O O (a7 O (aL O) (a6 (aV (rfl) (zSR (za O (a6 (bD (aT (aM (aM (aT (aM (cW ?_))))))))))))))))))))))))))))))))))))))))))));exact⟨hno (by unfold Wr.good;rw[decide_eq_false (by omega)];rfl),rfl⟩
   ·refine a7 O (bE (bI O O) (bF (by omega))) ?_;refine zm O (ag O (zm O (ag O (zm O (ag O (bB O (aR (i) nG I66 O (hl) O O (by first|rfl|omega) (by omega)) ?_))))));rintro _ ⟨b2,o2,rfl,he2,hb2⟩;refine ag O (a7 O (a8 mU O I9 O O) (ag O (a7 O (aD uU9 O O (((hl.at he2 ha).cell (i:=0) rfl:_=some (str a.k)))) ?_)));refine ag O (a7 O (gE O uU9) (ag O ?_));by_cases k2:a.k.length > 60
    ·refine a7 O (bE (dh O O) (bT (by omega))) ?_;refine a7 O (aJ O) (zm O (au O O (au O O (au O O (au O O (au O O (au O O (au O O (a7 O (aL O) (zm O (au O O (au O O (au O O (au O O (au O O (au O O (au O O (au O O (au O O (au O O (au O O (au O O (au O O (a7 O (aL O) (a6 (aV (rfl) (zSR (za O (a6 (bD (aT (aM (aM (aT (aM (cW ?_))))))))))))))))))))))))))))))))))));exact⟨hno (by unfold Wr.good;rw[decide_eq_false (by omega)];rfl),rfl⟩
    ·refine a7 O (bE (dh O O) (bF (by omega))) ?_;refine a7 O (aJ O) (zm O (ag O (zm O (ag O (zm O (ag O (bB O (aR (i) nG I66 O (hl) O O (by first|rfl|omega) (by omega)) ?_)))))));rintro _ ⟨b3,o3,rfl,he3,hb3⟩;refine ag O (a7 O (a8 mU O I9 O O) (ag O (a7 O (aD uU9 O O (((hl.at he3 ha).cell (i:=1) rfl:_=some (str a.v)))) ?_)));refine ag O (a7 O (gE O uU9) (ag O ?_));by_cases k3:a.v.length > 150
     ·refine a7 O (bE (dh O O) (bT (by omega))) ?_;refine a7 O (aJ O) (zm O (au O O (au O O (au O O (au O O (au O O (au O O (au O O (au O O (au O O (au O O (au O O (au O O (au O O (a7 O (aL O) (a6 (aV (rfl) (zSR (za O (a6 (bD (aT (aM (aM (aT (aM (cW ?_)))))))))))))))))))))))))));exact⟨hno (by unfold Wr.good;rw[decide_eq_false (by omega)];rfl),rfl⟩
     ·refine a7 O (bE (dh O O) (bF (by omega))) ?_;refine a7 O (aJ O) (zm O (ag O (zm O (ag O (zm O (ag O ?_))))));have hk:decide (1<=a.k.length/\a.k.length<=60/\a.v.length<=150)=true:=decide_eq_true (by omega);refine bB O (aR (i) nG I66 O (hl) O O (by first|rfl|omega) (by omega)) ?_;rintro _ ⟨b4,o4,rfl,he4,hb4⟩;refine ag O (a7 O (a8 mU O I4 O O) (ag O ?_));by_cases k4:a.d=true
      ·refine a7 O (aD uU4 O O ((((hl.at he4 ha).cell (i:=2) O).trans (congrArg (λx=>some (Value.bool x)) k4):_=some (.bool true)))) ?_;refine ag O (zm O (ag O (zm O (ag O (zm O (ag O (bB O (aR (i) nG I66 O (hl) O O (by first|rfl|omega) (by omega)) ?_)))))));rintro _ ⟨b5,o5,rfl,he5,hb5⟩;refine ag O (a7 O (a8 mU O I9 O O) (ag O (a7 O (aD uU9 O O (((hl.at he5 ha).cell (i:=1) rfl:_=some (str a.v)))) ?_)));refine ag O (a7 O (qN O O) (ag O (a7 O (aL O) (a7 O (aJ O) (a6 (bR O (λk5=>?_) (λk5=>?_)))))))
       ·refine zSR (za O (a6 (bD (aT (aM (aM (aT (aM (cW ?_)))))))));have k5:a.v≠[]:=by simpa using k5
        exact⟨hno (by unfold Wr.good;rw[hk,k4,decide_eq_true k5];rfl),rfl⟩
       ·refine bK (ax (aj (ae (zmv O (aC O O (by omega)) (za O ?_)))));refine a6 ?_;have k5:¬a.v≠[]:=by simpa using k5
        refine aS (n) (bh (by omega) ?_);exact⟨i+1,rfl,by omega,hall2 (by unfold Wr.good;rw[hk,k4,decide_eq_false k5];rfl),rfl⟩
      ·have k4:a.d=false:=by simpa using k4
       refine a7 O (aD uU4 O O ((((hl.at he4 ha).cell (i:=2) O).trans (congrArg (λx=>some (Value.bool x)) k4):_=some (.bool false)))) ?_;refine ag O (zm O (au O O (au O O (au O O (au O O (au O O (au O O (ag O (a7 O (aJ O) (a7 O (aJ O) (a6 (aI (rfl) (bK (ax (aj (ae (zmv O (aC O O (by omega)) (za O ?_))))))))))))))))));refine a6 (aS (n) (bh (by omega) ?_));exact⟨i+1,rfl,by omega,hall2 (by unfold Wr.good;rw[hk,k4];rfl),rfl⟩
  ·refine aN (an (an (aE (aj (zSR (zmv O (aB O nG) ?_))))));have hil:i=l.length:=by omega
   subst hil;rw[cY] at hall;have hres:∀g:Bool,g=(decide (1<=l.length)&&decide (l.length<=40))->Value.bool g=Value.bool (isB l):=λg h=>by
    rw[h];unfold isB;rw[hall,iX]
   by_cases h1:1<=l.length
   ·refine a7 O (bE (fA O O) (bT (by omega))) ?_;refine zm O (ag O (zm O (ag O (a7 O (aB O nG) (ag O (a7 O (fP O O) (a7 O (aL O) (za O (a6 (zrf ?_))))))))));refine⟨hres _ ?_,rfl⟩;rw[decide_eq_true h1,iX,qF,decide_eq_true_iff,decide_eq_true_iff];omega
   ·refine a7 O (bE (fA O O) (bF (by omega))) ?_;refine zm O (au O O (au O O (au O O (a7 O (aJ O) (za O (a6 (zrf ?_)))))));exact⟨hres _ (by rw[decide_eq_false h1];rfl),rfl⟩
theorem Eu(w:World)(lv:Value)(l:List Wr)(b:Bool)(hl:Sl w lv l)(hl2:l.length<=9223372036854775807)(hb:isB l=b) :
  Ret Tryz.prog 40 #[lv] w λv w'=>v=.bool b/\w=w':=by
 subst hb;exact Ic w lv l hl hl2
def isLt(l:List Wr):Bool:=l.all λa=>decide (a.k.length<=100/\a.v.length<=200)
theorem EY(w:World)(av bv:Value)(a b:List Pr)(ha:Sl w av a)(hb:Sl w bv b)(hl:a.length<=9223372036854775807)(_:b.length<=9223372036854775807) :
  Ret Tryz.prog 42 #[av,bv] w λr w'=>r=.bool (decide (a=b))/\Chg [] w w':=by
 have hob8:=ha.form rfl;obtain⟨pa,ca,rfl⟩:=hob8;have hob9:=hb.form rfl;obtain⟨pb,cb,rfl⟩:=hob9;refine enter [4] Tryz.func42 O O (al O) (zSR (za O (a6 (aa (zSR (zmv O (aB O cK) (zmv O (aB O cK) (a7 O (bZ O O) (a6 (aA O (λhne=>?_) (λhne=>?_)))))))))))
 ·refine zSR (za O (a6 (zrt ?_)));exact⟨congrArg Value.bool (decide_eq_false (λh=>hne (by rw[h]))).symm,Chg.refl _⟩
 ·refine zKN (aa (zSR (za O (a6 (aq ?_)))));have hab:a.length=b.length:=by omega
  refine aX [0,1,5] (λq vs w'=>∃i:Nat,vs=[.slice pa a.length ca,.slice pb b.length cb,.int .i64 i]/\i+q=a.length/\Chg [] w w'/\a.take i=b.take i) (a.length) ?_ ?_
  ·exact⟨0,rfl,by omega,Chg.refl _,rfl⟩
  ·rintro q vs J w1 ⟨i,rfl,hi,hc1,ht⟩;refine aa (zSR (zmm O (a7 O (aB O cK) (a7 O (bI O O) ?_))));refine a6 ?_;have ha1:=ha.mod0 hc1;have hb1:=hb.mod0 hc1;refine aA O (λhlt=>?_) (λhlt=>?_)
   ·refine zKN (aa (aq (aa ?_)));have hob10:∃z,q=z+1:=⟨q-1,by omega⟩
    obtain⟨q,rfl⟩:=hob10;have hob11:∃x,a[i]?=some x:=⟨a[i]'(by omega),bL _⟩
    obtain⟨x,hx⟩:=hob11;have hob12:∃y,b[i]?=some y:=⟨b[i]'(by omega),bL _⟩
    obtain⟨y,hy⟩:=hob12;refine aH bw (.pure 0 (.pure 1 (.pure 2 (.read 3 (.pure 4 (.pure 5 (.pure 6 (.read 7 (.pure 8 .nil))))))))) (by kernel_rfl) ?_;refine ym O (ym O (yex O (aR (i) cK I49 O (ha1) O O (by first|rfl|omega) (by omega)) ?_));rintro _ ⟨bi,oi,rfl,hei,hbi⟩;refine dD O O O (λw'=>At w' bi oi [str x.1,str x.2]) (ha1.at hei hx) (λw1 h1=>cG gq O I49 O h1 O) ?_;refine ym O (ym O (yex O (aR (i) cK I49 O (hb1) O O (by first|rfl|omega) (by omega)) ?_));rintro _ ⟨bj,oj,rfl,hej,hbj⟩;refine dD O O O (λw'=>At w' bj oj [str y.1,str y.2]) (hb1.at hej hy) (λw1 h1=>cG gq O I49 O h1 O) ?_;refine yp O (λ_=>x_nePr (a:=x) (b:=y) O O (by kernel_rfl) gq (by kernel_rfl) (by decide) (by decide) O O uU9 uU9) ?_;refine az (aA O (λhxy=>?_) (λhxy=>?_))
    ·refine zSR (za O (a6 (bD (aT (aM (aM (aT (aM (cW ?_)))))))));exact⟨congrArg Value.bool (decide_eq_false (λh=>hxy (by rw[<-h,hx] at hy;exact qI hy))).symm,hc1.tr (drw _)⟩
    ·refine bK (ax (aj (ae (zmv O (aC O O (by omega)) (za O ?_)))));refine a6 ?_;have hxy:x=y:=Decidable.not_not.1 hxy;subst hxy;refine aS (q) (bh (by omega) ?_);exact⟨i+1,rfl,by omega,hc1.tr (drw _),by rw[gD,gD,ht,hx,hy]⟩
   ·refine aN (an (an (aE (aj (zSR (za O (a6 (zrf ?_))))))));have hil:i=a.length:=by omega
    subst hil;rw[cY,hab,cY] at ht;exact⟨congrArg Value.bool (decide_eq_true ht).symm,hc1⟩
theorem Ax(w:World)(av bv:Value)(a b:List Pr)(ha:Sl w av a)(hb:Sl w bv b)(hl:a.length<=9223372036854775807)(he:a=b) :
  Ret Tryz.prog 42 #[av,bv] w λr w'=>r=.bool true/\Chg [] w w':=by
 subst he;refine(EY w av bv a a ha hb hl hl).mono ?_;rintro r w' ⟨rfl,hc⟩;exact⟨bT rfl,hc⟩
theorem isB_len{l:List Wr}(h:isB l=true):1<=l.length/\l.length<=40:=by
 unfold isB at h;rw[jf,jf,decide_eq_true_iff,decide_eq_true_iff] at h;exact⟨h.1.2,h.2⟩
theorem xN:∀{l:List Wr} {m:List Pr},dW m->(lG m l).length<=m.length+l.length/\dW (lG m l)
 | [], m, h => ⟨aO _, h⟩
 | a :: l, m, h => by
  have h1:=Af (m:=m) a h;have hs:dW (updW m a):=by
   unfold updW
   split
   ·exact yw _ h
   ·exact xZ _ h
  have:=xN (l:=l) hs
  show(lG (updW m a) l).length<=_/\dW (lG (updW m a) l);rw[cf];exact⟨by omega,this.2⟩
theorem pgsN0(m:List Pr):AF m []=2*m.length+1:=rfl
theorem Chg.fr{F:List Nat}{w w0 w':World}(h:Chg F w w')(hF:∀x∈F,w0.heap.size<=x)(h0:Chg [] w0 w):Chg [] w0 w':=h0.t0 h hF
def kC:List UInt8:=0::0::2::List.replicate 29 0
theorem EW{m:List Pr}{s:Sp}{i N:Nat}(h:(ej s (m.take i)).length=N):(ej s m).take N=ej s (m.take i):=by
 have e:ej s m=ej s (m.take i)++ej s (m.drop i):=by
  unfold ej;rw[<-mG,eU]
 rw[e,kD (by omega),bU (by omega)]
theorem get_at{m:List Pr}{i:Nat}{p:Pr}(hs:dW m)(hp:m[i]?=some p):(lz m p.1).getD []=p.2/\fo m p.1=true:=by
 have hm:=iI hp;have hh:fo m p.1=true:=(wz hs).2 ⟨p,hm,rfl⟩;refine⟨?_,hh⟩;rw[zT hs hh];show(m[dU m p.1]'(gh hh)).2=p.2;have hk:=oq hh;obtain⟨hi,rfl⟩:=List.getElem?_eq_some_iff.1 hp;rcases Nat.lt_trichotomy (dU m m[i].1) i with h|h|h
 ·have:=List.pairwise_iff_getElem.1 hs _ i (gh hh) hi h
  rw[hk,g9] at this;cases this
 ·congr 2
 ·have:=List.pairwise_iff_getElem.1 hs i _ hi (gh hh) h
  rw[hk,g9] at this;cases this
theorem sort_at{m:List Pr}{i:Nat}{p q:Pr}(hs:dW m)(hp:m[i]?=some p)(hq:m[i+1]?=some q):ltB p.1 q.1=true:=by
 obtain⟨hi,rfl⟩:=List.getElem?_eq_some_iff.1 hp;obtain⟨hj,rfl⟩:=List.getElem?_eq_some_iff.1 hq;exact List.pairwise_iff_getElem.1 hs i (i+1) hi hj (by omega)
theorem xz(w:World)(lv:Value)(l:List Wr)(hl:Sl w lv l)(hl2:l.length<=9223372036854775807)(lo tx:Bs)(x3:UInt8) :
  Ret Tryz.prog 15 #[lv,str lo,str tx,.int .u8 x3.toNat] w λv w'=>v=.bool true/\Chg [] w w':=by
 obtain⟨pl,cl,rfl⟩:=hl.form rfl;obtain⟨N,hN,hN20⟩:∃m:Nat,(x3 % 20).toNat=m/\m<20:=⟨_,rfl,by rw[UInt8.toNat_mod];exact Nat.mod_lt _ (by decide)⟩
 refine enter [8] Tryz.func15 O O (al O) (zSR (za O (a6 (aa (zSR (ah O C29 (CS w) ?_))))));rintro _ w1 ⟨rfl,hc1⟩;refine a7 O (cB O) (a6 (aI (rfl) (zKN (aa (zSR (zm O ?_))))));have hl1:=hl.mod0 hc1;by_cases hb:isB l=true
 ·refine ah O C40 (Eu _ _ l true hl1 hl2 hb) ?_;rintro _ _ ⟨rfl,rfl⟩;refine a7 O (cB O) (zm O (ag O (zm O (ag O (a7 O (aB O nG) (ag O ?_))))));have hlen:=isB_len hb;by_cases h8:l.length > 16
  ·refine a7 O (bE (dh O O) (bT (by omega))) ?_;refine a7 O (aJ O) (zm O (au O O (au O O (au O O (a7 O (aL O) (zm O (au O O (au O O (au O O (a7 O (aL O) (a6 (aV (rfl) (zSR (za O (a6 (zrt ?_))))))))))))))));exact⟨rfl,hc1⟩
  ·refine a7 O (bE (dh O O) (bF (by omega))) ?_;refine a7 O (aJ O) (zm O (ag O (zm O (ag O (a7 O (gE O uU9) (ag O ?_))))));by_cases h50:lo.length > 60
   ·refine a7 O (bE (dh O O) (bT (by omega))) ?_;refine a7 O (aJ O) (zm O (au O O (au O O (au O O (a7 O (aL O) (a6 (aV (rfl) (zSR (za O (a6 (zrt ?_)))))))))));exact⟨rfl,hc1⟩
   ·refine a7 O (bE (dh O O) (bF (by omega))) ?_;refine a7 O (aJ O) (zm O (ag O (zm O (ag O (a7 O (gE O uU9) (ag O (a7 O (dh O O) (a7 O (aJ O) (a6 (aA O (λh60=>?_) (λh60=>?_)))))))))))
    ·refine zSR (za O (a6 (zrt ?_)));exact⟨rfl,hc1⟩
    ·refine zKR (ah O C31 (yv w _ hc1) ?_);rintro _ w2 ⟨b,kv,r,rfl,hd2,hc2,hF2⟩;refine a7 O (jS (List.replicate 32 (0:UInt8)) ([(2,2)]) (l:=kC) gN I63 O I5 (by kernel_rfl) O (by kernel_rfl) O (by kernel_rfl)) ?_;refine ah O C30 (BG hd2 (by decide) O) ?_;rintro _ w3 ⟨F,sv,rfl,hS3,hc3,hG3⟩;refine zm O (zx O (zx O (zaa O (a6 (aa (zSR (zm O ?_)))))));have hl3:=hl.mod0 hS3.now;have hlF:∀x∈ay (.slice pl l.length cl),x<w.heap.size:=λx hx=>hl.lt x hx;have hFg:=hS3.ge;refine a7 O (bE (bZ O O) (congrArg Value.bool (decide_eq_false (λh=>h O)))) ?_;refine zm O (ag O (zm O (ag O (zm O (ag O (ah O C32 ((hS3.do_ hl3 (λx hx hh=>by have:=hlF x hx;have:=hFg x hh;omega) hb (by show 0+_<=_;omega) (by omega) (by rw[pgsN0];show 2*0+1+2*(0+_)+30<=_;omega) :)) ?_))))));rintro _ w4 ⟨rfl,⟨F4,hS4,hG4⟩,hc4⟩;refine ag O ?_;have hml:=(xN (l:=l) (m:=[]) yT).1;have h0:([]:List Pr).length=0:=rfl;have hob1:∃M,M=lG [] l:=⟨_,rfl⟩
     obtain⟨M,hM⟩:=hob1;rw[<-hM] at hS4 hml;refine a7 O (bE (bZ O O) (congrArg Value.bool (decide_eq_false (λh=>h O)))) ?_;refine a7 O (aJ O) (zm O (ag O (zm O (ag O (ah O C33 ((hS4.snap [120] O (by simp) (by decide) (by omega) :)) ?_)))));rintro _ w5 ⟨rfl,⟨F5,hS5,hG5⟩,hc5⟩;refine ag O (a7 O (bZ O O) (a7 O (aJ O) (a6 (aK O (λh=>h O) ?_))));refine zKR (zm O ?_);have hsrt:=hS5.sort;refine ah O C43 ((hS5.scan [] [] 100 (by decide) :)) ?_;rintro av w6 ⟨ho6,hi6,hc6⟩;refine za O (a6 ?_);rw[Aw (by omega)] at ho6;have hob2:=ho6.sl.form rfl;obtain⟨pa,ca,rfl⟩:=hob2;have hS6:=hS5.chg0 hc6;have hF6:=hS6.lt;have ha6:=ho6.sl.lt;refine zSR (za O (a6 ?_));have hob3:∃sp:Sp,sp=⟨lo,tx,decide (tx≠[])⟩:=⟨_,rfl⟩
     obtain⟨sp,hsp⟩:=hob3;have hscan:jz M lo tx N=(ej sp M).take N:=by rw[hsp];rfl
     refine dT [1,2,3,9,11,12] (λvs w'=>∃wv,vs=[str lo,str tx,.int .u8 x3.toNat,sv,.slice pa M.length ca,wv]/\Own w' wv (jz M lo tx N)/\Chg [] w6 w') ?_ ?_
     ·refine zSR (za O (a6 (aq (aX [1,2,3,9,11,12,13] (λq vs w'=>∃(i:Nat) (wv:Value) (W:List Pr),vs=[str lo,str tx,.int .u8 x3.toNat,sv,.slice pa M.length ca,wv,.int .i64 i]/\i+q=M.length/\Own w' wv W/\W=ej sp (M.take i)/\W.length<=N/\In wv [] w6.heap.size/\Chg [] w6 w') (M.length) ?_ ?_))))
      ·exact⟨0,_,[],rfl,by omega,Own.nil _,rfl,ew _,In.nil,Chg.refl _⟩
      ·rintro q vs J w7 ⟨i,wv,W,rfl,hi,how,hW,hWN,hin,hc7⟩;refine aa (zSR (zmm O (a7 O (aB O cK) ?_)));have hob4:=how.sl.form rfl;obtain⟨pw,cw,rfl⟩:=hob4;have ha7:=ho6.mod0 hc7;by_cases hlt:i<M.length
       ·refine a7 O (bE (bI O O) (bT (by omega))) ?_;refine zm O (ag O (zm O (ag O (a7 O (aB O cK) (ag O (zm O (ag O (a7 O (uk (b:=20) O O (by decide)) (ag O (a7 O (fI O uU5 uU3 (by omega)) (ag O (a7 O (bI O O) (a7 O (aL O) ?_)))))))))))));refine a6 ?_;have hob5:∃z,q=z+1:=⟨q-1,by omega⟩
        obtain⟨q,rfl⟩:=hob5;have hob6:∃a,M[i]?=some a:=⟨M[i]'(by omega),bL _⟩
        obtain⟨p,hp⟩:=hob6;have htk:ej sp (M.take (i+1))=W++(if sp.has p.1=true then [p] else []):=by
         rw[gD,hp,hW];unfold ej;rw[mG];congr 1;show List.filter _ [p]=_;rw[uK];rfl
        refine aA O (λhfull=>?_) (λhfull=>?_)
        ·refine zKN (aa (aq (zSR (zmm O (bB O (aR (i) cK I49 O (ha7.sl) O O (by first|rfl|omega) (by omega)) ?_)))));rintro _ ⟨b1,o1,rfl,he1,hb1⟩;refine a7 O (a8 gq O I9 O O) (a7 O (aD uU9 O O (((ha7.sl.at he1 hp).cell (i:=0) rfl:_=some (str p.1)))) ?_);refine zm O ?_;by_cases h1:ltB p.1 lo=true
         ·refine a7 O (bE (nO O O) (congrArg Value.bool (by rw[h1]))) ?_;refine zm O (au O O (au O O (au O O (au O O (au O O (au O O (au O O (au O O (au O O (au O O (au O O (a7 O (aJ O) (a6 (aI (rfl) (bK (ax (aj (ae (zmv O (aC O O (by omega)) (za O ?_))))))))))))))))))));refine a6 (aS (q) (bh (by omega) ?_));have hno:¬sp.has p.1=true:=by rw[hsp];unfold Sp.has;simp[h1]
          exact⟨i+1,_,W,rfl,by omega,how,by rw[htk,if_neg hno,cA],hWN,hin,hc7⟩
         ·have h1:ltB p.1 lo=false:=by simpa using h1
          refine a7 O (bE (nO O O) (congrArg Value.bool (by rw[h1]))) ?_;refine zm O (ag O (zm O (ag O ?_)));by_cases h2:tx=[]
          ·refine a7 O (bE (qP O O) (congrArg Value.bool (decide_eq_true (h2)))) (ag O (zm O (au O O (au O O (au O O (au O O (au O O (au O O (au O O (ag O (a7 O (aL O) (a7 O (aL O) (a6 ?_)))))))))))));have hhas:sp.has p.1=true:=by rw[hsp];unfold Sp.has;simp[h1,h2]
           refine aV (rfl) ?_;refine ae (zmm O (zm O (bB O (aR (i) cK I49 O (ha7.sl) O O (by first|rfl|omega) (by omega)) ?_)));rintro _ ⟨b3,o3,rfl,he3,hb3⟩;refine a7 O (cG gq O I49 O (ha7.sl.at he3 hp) O) (aY O (nP p cK I49 O O O O O (by decide)) ?_);rintro _ w8 ⟨b8,rfl,hB8,hn8,hc8,hl8⟩;refine cx cK cK I49 (.inr ⟨_,rfl⟩) O O O (by decide) O (how.mod0 hc8) ((Blk.sl1 hB8).src) O O (by simp;omega) ?_;rintro vb w9 hb9;refine za O (bA (ax (aj (ae (zmv O (aC O O (by omega)) (za O ?_))))));refine a6 (aS (q) (bh (by omega) ?_));have hk8:=hc7.tr hc8;have hin9:In vb [] w6.heap.size:=λx hx=>by
            rcases hb9.inn x hx with g|g
            ·exact hin x g
            ·exact .inr (by have:=hk8.1;omega)
           exact⟨i+1,vb,W++[p],rfl,by omega,hb9.own,by rw[htk,if_pos hhas],by rw[aF,fW];omega,hin9,hk8.t0 hb9.mod (λx hx=>hin.ge x hx)⟩
          ·refine a7 O (bE (qP O O) (congrArg Value.bool (decide_eq_false (h2)))) (ag O (zm O (ag O (zm O (ag O (zm O (ag O (bB O (aR (i) cK I49 O (ha7.sl) O O (by first|rfl|omega) (by omega)) ?_))))))));rintro _ ⟨b2,o2,rfl,he2,hb2⟩;refine ag O (a7 O (a8 gq O I9 O O) (ag O (a7 O (aD uU9 O O (((ha7.sl.at he2 hp).cell (i:=0) rfl:_=some (str p.1)))) ?_)));refine ag O (zm O (ag O (a7 O (uS O O) (ag O (a7 O (aJ O) (a7 O (aL O) (a6 (bR O (λh3=>?_) (λh3=>?_)))))))))
           ·refine ae (zmm O (zm O ?_));have hhas:sp.has p.1=true:=by rw[hsp];unfold Sp.has;simp[h1,h3]
            refine bB O (aR (i) cK I49 O (ha7.sl) O O (by first|rfl|omega) (by omega)) ?_;rintro _ ⟨b3,o3,rfl,he3,hb3⟩;refine a7 O (cG gq O I49 O (ha7.sl.at he3 hp) O) (aY O (nP p cK I49 O O O O O (by decide)) ?_);rintro _ w8 ⟨b8,rfl,hB8,hn8,hc8,hl8⟩;refine cx cK cK I49 (.inr ⟨_,rfl⟩) O O O (by decide) O (how.mod0 hc8) ((Blk.sl1 hB8).src) O O (by simp;omega) ?_;rintro vb w9 hb9;refine za O (bA (ax (aj (ae (zmv O (aC O O (by omega)) (za O ?_))))));refine a6 (aS (q) (bh (by omega) ?_));have hk8:=hc7.tr hc8;have hin9:In vb [] w6.heap.size:=λx hx=>by
             rcases hb9.inn x hx with g|g
             ·exact hin x g
             ·exact .inr (by have:=hk8.1;omega)
            exact⟨i+1,vb,W++[p],rfl,by omega,hb9.own,by rw[htk,if_pos hhas],by rw[aF,fW];omega,hin9,hk8.t0 hb9.mod (λx hx=>hin.ge x hx)⟩
           ·refine bK (ax (aj (ae (zmv O (aC O O (by omega)) (za O ?_)))));refine a6 ?_;have h3:ltB p.1 tx=false:=by simpa using h3
            have hno:¬sp.has p.1=true:=by rw[hsp];unfold Sp.has;simp[h1,h2,h3]
            refine aS (q) (bh (by omega) ?_);exact⟨i+1,_,W,rfl,by omega,how,by rw[htk,if_neg hno,cA],hWN,hin,hc7⟩
        ·refine zxx ?_;have e:jz M lo tx N=W:=by rw[hscan,hW];exact EW (by rw[<-hW];omega)
         exact⟨_,rfl,by rw[e];exact how,hc7⟩
       ·refine a7 O (bE (bI O O) (bF (by omega))) ?_;refine zm O (au O O (au O O (au O O (au O O (au O O (au O O (a7 O (aJ O) (a6 (aI (rfl) (zxx ?_))))))))));have e:jz M lo tx N=W:=by
         rw[hscan,hW,bU (by omega:M.length<=i),bU];rw[bU (by omega:M.length<=i)] at hW;rw[<-hW];exact hWN
        exact⟨_,rfl,by rw[e];exact how,hc7⟩
     ·rintro vs w7 J ⟨wv,rfl,ho7,hc7⟩;refine zSR (zmm O (zmm O (a7 O (uk (b:=20) O O (by decide)) (a7 O (fI O uU5 uU3 (by omega)) ?_))));have hS7:=hS6.chg0 hc7;have hsl:(jz M lo tx N).length<=20:=by unfold jz;rw[bz];omega
      have hob7:=ho7.sl.form rfl;obtain⟨pw,cw,rfl⟩:=hob7;refine ah O C48 ((hS7.scanAt ([120],M) (by simp) lo tx (x3 % 20).toNat (by omega) :)) ?_;rintro _ w8 ⟨⟨ov,rfl,ho8,hi8⟩,hc8⟩;refine zm O (zx O (zx O (zaa O (a6 (aa (zSR (za O (a6 (aq ?_)))))))));rw[hN] at ho8;have ho8:Own w8 ov (jz M lo tx N):=ho8;have hob8:=ho8.sl.form rfl;obtain⟨po,co,rfl⟩:=hob8;refine aX [1,2,3,9,11,12,14,15,16] (λq vs w'=>∃(i:Nat),vs=[str lo,str tx,.int .u8 x3.toNat,sv,.slice pa M.length ca,.slice pw (jz M lo tx N).length cw,.slice po (jz M lo tx N).length co,.int .i64 0,.int .i64 i]/\i+q=M.length/\Chg [] w8 w') (M.length) ?_ ?_
      ·exact⟨0,rfl,by omega,Chg.refl _⟩
      ·rintro q vs J2 w9 ⟨i,rfl,hi,hc9⟩;refine aa (zSR (zmm O (a7 O (aB O cK) (a7 O (bI O O) ?_))));refine a6 ?_;have hc69:=hc7.tr (hc8.tr hc9);have ha9:=ho6.mod0 hc69;have hS9:=hS6.chg0 hc69;refine aA O (λhlt=>?_) (λhlt=>?_)
       ·refine zKN (aa (aq (zSR (zmm O (zm O ?_)))));have hob9:∃z,q=z+1:=⟨q-1,by omega⟩
        obtain⟨q,rfl⟩:=hob9;have hob10:∃a,M[i]?=some a:=⟨M[i]'(by omega),bL _⟩
        obtain⟨p,hp⟩:=hob10;have hob11:=get_at hsrt hp;obtain⟨g1,g2⟩:=hob11;refine bB O (aR (i) cK I49 O (ha9.sl) O O (by first|rfl|omega) (by omega)) ?_;rintro _ ⟨b1,o1,rfl,he1,hb1⟩;refine a7 O (a8 gq O I9 O O) (a7 O (aD uU9 O O (((ha9.sl.at he1 hp).cell (i:=0) rfl:_=some (str p.1)))) ?_);refine ah O C47 ((hS9.get p.1 p.2 true g1 g2 :)) ?_;rintro _ w10 ⟨rfl,hc10⟩;refine zm O (zx O (zx O (zaa O (a6 (aa ?_)))));have ha10:=ha9.mod0 hc10;refine aH bw (.pure 0 (.pure 1 (.pure 2 (.pure 3 (.pure 4 (.pure 5 (.pure 6 (.pure 7 (.read 8 (.pure 9 (.pure 10 (.pure 11 (.pure 12 (.pure 13 (.pure 14 (.pure 15 (.pure 16 (.pure 17 (.pure 18 (.pure 19 (.read 20 (.pure 21 (.pure 22 (.pure 23 (.pure 24 (.read 25 (.pure 26 (.pure 27 (.pure 28 .nil))))))))))))))))))))))))))))) (by kernel_rfl) ?_;refine ym O (yp O (λ_=>(cB O)) ?_);refine ym O (ym O (ym O (ym O (yex O (aR (i) cK I49 O (ha10.sl) O O (by first|rfl|omega) (by omega)) ?_))));rintro _ ⟨b2,o2,rfl,he2,hb2⟩;refine yp O (λ_=>(a8 gq O I9 O O)) ?_;refine aG O O O uU9 O O (((ha10.sl.at he2 hp).cell (i:=1) rfl:_=some (str p.2))) ?_;refine yp O (λ_=>bE (qN O O) (congrArg Value.bool (decide_eq_false (λh=>h O)))) ?_;refine yp O (λ_=>(aJ O)) ?_;refine ym O (ym O ?_);by_cases h0:i > 0
        ·refine yp O (λ_=>bE (dh O O) (bT (by omega))) ?_;refine ym O (ym O (ym O (yp O (λ_=>(aZ O O (by omega))) ?_)));have hob12:∃a,M[i-1]?=some a:=⟨M[i-1]'(by omega),bL _⟩
         obtain⟨p',hp'⟩:=hob12;have hso:ltB p'.1 p.1=true:=sort_at hsrt hp' (by rw[show i-1+1=i by omega];exact hp);refine yex O (aR (i-1) cK I49 O (ha10.sl) O O (by first|rfl|omega) (by omega)) ?_;rintro _ ⟨b3,o3,rfl,he3,hb3⟩;refine yp O (λ_=>(a8 gq O I9 O O)) ?_;refine aG O O O uU9 O O (((ha10.sl.at he3 hp').cell (i:=0) rfl:_=some (str p'.1))) ?_;refine ym O (ym O (yex O (aR (i) cK I49 O (ha10.sl) O O (by first|rfl|omega) (by omega)) ?_));rintro _ ⟨b4,o4,rfl,he4,hb4⟩;refine yp O (λ_=>(a8 gq O I9 O O)) ?_;refine aG O O O uU9 O O (((ha10.sl.at he4 hp).cell (i:=0) rfl:_=some (str p.1))) ?_;refine yp O (λ_=>(nO O O)) ?_;refine yp O (λ_=>(aL O)) ?_;refine yp O (λ_=>(aJ O)) ?_;refine az (bR O (λhge=>?_) (λhge=>?_))
         ·refine zSR (za O (a6 (bD (aT (aM (aM (aT (aM (cW ?_)))))))));rw[hso] at hge;cases hge
         ·refine bK (ax (aj (ae (zmv O (aC O O (by omega)) (za O ?_)))));refine a6 (aS (q) (bh (by omega) ?_));exact⟨i+1,rfl,by omega,hc9.tr (hc10.tr (drw _))⟩
        ·refine yp O (λ_=>bE (dh O O) (bF (by omega))) ?_;refine ym O (yno O (yno O (yno O (yno O (yno O (cg O O O (yno O (yno O (yno O (yno O (cg O O O (yno O (yp O (λ_=>(aJ O)) ?_)))))))))))));refine yp O (λ_=>(aJ O)) ?_;refine az (aI (rfl) (bK (ax (aj (ae (zmv O (aC O O (by omega)) (za O ?_)))))));refine a6 (aS (q) (bh (by omega) ?_));exact⟨i+1,rfl,by omega,hc9.tr (hc10.tr (drw _))⟩
       ·refine aN (an (an (aE (aj (zSR (zmm O (zmm O (a7 O (uk (b:=20) O O (by decide)) (a7 O (fI O uU5 uU3 (by omega)) ?_)))))))));refine ah O C43 ((hS9.scan lo tx (x3 % 20).toNat (by omega) :)) ?_;rintro qv w10 ⟨ho10,hi10,hc10⟩;refine zm O ?_;rw[hN] at ho10;have hw10:=ho7.mod0 (hc8.tr (hc9.tr hc10));refine ah O C42 (Ax _ _ _ _ _ ho10.sl hw10.sl (by omega) O) ?_;rintro _ w11 ⟨rfl,hc11⟩;refine zm O (ag O (zm O (ag O (a7 O (bE (dG O O) (congrArg Value.bool (decide_eq_true (rfl)))) (a7 O (aL O) (zm O (ag O (zm O (ag O (zm O (ag O (ah O C42 (Ax _ _ _ _ _ (ho8.mod0 (hc9.tr (hc10.tr hc11))).sl (hw10.mod0 hc11).sl (by omega) O) ?_))))))))))));rintro _ w12 ⟨rfl,hc12⟩;refine a7 O (aL O) (za O (a6 (zrf ?_)));exact⟨rfl,(hS9.chg0 (hc10.tr (hc11.tr hc12))).now⟩
 ·have hb:isB l=false:=by simpa using hb
  refine ah O C40 (Eu _ _ l false hl1 hl2 hb) ?_;rintro _ _ ⟨rfl,rfl⟩;refine a7 O (cB O) (zm O (au O O (au O O (au O O (a7 O (aL O) (zm O (au O O (au O O (au O O (a7 O (aL O) (zm O (au O O (au O O (au O O (a7 O (aL O) (a6 (aV (rfl) (zSR (za O (a6 (zrt ?_)))))))))))))))))))));exact⟨rfl,hc1⟩
end Go.Proofs.YtpbfapbajmdlkaaGreat
