/- All pairs put, all taken away, in whatever order: an empty tree of one page; each on the way is one. It holds for every input; there are no conditions. -/
import Derived.Test.YtpbfapbajmdlkaaGreatQFacts
import Derived.Test.YtpbfapbajmdlkaaGreatSac0
import Derived.Test.YtpbfapbajmdlkaaGreatSac1
import Derived.Test.YtpbfapbajmdlkaaGreatQLaid
section
namespace Go.Proofs.YtpbfapbajmdlkaaGreat
open Go Go.Sac
theorem uH(n:Int)(w:World):Ret Tryz.prog 135 #[.int .i64 n] w fun v w'=>v = .int .i64 (min (max n 0) 8)∧w=w':=by
 refine enter [2] Tryz.func135 rfl rfl (Nat.le_of_ble_eq_true rfl) ?_
 refine zSR (za rfl (zNR (zm rfl (a6 rfl (ow rfl rfl) (a6 rfl (iG rfl rfl) (za rfl ?_))))))
 refine a8 (a7 (zrf ?_))
 exact⟨rfl,rfl⟩
theorem fP(b:Value)(l:List UInt8)(x:UInt64)(k:Nat)(w:World)(hb:Own w b l)(hk:k≤8)(hl:l.length≤1000000000) :
  Ret Tryz.prog 125 #[b,.int .u64 x.toNat,.int .i64 k] w fun v w'=>Own w' v (l++be k x.toNat)∧Chg (ar b) w w'∧In v (ar b) w.heap.size:=by
 refine enter [6] Tryz.func125 rfl rfl (Nat.le_of_ble_eq_true rfl) ?_
 refine zSR (za rfl (a8 (a7 (ae (zSR (zm rfl (ah rfl C135 (uH _ _) ?_)))))))
 rintro _ _ ⟨rfl,rfl⟩
 refine a6 rfl (cj rfl rfl (by omega)) (za rfl ?_)
 refine a8 (a7 (au (bO [0,7] [0,7,11,12,13,14,15,16,17,18,19,20,21,22] (fun m vs w'=>∃b' pre,vs=[b',.int .i64 ((m:Int)-1)]∧m≤k∧be k x.toNat=pre++be m x.toNat∧Own w' b' (l++pre)∧Chg (ar b) w w'∧In b' (ar b) w.heap.size) (k) (by kernel_rfl) ?_ ?_)))
 ·refine⟨b,[],?_,Nat.le_refl _,rfl,by simpa using hb,Chg.refl' _ _,fun b hb => .inl hb⟩
  exact congrArg (fun z=>[b,Value.int .i64 z]) (show min (max (k:Int) 0) 8-1=(k:Int)-1 by omega)
 ·rintro m vs J w1 ⟨b',pre,rfl,hm,hpre,hown,hmod,hin⟩
  refine ae (zSR (zm rfl (a6 rfl (j5 rfl rfl) ?_)))
  refine a8 (a7 ?_)
  have hlen:pre.length+m=k:=by
   have:=congrArg List.length hpre
   rw[List.length_append,aI,aI] at this; omega
  refine aC rfl (fun h=>?_) (fun h=>?_)
  ·refine aA (a7 (ae (au (al (zm rfl (zm rfl (zm rfl (a6 rfl (eW rfl rfl (by omega)) ?_))))))))
   have hob1:∃q,m=q+1:=⟨m-1,by omega⟩
   obtain⟨m,rfl⟩:=hob1
   refine a6 rfl (pN rfl rfl (s:=8*m) (by omega)) ?_
   refine a6 rfl (eN rfl dV uU5) ?_
   refine gp (oX (qo x (8*m)).toNat) aR I5 rfl rfl rfl (by decide) (by decide) rfl rfl rfl rfl (hown) (fun _=>rfl) (by rw[List.length_append]; omega) ?_
   rintro s1 v2 w2 ⟨ha1,ha2,ha3⟩
   refine za rfl (a8 (aB (a7 (al (zm rfl (a6 rfl (cj rfl rfl (by omega)) (za rfl ?_)))))))
   refine a8 (a7 (Exists.intro (m) (And.intro (by omega) ?_)))
   refine⟨v2,pre++[UInt8.ofNat (x.toNat >>> (8*m))],?_,by omega,?_,?_,?_,?_⟩
   ·exact congrArg (fun z=>[v2,Value.int .i64 z]) (show(((m+1:Nat):Int)-1-1)=(m:Int)-1 by omega)
   ·rw[hpre]; simp[be]
   ·have hx:oX ((qo x (8*m)).toNat:Int)=UInt8.ofNat (x.toNat >>> (8*m)):=by
     rw[mJ,qo]
     apply UInt8.toNat_inj.1
     rw[UInt8.toNat_ofNat',UInt8.toNat_ofNat',UInt64.toNat_ofNat']
     omega
    rw[←List.append_assoc,←hx]; exact ha1
   ·exact hmod.trans ha2 (fun _ h _=>h) (fun q hq hlt=>(hin q hq).elim id (fun h=>by omega))
   ·exact ha3.mono (fun q hq=>hin q hq) hmod.1
  ·refine aP (aq (aq (aE (a7 (zSR (zm rfl (za rfl (a8 (a7 (zrf ?_))))))))))
   have hm0:m=0:=by omega
   subst hm0
   rw[show be k x.toNat=pre from by simpa [be] using hpre]
   exact⟨hown,hmod,hin⟩
theorem zP(l:List UInt8)(i:Nat)(c:UInt8)(hi:l[i]?=some c)(h7:i≤7) :
  (uR (UInt64.ofNat (cL (l.take i))) 8 ||| cW (c.toNat:Int))=UInt64.ofNat (cL (l.take (i+1))):=by
 have hlt:i<l.length:=(List.getElem?_eq_some_iff.1 hi).1
 have h1:l.take (i+1)=l.take i++[c]:=by rw[List.take_add_one,hi]; rfl
 have h2:=l9 (l.take i)
 rw[List.length_take,Nat.min_eq_left (by omega)] at h2
 have h3:256 ^ i≤256 ^ 7:=Nat.pow_le_pow_right (by omega) h7
 have h4:cL (l.take i)<72057594037927936:=by
  have:(256:Nat) ^ 7=72057594037927936:=by decide
  omega
 have h5:(UInt64.ofNat (cL (l.take i))).toNat=cL (l.take i):=by rw[UInt64.toNat_ofNat']; omega
 rw[h1,zQ,B9,uR,or_byte _ _ (by rw[h5]; exact h4),h5]
def nq(b:Value)(l:List UInt8)(k:Nat)(v:Value)(w:World):Prop :=
 if l.length<k then v = .tuple #[.int .u64 0,b,.int .i64 10]
 else ∃r,v = .tuple #[.int .u64 (UInt64.ofNat (cL (l.take k))).toNat,r,.int .i64 0]∧Sl w r (l.drop k)∧ar r=ar b
theorem j1(b:Value)(l:List UInt8)(k:Nat)(w:World)(hb:Sl w b l)(hk:k≤8)(hl:l.length≤1000000000) :
  Ret Tryz.prog 83 #[b,.int .i64 k] w fun v w'=>nq b l k v w'∧Hp w' w:=by
 have hb':=hb
 obtain⟨p,cap,rfl,hcap,_⟩:=hb
 refine enter [4,5,6] Tryz.func83 rfl rfl (Nat.le_of_ble_eq_true rfl) ?_
 refine zSR (a6 rfl (fE (v := .int .u64 ((0:UInt64).toNat:Nat)) rfl) (za rfl (za rfl ?_)))
 refine zNR (zm rfl (ah rfl C135 (uH _ _) ?_))
 rintro _ _ ⟨rfl,rfl⟩
 refine za rfl (a8 (a7 (ae (zSR (zm rfl (a6 rfl (ax rfl aR) (zm rfl (a6 rfl (bz rfl rfl) ?_))))))))
 refine a8 (a7 ?_)
 have hmin:min (max (k:Int) 0) 8=k:=by omega
 rw[hmin]
 refine aC rfl (fun h=>?_) (fun h=>?_)
 ·refine zSR (zm rfl (a6 rfl (fE (v := .int .u64 ((0:UInt64).toNat:Nat)) rfl) (za rfl (za rfl ?_))))
  refine a8 (a7 (zrt ?_))
  refine⟨?_,rfl⟩
  unfold nq; rw[if_pos (by omega)]; rfl
 ·refine zKR (a6 rfl (fE (v := .int .u64 ((0:UInt64).toNat:Nat)) rfl) ?_)
  refine a8 (a7 (ae (zSR (zm rfl (zm rfl ?_)))))
  have hkl:k≤l.length:=by omega
  refine bg rfl (gm k aR I5 hb' rfl rfl (by omega) hkl) ?_
  rintro _ ⟨⟨p1,cap1,rfl⟩,hs1,hbl1⟩
  refine a6 rfl (ax rfl aR) (zm rfl ?_)
  refine a8 (a7 (au (bO [8,22] [8,10,22,23,24,25,26,27,28,29,30,31] (fun m vs w'=>∃i:Nat,i+m=k∧vs=[.int .u64 (UInt64.ofNat (cL (l.take i))).toNat,.int .i64 i]∧Hp w' w) (k) (by kernel_rfl) ?_ ?_)))
  ·exact⟨0,by omega,rfl,rfl⟩
  ·rintro m vs J w1 ⟨i,hi,rfl,hh⟩
   refine zSR (a6 rfl (bz rfl rfl) ?_)
   refine a8 (a7 (ae (aC rfl (fun h=>?_) (fun h=>?_))))
   ·refine aA (a7 (ae (au (ae (al ?_)))))
    have hik:i<k:=by omega
    refine bg rfl (bW (i) aR I5 rfl (hs1.heap hh) rfl rfl (by first | rfl | omega) (by rw[List.length_take]; omega)) ?_
    rintro _ ⟨bi,oi,rfl,hei,hbi⟩
    have hget:(l.take k)[i]?=some (l.getD i 0):=by rw[List.getElem?_take,if_pos hik]; exact getD_some (by omega)
    refine a6 rfl (az uU5 rfl rfl (((hs1.heap hh).at hei hget).c0 rfl)) ?_
    refine za rfl (a8 (a7 (al (zm rfl (a6 rfl (ux rfl rfl (s:=8) rfl) (zm rfl (a6 rfl (cP rfl uU5 dV) (a6 rfl (y9 rfl rfl) (za rfl ?_)))))))))
    refine a8 (aB (a7 (al (a6 rfl (aD rfl rfl (by omega)) (zm rfl ?_)))))
    refine a8 (a7 (Exists.intro (m-1) (And.intro (by omega) ?_)))
    refine⟨i+1,by omega,aw (u64_eq ?_) (aw (bB ?_) bF),hh⟩
    ·exact zP l i _ (getD_some (by omega)) (by omega)
    ·omega
   ·refine aP (aq (aq (aE (a7 (ae ?_)))))
    have hik:i=k:=by omega
    subst hik
    refine aO bG (.pure 0 (.pure 1 (.pure 2 (.pure 3 (.pure 4 (.pure 5 (.pure 6 .nil))))))) (by kernel_rfl) ?_
    refine ym rfl rfl rfl ?_
    refine ym rfl rfl rfl ?_
    refine ym rfl rfl rfl ?_
    refine bA rfl rfl rfl (dF i aR I5 rfl (hb'.heap hh) rfl rfl rfl (by omega)) ?_
    rintro _ ⟨⟨p2,cap2,rfl⟩,hs2,hbl2⟩
    refine ya rfl rfl rfl ?_
    refine ya rfl rfl rfl ?_
    refine ya rfl rfl rfl ?_
    refine aQ (a7 (zrf ?_))
    refine⟨?_,hh⟩
    unfold nq
    rw[if_neg (by omega)]
    exact⟨_,rfl,hs2,hbl2⟩
theorem yN(b:Value)(l:List UInt8)(w:World)(hb:Sl w b l)(hl:4≤l.length) :
  Ret Tryz.prog 292 #[b] w fun v w'=>v=bT (l.take 4)∧Chg [] w w':=by
 refine et [.cell 2 288] Tryz.func292 rfl rfl (Nat.le_of_ble_eq_true rfl) ?_
 refine zSR (aJ (List.replicate 4 (0:UInt8)) iY rfl rfl rfl ?_)
 rintro w1 b1 hn1 ha1 hc1 hl1
 refine zNR (aJ (List.replicate 4 (0:UInt8)) iY rfl rfl rfl ?_)
 rintro w2 b2 hn2 ha2 hc2 hl2
 refine zNR (a6 rfl (bI gB I5 rfl) ?_)
 refine zm rfl ?_
 have hb2:=hb.mod0 (hc1.trans hc2 (fun _ h _=>h) (fun _ h _=>h))
 refine dI rfl (ew (k:=0) aR I5 rfl rfl rfl rfl (hb2.src) (ha2) (by first | (simp; done) | omega)) ?_
 rintro w3 ⟨ha3,hc3,hl3⟩
 refine a8 (a7 (ae (al ?_)))
 rw[Nat.min_eq_right hl,cy (by simp; omega)] at ha3
 have hl4:(l.take 4).length=4:=by simp; omega
 refine a6 rfl (cF 4 gB rfl iY rfl rfl (ha3) (by first | assumption | rfl | (simp <;> omega))) ?_
 refine aH rfl (bl 4 iY rfl ((ha1.chg0 hc2).nb hc3 (by omega)) rfl rfl (by first | assumption | rfl | (simp <;> omega)) (by first | assumption | rfl | (simp <;> omega))) ?_
 rintro w4 ⟨ha4,hc4,hs4⟩
 refine a8 (a7 (bQ (cE ?_)))
 refine⟨[bT (l.take 4)],⟨⟨_,rfl,cV 4 gB rfl iY rfl ha4 hl4⟩,trivial⟩,rfl,?_⟩
 exact((hc1.tr hc2).t1 hc3 (by omega)).t1 hc4 (by omega)
theorem Big_ok(b:Value)(l:List UInt8)(w:World)(hb:Sl w b l)(hl:4≤l.length) :
  Ret Tryz.prog 290 #[b] w fun v w'=>v = .int .u32 (bigL l).toNat∧Chg [] w w':=by
 refine enter [2] Tryz.func290 rfl rfl (Nat.le_of_ble_eq_true rfl) ?_
 refine zSR (a6 rfl (fE (v := .int .u32 ((0:UInt32).toNat:Nat)) rfl) ?_)
 refine zNR (zm rfl (ah rfl C292 (yN b l w hb hl) ?_))
 rintro _ w1 ⟨rfl,hc1⟩
 have hl4:(l.take 4).length=4:=by simp; omega
 refine aJ (List.replicate 4 (0:UInt8)) iY rfl rfl rfl ?_
 rintro w2 b2 hn2 ha2 hc2 hl2
 refine aH rfl (bl 4 iY rfl (ha2) rfl rfl (by first | assumption | rfl | (simp <;> omega)) (by first | assumption | rfl | (simp <;> omega))) ?_
 rintro w3 ⟨ha3,hc3,hl3⟩
 refine zNR (a6 rfl (bP 0 gB I5 rfl rfl rfl (by decide)) ?_)
 refine a6 rfl (az uU5 rfl rfl (ha3.c (gf (d:=0) (by decide) (by omega)) rfl rfl)) ?_
 refine a6 rfl (dx rfl uU5 bK) (a6 rfl (iF rfl rfl (s:=24) rfl) (a6 rfl (bP 1 gB I5 rfl rfl rfl (by decide)) ?_))
 refine a6 rfl (az uU5 rfl rfl (ha3.c (gf (d:=0) (by decide) (by omega)) rfl rfl)) ?_
 refine a6 rfl (dx rfl uU5 bK) (a6 rfl (iF rfl rfl (s:=16) rfl) (a6 rfl (jC rfl rfl) (a6 rfl (bP 2 gB I5 rfl rfl rfl (by decide)) ?_)))
 refine a6 rfl (az uU5 rfl rfl (ha3.c (gf (d:=0) (by decide) (by omega)) rfl rfl)) ?_
 refine a6 rfl (dx rfl uU5 bK) (a6 rfl (iF rfl rfl (s:=8) rfl) (a6 rfl (jC rfl rfl) (a6 rfl (bP 3 gB I5 rfl rfl rfl (by decide)) ?_)))
 refine a6 rfl (az uU5 rfl rfl (ha3.c (gf (d:=0) (by decide) (by omega)) rfl rfl)) ?_
 refine a6 rfl (dx rfl uU5 bK) (a6 rfl (jC rfl rfl) (za rfl ?_))
 refine a8 (a7 (zrf ?_))
 simp only[uL]
 refine⟨rfl,?_⟩
 exact(hc1.tr hc2).t1 hc3 (Nat.le_trans hc1.1 hn2)
theorem tw(b:Value)(l:List UInt8)(w:World)(hb:Sl w b l)(hl:4≤l.length) :
  Ret Tryz.prog 288 #[b] w fun v w'=>v = .int .u32 (jL l).toNat∧Chg [] w w':=by
 refine enter [2] Tryz.func288 rfl rfl (Nat.le_of_ble_eq_true rfl) ?_
 refine zSR (a6 rfl (fE (v := .int .u32 ((0:UInt32).toNat:Nat)) rfl) ?_)
 refine zNR (zm rfl (ah rfl C292 (yN b l w hb hl) ?_))
 rintro _ w1 ⟨rfl,hc1⟩
 have hl4:(l.take 4).length=4:=by simp; omega
 refine aJ (List.replicate 4 (0:UInt8)) iY rfl rfl rfl ?_
 rintro w2 b2 hn2 ha2 hc2 hl2
 refine aH rfl (bl 4 iY rfl (ha2) rfl rfl (by first | assumption | rfl | (simp <;> omega)) (by first | assumption | rfl | (simp <;> omega))) ?_
 rintro w3 ⟨ha3,hc3,hl3⟩
 refine zNR (a6 rfl (bP 3 gB I5 rfl rfl rfl (by decide)) ?_)
 refine a6 rfl (az uU5 rfl rfl (ha3.c (gf (d:=0) (by decide) (by omega)) rfl rfl)) ?_
 refine a6 rfl (dx rfl uU5 bK) (a6 rfl (iF rfl rfl (s:=24) rfl) (a6 rfl (bP 2 gB I5 rfl rfl rfl (by decide)) ?_))
 refine a6 rfl (az uU5 rfl rfl (ha3.c (gf (d:=0) (by decide) (by omega)) rfl rfl)) ?_
 refine a6 rfl (dx rfl uU5 bK) (a6 rfl (iF rfl rfl (s:=16) rfl) (a6 rfl (jC rfl rfl) (a6 rfl (bP 1 gB I5 rfl rfl rfl (by decide)) ?_)))
 refine a6 rfl (az uU5 rfl rfl (ha3.c (gf (d:=0) (by decide) (by omega)) rfl rfl)) ?_
 refine a6 rfl (dx rfl uU5 bK) (a6 rfl (iF rfl rfl (s:=8) rfl) (a6 rfl (jC rfl rfl) (a6 rfl (bP 0 gB I5 rfl rfl rfl (by decide)) ?_)))
 refine a6 rfl (az uU5 rfl rfl (ha3.c (gf (d:=0) (by decide) (by omega)) rfl rfl)) ?_
 refine a6 rfl (dx rfl uU5 bK) (a6 rfl (jC rfl rfl) (za rfl ?_))
 refine a8 (a7 (zrf ?_))
 simp only[uL]
 refine⟨rfl,?_⟩
 exact(hc1.tr hc2).t1 hc3 (Nat.le_trans hc1.1 hn2)
theorem tu(x:UInt32)(w:World) :
  Ret Tryz.prog 207 #[.int .u32 x.toNat] w fun v w'=>v=bT (ez x)∧Chg [] w w':=by
 refine et [.cell 2 288] Tryz.func207 rfl rfl (Nat.le_of_ble_eq_true rfl) ?_
 refine zSR (aJ (List.replicate 4 (0:UInt8)) iY rfl rfl rfl ?_)
 rintro w1 b1 hn1 ha1 hc1 hl1
 refine zNR (zm rfl (a6 rfl (gn rfl rfl (s:=24) rfl) (a6 rfl (eN rfl bK uU5) (zm rfl (a6 rfl (gn rfl rfl (s:=16) rfl) (a6 rfl (eN rfl bK uU5) (zm rfl (a6 rfl (gn rfl rfl (s:=8) rfl) (a6 rfl (eN rfl bK uU5) (zm rfl (a6 rfl (eN rfl bK uU5) ?_)))))))))))
 simp only[uK]
 refine a6 rfl (iI (List.replicate 4 (0:UInt8)) ([(0,(gr x 24).toUInt8),(1,(gr x 16).toUInt8),(2,(gr x 8).toUInt8),(3,x.toUInt8)]) (l:=ez x) gB iY rfl I5 rfl rfl rfl rfl rfl) ?_
 refine aH rfl (bl 4 iY rfl (ha1) rfl rfl (by first | assumption | rfl | (simp <;> omega)) (by first | assumption | rfl | (simp <;> omega))) ?_
 rintro w4 ⟨ha4,hc4,hl4⟩
 refine a8 (a7 (bQ (cE ?_)))
 refine⟨[bT (ez x)],⟨⟨_,rfl,cV 4 gB rfl iY rfl ha4 rfl⟩,trivial⟩,rfl,?_⟩
 exact hc1.t1 hc4 (by omega)
theorem um(x:UInt32)(w:World) :
  Ret Tryz.prog 282 #[.int .u32 x.toNat] w fun v w'=>v=bT (eY x)∧Chg [] w w':=by
 refine et [.cell 2 288] Tryz.func282 rfl rfl (Nat.le_of_ble_eq_true rfl) ?_
 refine zSR (aJ (List.replicate 4 (0:UInt8)) iY rfl rfl rfl ?_)
 rintro w1 b1 hn1 ha1 hc1 hl1
 refine zNR (zm rfl (a6 rfl (eN rfl bK uU5) (zm rfl (a6 rfl (gn rfl rfl (s:=8) rfl) (a6 rfl (eN rfl bK uU5) (zm rfl (a6 rfl (gn rfl rfl (s:=16) rfl) (a6 rfl (eN rfl bK uU5) (zm rfl (a6 rfl (gn rfl rfl (s:=24) rfl) (a6 rfl (eN rfl bK uU5) ?_)))))))))))
 simp only[uK]
 refine a6 rfl (iI (List.replicate 4 (0:UInt8)) ([(0,x.toUInt8),(1,(gr x 8).toUInt8),(2,(gr x 16).toUInt8),(3,(gr x 24).toUInt8)]) (l:=eY x) gB iY rfl I5 rfl rfl rfl rfl rfl) ?_
 refine aH rfl (bl 4 iY rfl (ha1) rfl rfl (by first | assumption | rfl | (simp <;> omega)) (by first | assumption | rfl | (simp <;> omega))) ?_
 rintro w4 ⟨ha4,hc4,hl4⟩
 refine a8 (a7 (bQ (cE ?_)))
 refine⟨[bT (eY x)],⟨⟨_,rfl,cV 4 gB rfl iY rfl ha4 rfl⟩,trivial⟩,rfl,?_⟩
 exact hc1.t1 hc4 (by omega)
theorem Xor_ok(a b:Value)(l m:List UInt8)(w:World)(ha:Sl w a l)(hb:Sl w b m)(hl:l.length≤1000000000) :
  Ret Tryz.prog 268 #[a,b] w fun v w'=>Own w' v (kh l m)∧Chg [] w w'∧In v [] w.heap.size:=by
 obtain⟨p,c,rfl,hpc,hp⟩:=id ha
 obtain⟨q,d,rfl,hqd,hq⟩:=id hb
 refine enter [4] Tryz.func268 rfl rfl (Nat.le_of_ble_eq_true rfl) ?_
 refine zSR (za rfl (zNR (zm rfl (a6 rfl (ax rfl aR) (zm rfl (a6 rfl (ax rfl aR) (a6 rfl (iG rfl rfl) ?_)))))))
 refine aS rfl (pO (min l.length m.length) (min l.length m.length) ((0:UInt8)) aR I5 rfl rfl rfl (by decide) rfl rfl (by decide) (by first | rfl | omega) (by first | rfl | omega) (by omega) (by omega)) ?_
 rintro _ w1 ⟨⟨p1,c1,rfl⟩,ho1,hc1,hi1⟩
 refine za rfl (a8 (a7 (ae (zSR (zm rfl (a6 rfl (ax rfl aR) (zm rfl ?_)))))))
 refine a8 (a7 (au ?_))
 have hb1:=hb.mod0 hc1
 have ha1:=ha.mod0 hc1
 have hxl:=j4 l m
 refine bO [15] [6,15,16,17,18,19,20,21,22,23,24,25,26,27,28,29,30] (fun n vs w'=>∃i:Nat,vs=[.int .i64 i]∧i+n=min l.length m.length∧Own w' (.slice p1 (min l.length m.length) c1) ((kh l m).take i++List.replicate n 0)∧Chg [] w w') (min l.length m.length) (by kernel_rfl) ?_ ?_
 ·exact⟨0,rfl,by omega,by simpa using ho1,hc1⟩
 ·rintro n vs J w2 ⟨i,rfl,hi,ho2,hc2⟩
  refine zSR (a6 rfl (bz rfl rfl) ?_)
  refine a8 (a7 (ae (aC rfl (fun h=>?_) (fun h=>?_))))
  ·refine aA (a7 (ae (au (zSR (zm rfl (za rfl (a8 (a7 ?_))))))))
   have hob2:∃q,n=q+1:=⟨n-1,by omega⟩
   obtain⟨n,rfl⟩:=hob2
   refine aO bG (.pure 0 (.pure 1 (.pure 2 (.pure 3 (.pure 4 (.read 5 (.pure 6 (.pure 7 (.pure 8 (.read 9 (.pure 10 (.pure 11 (.eff 12 [] .nil))))))))))))) (by kernel_rfl) ?_
   refine ym rfl rfl rfl ?_
   refine ym rfl rfl rfl ?_
   refine ym rfl rfl rfl ?_
   refine ym rfl rfl rfl ?_
   refine bA rfl rfl rfl (bW (i) aR I5 rfl (ha.mod0 hc2) rfl rfl (by first | rfl | omega) (by first | assumption | omega)) ?_
   rintro _ ⟨ba,oa,rfl,hea,hba⟩
   refine aX rfl rfl rfl uU5 rfl rfl (((ha.mod0 hc2).at hea (getD_some (d:=0) (by omega))).c0 rfl) ?_
   refine ym rfl rfl rfl ?_
   refine ym rfl rfl rfl ?_
   refine bA rfl rfl rfl (bW (i) aR I5 rfl (hb.mod0 hc2) rfl rfl (by first | rfl | omega) (by first | assumption | omega)) ?_
   rintro _ ⟨bb,ob,rfl,heb,hbb⟩
   refine aX rfl rfl rfl uU5 rfl rfl (((hb.mod0 hc2).at heb (getD_some (d:=0) (by omega))).c0 rfl) ?_
   refine aj rfl rfl rfl (fun _=>(y5 rfl rfl)) ?_
   refine bA rfl rfl rfl (bW (i) aR I5 rfl (ho2.sl) rfl rfl (by first | rfl | omega) (by simp; omega)) ?_
   rintro _ ⟨bo,oo,rfl,heo,hbo⟩
   refine cB rfl rfl rfl (gS (a:=l.getD i 0 ^^^ m.getD i 0) I5 rfl (ho2) rfl (heo) rfl rfl (by simp; omega)) ?_
   rintro w3 ⟨ho3,hc3,hs3⟩
   refine⟨trivial,?_⟩
   refine aQ (aB (a7 (al (a6 rfl (aD rfl rfl (by omega)) (zm rfl ?_)))))
   refine a8 (a7 (Exists.intro (n) (And.intro (by omega) ?_)))
   refine⟨i+1,aw (bB (by omega)) bF,by omega,?_,?_⟩
   ·have:(List.take i (kh l m)++List.replicate (n+1) 0).set i (l.getD i 0 ^^^ m.getD i 0)=List.take (i+1) (kh l m)++List.replicate n 0:=by
     have hx:(kh l m)[i]?=some (l.getD i 0 ^^^ m.getD i 0):=by
      rw[kh,List.getElem?_zipWith,getD_some (d:=0) (by omega:i<l.length),getD_some (d:=0) (by omega:i<m.length)]
     rw[List.take_add_one,hx,List.replicate_succ,List.set_append_right _ _ (by simp; omega)]
     simp[Nat.min_eq_left (show i≤(kh l m).length by omega)]
    rw[←this]; exact ho3
   ·exact hc2.t0 hc3 hi1.ge
  ·refine aP (aq (aq (aE (a7 (zSR (zm rfl (za rfl (a8 (a7 (zrf ?_))))))))))
   have h0:n=0:=by omega
   subst h0
   refine⟨?_,hc2,hi1⟩
   rw[List.take_of_length_le (by omega),List.replicate_zero,List.append_nil] at ho2
   exact ho2
theorem and31(k:Int)(s:Nat)(hs:s<32)(hk:k % 32=s):(cW k &&& 31).toNat=s:=by
 unfold cW
 rw[UInt64.toNat_and,UInt64.toNat_ofNat']
 show _ &&& (2 ^ 5-1)=s
 rw[Nat.and_two_pow_sub_one_eq_mod]
 omega
theorem kg(x:UInt32)(k:Int)(s:Nat)(hs:s<32)(hk:k % 32=s)(w:World) :
  Ret Tryz.prog 291 #[.int .u32 x.toNat,.int .i64 k] w fun v w'=>v = .int .u32 (Bn x s).toNat∧w=w':=by
 have h31:=and31 k s hs hk
 refine enter [4] Tryz.func291 rfl rfl (Nat.le_of_ble_eq_true rfl) ?_
 refine zSR (a6 rfl (fE (v := .int .u32 ((0:UInt32).toNat:Nat)) rfl) ?_)
 refine zNR (zm rfl (a6 rfl (cP rfl uU3 sB) (a6 rfl (AS (b:=31) rfl rfl) (za rfl ?_))))
 refine zNR (zm rfl (zm rfl (a6 rfl (iF rfl rfl (s:=s) (by rw[←h31])) ?_)))
 refine zm rfl (zm rfl (a6 rfl (uw (a:=32) rfl rfl) ?_))
 refine a6 rfl (gn rfl rfl (s:=32-s) (by rw[UInt64.toNat_sub,h31]; show(((18446744073709551616-s+32) % 18446744073709551616:Nat):Int)=_; omega)) ?_
 refine a6 rfl (jC rfl rfl) (za rfl ?_)
 refine a8 (a7 (zrf ?_))
 exact⟨rfl,rfl⟩
theorem pM(x:UInt32)(k:Int)(n:Nat)(hk:k=n)(w:World) :
  Ret Tryz.prog 294 #[.int .u32 x.toNat,.int .i64 k] w fun v w'=>v = .int .u32 (tR x n).toNat∧w=w':=by
 subst hk
 refine enter [4] Tryz.func294 rfl rfl (Nat.le_of_ble_eq_true rfl) ?_
 refine zSR (a6 rfl (fE (v := .int .u32 ((0:UInt32).toNat:Nat)) rfl) ?_)
 refine zNR (zm rfl (zm rfl (a6 rfl (gK rfl rfl (by omega)) ?_)))
 refine ah rfl C291 (kg x _ (n % 32) (by omega) (by omega) w) ?_
 rintro _ _ ⟨rfl,rfl⟩
 refine za rfl (a8 (a7 (zrf ?_)))
 exact⟨rfl,rfl⟩
theorem gR(x:UInt32)(k:Int)(n:Nat)(hk:k=n)(w:World) :
  Ret Tryz.prog 286 #[.int .u32 x.toNat,.int .i64 k] w fun v w'=>v = .int .u32 (qA x n).toNat∧w=w':=by
 subst hk
 refine enter [4] Tryz.func286 rfl rfl (Nat.le_of_ble_eq_true rfl) ?_
 refine zSR (a6 rfl (fE (v := .int .u32 ((0:UInt32).toNat:Nat)) rfl) ?_)
 refine zNR (zm rfl (zm rfl (a6 rfl (gK rfl rfl (by omega)) (a6 rfl (x_neg64 rfl (by omega)) ?_))))
 refine ah rfl C291 (kg x _ ((32-n % 32) % 32) (by omega) (by omega) w) ?_
 rintro _ _ ⟨rfl,rfl⟩
 refine za rfl (a8 (a7 (zrf ?_)))
 exact⟨rfl,rfl⟩
end Go.Proofs.YtpbfapbajmdlkaaGreat

end
section
namespace Go.Proofs.YtpbfapbajmdlkaaGreat
open Go Go.Sac
set_option maxRecDepth 100000
set_option maxHeartbeats 4000000
theorem Ci(w:World):Ret Tryz.prog 274 #[] w fun v w'=>v=bT shaFirst∧Chg [] w w':=by
 refine et [.cell 0 345] Tryz.func274 rfl rfl (Nat.le_of_ble_eq_true rfl) ?_
 refine zSR (aJ (List.replicate 8 (0:UInt32)) hZ rfl rfl rfl ?_)
 rintro w1 b1 hn1 ha1 hc1 hl1
 refine zNR (a6 rfl (iI (List.replicate 8 (0:UInt32)) (shaFirst.zipIdx.map fun x=>(x.2,x.1)) (l:=shaFirst) eJ hZ rfl I25 rfl rfl rfl rfl rfl) ?_)
 refine aH rfl (bl 8 hZ rfl (ha1) rfl rfl (by first | assumption | rfl | (simp <;> omega)) (by first | assumption | rfl | (simp <;> omega))) ?_
 rintro w4 ⟨ha4,hc4,hs4⟩
 refine a8 (a7 (bQ (cE ?_)))
 exact⟨[bT shaFirst],⟨⟨_,rfl,cV 8 eJ rfl hZ rfl ha4 rfl⟩,trivial⟩,rfl,hc1.t1 hc4 (by omega)⟩
theorem uf(w:World):Ret Tryz.prog 285 #[] w fun v w'=>v=bT shaK∧Chg [] w w':=by
 refine et [.cell 0 355] Tryz.func285 rfl rfl (Nat.le_of_ble_eq_true rfl) ?_
 refine zSR (aJ (List.replicate 64 (0:UInt32)) om rfl rfl rfl ?_)
 rintro w1 b1 hn1 ha1 hc1 hl1
 refine zNR (a6 rfl (iI (List.replicate 64 (0:UInt32)) (shaK.zipIdx.map fun x=>(x.2,x.1)) (l:=shaK) jY om rfl I25 (by kernel_rfl) rfl (by kernel_rfl) rfl (by kernel_rfl)) ?_)
 refine aH rfl (bl 64 om rfl (ha1) rfl rfl (by first | assumption | rfl | (simp <;> omega)) (by first | assumption | rfl | (simp <;> omega))) ?_
 rintro w4 ⟨ha4,hc4,hs4⟩
 refine a8 (a7 (bQ (cE ?_)))
 exact⟨[bT shaK],⟨⟨_,rfl,cV 64 jY rfl om rfl ha4 rfl⟩,trivial⟩,rfl,hc1.t1 hc4 (by omega)⟩
theorem uT(b:Value)(l:List UInt8)(w:World)(hb:Sl w b l)(hl:64≤l.length) :
  Ret Tryz.prog 284 #[b] w fun v w'=>v=bT (eD l 64)∧Chg [] w w':=by
 refine et [.cell 2 355] Tryz.func284 rfl rfl (Nat.le_of_ble_eq_true rfl) ?_
 refine zSR (aJ (List.replicate 64 (0:UInt32)) om rfl rfl rfl ?_)
 rintro w1 b1 hn1 ha1 hc1 hl1
 refine zNR (aJ (List.replicate 64 (0:UInt32)) om rfl rfl rfl ?_)
 rintro w2 b2 hn2 ha2 hc2 hl2
 refine a8 (a7 (ae (zSR (zm rfl (a8 (a7 (au ?_)))))))
 have hc12:=hc1.tr hc2
 refine bO [9] [4,5,6,7,8,9,10,11,12,13,14,15,16,17,18,19,20,21,22,23,24,25,26,27,28,29,30,31,32,33,34,35,36,37,38,39,40,41,42,43,44,45,46,47,48,49,50,51,52,53,54,55,56,57,58,59,60] (fun n vs w'=>∃i:Nat,vs=[.int .i64 i]∧i+n=64∧Arr w' b2 (eD l i)∧Chg [b2] w2 w') (64) (by kernel_rfl) ?_ ?_
 ·exact⟨0,rfl,rfl,by rw[uU]; exact ha2,Chg.refl' _ _⟩
 ·rintro n vs J w3 ⟨i,rfl,hi,ha3,hc3⟩
  refine zSR (a6 rfl (bz rfl rfl) ?_)
  refine a8 (a7 (ae ?_))
  have hsl:=gO l i
  have hc3':=hc12.t1 hc3 (by omega)
  refine aC rfl (fun h=>?_) (fun h=>?_)
  ·refine aA (a7 (ae (au (zSR (zm rfl (za rfl (a8 (a7 (ae (zSR (zm rfl (a6 rfl (bz rfl rfl) ?_))))))))))))
   refine a8 (a7 ?_)
   have hob1:∃q,n=q+1:=⟨n-1,by omega⟩
   obtain⟨n,rfl⟩:=hob1
   refine aC rfl (fun h16=>?_) (fun h16=>?_)
   ·refine zSR (zm rfl (zm rfl (zm rfl (a6 rfl (eW rfl rfl (by omega)) ?_))))
    refine bg rfl (dF (4*i) aR I5 rfl (hb.mod0 hc3') rfl rfl (by omega) (by omega)) ?_
    rintro _ ⟨⟨p1,c1,rfl⟩,hs1,hbl1⟩
    refine ah rfl C290 (Big_ok _ _ w3 hs1 (by rw[List.length_drop]; omega)) ?_
    rintro _ w4 ⟨rfl,hc4⟩
    refine a6 rfl (bP (i) jY I25 rfl rfl (by first | rfl | omega) (by first | assumption | omega)) ?_
    refine aH rfl (fc (a:=bigL (l.drop (4*i))) (k:=i) I25 rfl rfl rfl rfl (ha3.chg0 hc4) rfl (by first | assumption | omega)) ?_
    rintro w5 ⟨ha5,hc5,hs5⟩
    refine a8 (a7 (aP (aq (aE (a7 (al (a6 rfl (aD rfl rfl (by omega)) (zm rfl ?_))))))))
    refine a8 (a7 (Exists.intro (n) (And.intro (by omega) ?_)))
    refine⟨i+1,aw (bB rfl) bF,by omega,?_,(hc3.tr0 hc4).tr hc5⟩
    rw[oB,kY,if_pos (by omega)]; exact ha5
   ·refine aA (a7 (ae (aO bG (.pure 0 (.pure 1 (.pure 2 (.read 3 (.pure 4 (.pure 5 (.pure 6 (.read 7 (.pure 8 (.pure 9 .nil)))))))))) (by kernel_rfl) ?_)))
    refine ym rfl rfl rfl ?_
    refine aj rfl rfl rfl (fun _=>(cj rfl rfl (by omega))) ?_
    refine aj rfl rfl rfl (fun _=>bP (i-15) jY I25 rfl rfl (by first | rfl | omega) (by first | assumption | omega)) ?_
    refine aX rfl rfl rfl bK rfl rfl (ha3.c (getD_some (d:=0) (by omega)) rfl rfl) ?_
    refine ym rfl rfl rfl ?_
    refine aj rfl rfl rfl (fun _=>(cj rfl rfl (by omega))) ?_
    refine aj rfl rfl rfl (fun _=>bP (i-2) jY I25 rfl rfl (by first | rfl | omega) (by first | assumption | omega)) ?_
    refine aX rfl rfl rfl bK rfl rfl (ha3.c (getD_some (d:=0) (by omega)) rfl rfl) ?_
    refine ya rfl rfl rfl ?_
    refine ya rfl rfl rfl ?_
    refine zPR (zm rfl (ah rfl sd (gR _ _ 7 rfl _) ?_))
    rintro _ _ ⟨rfl,rfl⟩
    refine zm rfl (ah rfl sd (gR _ _ 18 rfl _) ?_)
    rintro _ _ ⟨rfl,rfl⟩
    refine a6 rfl (eb rfl rfl) (zm rfl (a6 rfl (gn rfl rfl (s:=3) rfl) (a6 rfl (eb rfl rfl) (za rfl ?_))))
    refine zNR (zm rfl (ah rfl sd (gR _ _ 17 rfl _) ?_))
    rintro _ _ ⟨rfl,rfl⟩
    refine zm rfl (ah rfl sd (gR _ _ 19 rfl _) ?_)
    rintro _ _ ⟨rfl,rfl⟩
    refine a6 rfl (eb rfl rfl) (zm rfl (a6 rfl (gn rfl rfl (s:=10) rfl) (a6 rfl (eb rfl rfl) (za rfl ?_))))
    refine a8 (a7 (aO bG (.pure 0 (.pure 1 (.pure 2 (.pure 3 (.pure 4 (.read 5 (.pure 6 (.pure 7 (.pure 8 (.pure 9 (.pure 10 (.pure 11 (.read 12 (.pure 13 (.pure 14 (.eff 15 [] .nil)))))))))))))))) (by kernel_rfl) ?_))
    refine ym rfl rfl rfl ?_
    refine ym rfl rfl rfl ?_
    refine ym rfl rfl rfl ?_
    refine aj rfl rfl rfl (fun _=>(cj rfl rfl (by omega))) ?_
    refine aj rfl rfl rfl (fun _=>bP (i-7) jY I25 rfl rfl (by first | rfl | omega) (by first | assumption | omega)) ?_
    refine aX rfl rfl rfl bK rfl rfl (ha3.c (getD_some (d:=0) (by omega)) rfl rfl) ?_
    refine aj rfl rfl rfl (fun _=>(cQ rfl rfl)) ?_
    refine ym rfl rfl rfl ?_
    refine aj rfl rfl rfl (fun _=>(cQ rfl rfl)) ?_
    refine ym rfl rfl rfl ?_
    refine aj rfl rfl rfl (fun _=>(cj rfl rfl (by omega))) ?_
    refine aj rfl rfl rfl (fun _=>bP (i-16) jY I25 rfl rfl (by first | rfl | omega) (by first | assumption | omega)) ?_
    refine aX rfl rfl rfl bK rfl rfl (ha3.c (getD_some (d:=0) (by omega)) rfl rfl) ?_
    refine aj rfl rfl rfl (fun _=>(cQ rfl rfl)) ?_
    refine aj rfl rfl rfl (fun _=>bP (i) jY I25 rfl rfl (by first | rfl | omega) (by first | assumption | omega)) ?_
    refine cB rfl rfl rfl (fc (a:=_) (k:=i) I25 rfl rfl rfl rfl (ha3) rfl (by first | assumption | omega)) ?_
    rintro w5 ⟨ha5,hc5,hs5⟩
    refine⟨trivial,?_⟩
    refine aQ (aB (a7 (al (a6 rfl (aD rfl rfl (by omega)) (zm rfl ?_)))))
    refine a8 (a7 (Exists.intro (n) (And.intro (by omega) ?_)))
    refine⟨i+1,aw (bB rfl) bF,by omega,?_,hc3.tr hc5⟩
    rw[oB,kY,if_neg (by omega)]; exact ha5
  ·refine aP (aq (aq (aE (a7 (ae (al ?_))))))
   have hob2:i=64:=by omega
   obtain rfl:=hob2
   refine a6 rfl (cF 64 jY rfl om rfl rfl (ha3) (by first | assumption | rfl | (simp <;> omega))) ?_
   refine aH rfl (bl 64 om rfl ((ha1.chg0 hc2).nb hc3 (by omega)) rfl rfl (by first | assumption | rfl | (simp <;> omega)) (by first | assumption | rfl | (simp <;> omega))) ?_
   rintro w4 ⟨ha4,hc4,hs4⟩
   refine a8 (a7 (bQ (cE ?_)))
   exact⟨[bT (eD l 64)],⟨⟨_,rfl,cV 64 jY rfl om rfl ha4 (gO l 64)⟩,trivial⟩,rfl,hc3'.t1 hc4 (by omega)⟩
theorem yA(s:List UInt32)(hs:s.length=8)(b:Value)(l:List UInt8)(w:World)(hb:Sl w b l)(hl:l.length=64) :
  Ret Tryz.prog 276 #[bT s,b] w fun v w'=>v=bT (ir s l)∧Chg [] w w':=by
 refine et [.cell 4 345] Tryz.func276 rfl rfl (Nat.le_of_ble_eq_true rfl) ?_
 refine zSR (cH (l:=s) rfl rfl ?_)
 rintro w1 b1 hn1 ha1 hc1 hl1
 refine aJ (List.replicate 8 (0:UInt32)) hZ rfl rfl rfl ?_
 rintro w2 b2 hn2 ha2 hc2 hl2
 refine zNR (zm rfl (ah rfl C284 (uT b l w2 (hb.mod0 (hc1.tr hc2)) (by omega)) ?_))
 rintro _ w3 ⟨rfl,hc3⟩
 refine ah rfl C285 (uf w3) ?_
 rintro _ w4 ⟨rfl,hc4⟩
 refine aJ (List.replicate 64 (0:UInt32)) om rfl rfl rfl ?_
 rintro w5 b5 hn5 ha5 hc5 hl5
 refine aJ (List.replicate 64 (0:UInt32)) om rfl rfl rfl ?_
 rintro w6 b6 hn6 ha6 hc6 hl6
 refine aH rfl (bl 64 om rfl (ha5.chg0 hc6) rfl rfl (rfl) (gO l 64)) ?_
 rintro w7 ⟨ha7,hc7,hs7⟩
 refine aH rfl (bl 64 om rfl (ha6.nb hc7 (by omega)) rfl rfl (rfl) (rfl)) ?_
 rintro w8 ⟨ha8,hc8,hs8⟩
 refine a8 (a7 (ae (al ?_)))
 have hc2s:=((((((hc2.tr hc3).tr hc4).tr hc5).tr hc6).t1 hc7 (by have:=hc3.1; have:=hc4.1; omega)).t1 hc8 (by have:=hc3.1; have:=hc4.1; omega))
 have hA1:=ha1.chg0 hc2s
 refine a6 rfl (cF 8 eJ rfl hZ rfl rfl (hA1) (by first | assumption | rfl | (simp <;> omega))) ?_
 refine aJ (List.replicate 8 (0:UInt32)) hZ rfl rfl rfl ?_
 rintro w9 b9 hn9 ha9 hc9 hl9
 refine aH rfl (bl 8 hZ rfl (ha9) rfl rfl (by first | assumption | rfl | (simp <;> omega)) (by first | assumption | rfl | (simp <;> omega))) ?_
 rintro wa ⟨haa,hca,hsa⟩
 refine a8 (a7 (ae (zSR (zm rfl (a8 (a7 (au ?_)))))))
 have hsz:w8.heap.size≤b9:=hn9
 have k1:=hc3.1
 have k2:=hc4.1
 have h7a:Arr wa b5 (eD l 64):=((ha7.nb hc8 (by omega)).chg0 hc9).nb hca (by omega)
 have h8a:Arr wa b6 shaK:=(ha8.chg0 hc9).nb hca (by omega)
 have h2a:Arr wa b2 (List.replicate 8 (0:UInt32)):=by
  have k1:=hc3.1
  have k2:=hc4.1
  exact(((((((ha2.chg0 hc3).chg0 hc4).chg0 hc5).chg0 hc6).nb hc7 (by omega)).nb hc8 (by omega)).chg0 hc9).nb hca (by omega)
 have h1a:Arr wa b1 s:=(hA1.chg0 hc9).nb hca (by omega)
 have hcw:Chg [] w wa:=((hc1.tr hc2s).tr hc9).t1 hca (by omega)
 refine bO [20] [8,9,10,11,12,13,14,20,21,22,23,24,25,26,27,28,29,30,31,32,33,34,35,36,37,38,39,40,41,42,43,44,45,46,47,48,49,50,51,52,53,54,55,56,57,58,59,60,61,62,63,64,65,66,67,68,69,70,71,72,73,74,75,76,77,78,79,80,81,82,83,84,85,86,87,88,89,90,91,92,93,94,95,96,97,98,99,100,101] (fun n vs w'=>∃i:Nat,vs=[.int .i64 i]∧i+n=64∧Arr w' b9 (dY (eD l 64) s i)∧Chg [b9] wa w') (64) (by kernel_rfl) ?_ ?_
 ·exact⟨0,rfl,rfl,by rw[qp]; exact haa,Chg.refl' _ _⟩
 ·rintro n vs J w3 ⟨i,rfl,hi,hb7,hc3⟩
  refine zSR (a6 rfl (bz rfl rfl) ?_)
  refine a8 (a7 (ae ?_))
  have hvl:=jn (eD l 64) s hs i
  have hkl:shaK.length=64:=rfl
  have hsl:=gO l 64
  refine aC rfl (fun h=>?_) (fun h=>?_)
  ·refine aA (a7 (ae (au (zSR (zm rfl (za rfl (a8 (a7 (ae ?_)))))))))
   have hob3:∃q,n=q+1:=⟨n-1,by omega⟩
   obtain⟨n,rfl⟩:=hob3
   refine aO bG (.pure 0 (.read 1 (.pure 2 (.read 3 (.pure 4 (.pure 5 .nil)))))) (by kernel_rfl) ?_
   refine aj rfl rfl rfl (fun _=>(bP 0 eJ I25 rfl rfl rfl (by decide))) ?_
   refine aX rfl rfl rfl bK rfl rfl (hb7.c (getD_some (d:=0) (by omega)) rfl rfl) ?_
   refine aj rfl rfl rfl (fun _=>(bP 4 eJ I25 rfl rfl rfl (by decide))) ?_
   refine aX rfl rfl rfl bK rfl rfl (hb7.c (getD_some (d:=0) (by omega)) rfl rfl) ?_
   refine ya rfl rfl rfl ?_
   refine ya rfl rfl rfl ?_
   refine zPR (zm rfl (ah rfl sd (gR _ _ 6 rfl _) ?_))
   rintro _ _ ⟨rfl,rfl⟩
   refine zm rfl (ah rfl sd (gR _ _ 11 rfl _) ?_)
   rintro _ _ ⟨rfl,rfl⟩
   refine a6 rfl (eb rfl rfl) (zm rfl ?_)
   refine ah rfl sd (gR _ _ 25 rfl _) ?_
   rintro _ _ ⟨rfl,rfl⟩
   refine a6 rfl (eb rfl rfl) (za rfl ?_)
   refine a8 (a7 (ae (aO bG (.pure 0 (.read 1 (.pure 2 (.pure 3 (.pure 4 (.pure 5 (.read 6 (.pure 7 (.pure 8 (.pure 9 (.pure 10 (.read 11 (.pure 12 (.pure 13 (.pure 14 (.pure 15 (.pure 16 (.read 17 (.pure 18 (.pure 19 (.pure 20 (.read 21 (.pure 22 (.pure 23 .nil)))))))))))))))))))))))) (by kernel_rfl) ?_)))
   refine aj rfl rfl rfl (fun _=>(bP 7 eJ I25 rfl rfl rfl (by decide))) ?_
   refine aX rfl rfl rfl bK rfl rfl (hb7.c (getD_some (d:=0) (by omega)) rfl rfl) ?_
   refine ym rfl rfl rfl ?_
   refine aj rfl rfl rfl (fun _=>(cQ rfl rfl)) ?_
   refine ym rfl rfl rfl ?_
   refine aj rfl rfl rfl (fun _=>(bP 5 eJ I25 rfl rfl rfl (by decide))) ?_
   refine aX rfl rfl rfl bK rfl rfl (hb7.c (getD_some (d:=0) (by omega)) rfl rfl) ?_
   refine aj rfl rfl rfl (fun _=>(kj rfl rfl)) ?_
   refine ym rfl rfl rfl ?_
   refine aj rfl rfl rfl (fun _=>(AM rfl)) ?_
   refine aj rfl rfl rfl (fun _=>(bP 6 eJ I25 rfl rfl rfl (by decide))) ?_
   refine aX rfl rfl rfl bK rfl rfl (hb7.c (getD_some (d:=0) (by omega)) rfl rfl) ?_
   refine aj rfl rfl rfl (fun _=>(kj rfl rfl)) ?_
   refine aj rfl rfl rfl (fun _=>(eb rfl rfl)) ?_
   refine aj rfl rfl rfl (fun _=>(cQ rfl rfl)) ?_
   refine ym rfl rfl rfl ?_
   refine aj rfl rfl rfl (fun _=>bP (i) jY I25 rfl rfl (by first | rfl | omega) (by first | assumption | omega)) ?_
   refine aX rfl rfl rfl bK rfl rfl ((h8a.nb hc3 (by omega)).c (getD_some (d:=0) (by omega)) rfl rfl) ?_
   refine aj rfl rfl rfl (fun _=>(cQ rfl rfl)) ?_
   refine ym rfl rfl rfl ?_
   refine aj rfl rfl rfl (fun _=>bP (i) jY I25 rfl rfl (by first | rfl | omega) (by first | assumption | omega)) ?_
   refine aX rfl rfl rfl bK rfl rfl ((h7a.nb hc3 (by omega)).c (getD_some (d:=0) (by omega)) rfl rfl) ?_
   refine aj rfl rfl rfl (fun _=>(cQ rfl rfl)) ?_
   refine ya rfl rfl rfl ?_
   refine zPR (zm rfl (ah rfl sd (gR _ _ 2 rfl _) ?_))
   rintro _ _ ⟨rfl,rfl⟩
   refine zm rfl (ah rfl sd (gR _ _ 13 rfl _) ?_)
   rintro _ _ ⟨rfl,rfl⟩
   refine a6 rfl (eb rfl rfl) (zm rfl ?_)
   refine ah rfl sd (gR _ _ 22 rfl _) ?_
   rintro _ _ ⟨rfl,rfl⟩
   refine a6 rfl (eb rfl rfl) (za rfl ?_)
   refine zNR (zm rfl (zm rfl (a6 rfl (bP 1 eJ I25 rfl rfl rfl (by decide)) ?_)))
   refine a6 rfl (az bK rfl rfl (hb7.c (getD_some (d:=0) (by omega)) rfl rfl)) ?_
   refine a6 rfl (kj rfl rfl) (zm rfl (a6 rfl (bP 2 eJ I25 rfl rfl rfl (by decide)) ?_))
   refine a6 rfl (az bK rfl rfl (hb7.c (getD_some (d:=0) (by omega)) rfl rfl)) ?_
   refine a6 rfl (kj rfl rfl) (a6 rfl (eb rfl rfl) (a6 rfl (bP 1 eJ I25 rfl rfl rfl (by decide)) ?_))
   refine a6 rfl (az bK rfl rfl (hb7.c (getD_some (d:=0) (by omega)) rfl rfl)) ?_
   refine a6 rfl (bP 2 eJ I25 rfl rfl rfl (by decide)) ?_
   refine a6 rfl (az bK rfl rfl (hb7.c (getD_some (d:=0) (by omega)) rfl rfl)) ?_
   refine a6 rfl (kj rfl rfl) (a6 rfl (eb rfl rfl) (a6 rfl (cQ rfl rfl) (za rfl ?_)))
   refine a8 (a7 (al (zm rfl (zm rfl (a6 rfl (cQ rfl rfl) (zm rfl (a6 rfl (bP 1 eJ I25 rfl rfl rfl (by decide)) ?_)))))))
   refine a6 rfl (az bK rfl rfl (hb7.c (getD_some (d:=0) (by omega)) rfl rfl)) ?_
   refine a6 rfl (bP 2 eJ I25 rfl rfl rfl (by decide)) ?_
   refine a6 rfl (az bK rfl rfl (hb7.c (getD_some (d:=0) (by omega)) rfl rfl)) ?_
   refine a6 rfl (bP 3 eJ I25 rfl rfl rfl (by decide)) ?_
   refine a6 rfl (az bK rfl rfl (hb7.c (getD_some (d:=0) (by omega)) rfl rfl)) ?_
   refine zm rfl (a6 rfl (cQ rfl rfl) (zm rfl (a6 rfl (bP 5 eJ I25 rfl rfl rfl (by decide)) ?_)))
   refine a6 rfl (az bK rfl rfl (hb7.c (getD_some (d:=0) (by omega)) rfl rfl)) ?_
   refine a6 rfl (bP 6 eJ I25 rfl rfl rfl (by decide)) ?_
   refine a6 rfl (az bK rfl rfl (hb7.c (getD_some (d:=0) (by omega)) rfl rfl)) ?_
   refine a6 rfl (iI (List.replicate 8 (0:UInt32)) ((mM (eD l 64) (dY (eD l 64) s i) i).zipIdx.map fun x=>(x.2,x.1)) (l:=mM (eD l 64) (dY (eD l 64) s i) i) eJ hZ rfl I25 rfl rfl rfl rfl rfl) ?_
   refine aH rfl (bl 8 hZ rfl (hb7) rfl rfl (hvl) (rfl)) ?_
   rintro w5 ⟨ha5,hc5,hs5⟩
   refine a8 (aB (a7 (al (a6 rfl (aD rfl rfl (by omega)) (zm rfl ?_)))))
   refine a8 (a7 (Exists.intro (n) (And.intro (by omega) ?_)))
   refine⟨i+1,aw (bB rfl) bF,by omega,?_,hc3.tr hc5⟩
   rw[kq]; exact ha5
  ·refine aP (aq (aq (aE (a7 (ae (zSR (zm rfl (a8 (a7 (au ?_))))))))))
   have hob4:i=64:=by omega
   obtain rfl:=hob4
   refine bO [102] [15,102,103,104,105,106,107,108,109,110,111,112,113] (fun n vs w'=>∃i:Nat,vs=[.int .i64 i]∧i+n=8∧Arr w' b9 (gN s (dY (eD l 64) s 64) i)∧Chg [b9] wa w') (8) (by kernel_rfl) ?_ ?_
   ·exact⟨0,rfl,rfl,by rw[tK]; exact hb7,hc3⟩
   ·rintro n vs J w4 ⟨i,rfl,hi,hb8,hc4⟩
    refine zSR (a6 rfl (bz rfl rfl) ?_)
    refine a8 (a7 (ae ?_))
    have hvl2:=(kx s (dY (eD l 64) s 64) i).trans hvl
    refine aC rfl (fun h2=>?_) (fun h2=>?_)
    ·refine aA (a7 (ae (au (zSR (zm rfl (za rfl (a8 (a7 ?_))))))))
     have hob5:∃q,n=q+1:=⟨n-1,by omega⟩
     obtain⟨n,rfl⟩:=hob5
     refine aO bG (.pure 0 (.pure 1 (.read 2 (.pure 3 (.pure 4 (.read 5 (.pure 6 (.pure 7 (.eff 8 [] .nil))))))))) (by kernel_rfl) ?_
     refine ym rfl rfl rfl ?_
     refine aj rfl rfl rfl (fun _=>bP (i) eJ I25 rfl rfl (by first | rfl | omega) (by first | assumption | omega)) ?_
     refine aX rfl rfl rfl bK rfl rfl (hb8.c (getD_some (d:=0) (by omega)) rfl rfl) ?_
     refine ym rfl rfl rfl ?_
     refine aj rfl rfl rfl (fun _=>bP (i) eJ I25 rfl rfl (by first | rfl | omega) (by first | assumption | omega)) ?_
     refine aX rfl rfl rfl bK rfl rfl ((h1a.nb hc4 (by omega)).c (getD_some (d:=0) (by omega)) rfl rfl) ?_
     refine aj rfl rfl rfl (fun _=>(cQ rfl rfl)) ?_
     refine aj rfl rfl rfl (fun _=>bP (i) eJ I25 rfl rfl (by first | rfl | omega) (by first | assumption | omega)) ?_
     refine cB rfl rfl rfl (fc (a:=_) (k:=i) I25 rfl rfl rfl rfl (hb8) rfl (by first | assumption | omega)) ?_
     rintro w5 ⟨ha5,hc5,hs5⟩
     refine⟨trivial,?_⟩
     refine aQ (aB (a7 (al (a6 rfl (aD rfl rfl (by omega)) (zm rfl ?_)))))
     refine a8 (a7 (Exists.intro (n) (And.intro (by omega) ?_)))
     refine⟨i+1,aw (bB rfl) bF,by omega,?_,hc4.tr hc5⟩
     rw[mN]; exact ha5
    ·refine aP (aq (aq (aE (a7 (ae (al ?_))))))
     have hob6:i=8:=by omega
     obtain rfl:=hob6
     refine a6 rfl (cF 8 eJ rfl hZ rfl rfl (hb8) (by first | assumption | rfl | (simp <;> omega))) ?_
     refine aH rfl (bl 8 hZ rfl (h2a.nb hc4 (by omega)) rfl rfl (by first | assumption | rfl | (simp <;> omega)) (by first | assumption | rfl | (simp <;> omega))) ?_
     rintro w5 ⟨ha5,hc5,hs5⟩
     refine a8 (a7 (bQ (cE ?_)))
     refine⟨[bT (ir s l)],⟨⟨_,rfl,cV 8 eJ rfl hZ rfl (by rw[uS]; exact ha5) (gu _ _ hs)⟩,trivial⟩,rfl,?_⟩
     exact(hcw.t1 hc4 (by omega)).t1 hc5 (by omega)
theorem Clip_ok(v:Value)(l:List UInt8)(w:World)(hv:Own w v l) :
  Ret Tryz.prog 275 #[v] w fun v' w'=>Own w v' l∧ar v'=ar v∧w=w':=by
 obtain⟨p,c,rfl,hc,hp⟩:=id hv
 refine enter [2] Tryz.func275 rfl rfl (Nat.le_of_ble_eq_true rfl) ?_
 refine zSR (za rfl (zNR (zm rfl (zm rfl (a6 rfl (ax rfl aR) (zm rfl (a6 rfl (ax rfl aR) ?_)))))))
 refine bg rfl (x_clip aR I5 rfl hv rfl rfl hc) ?_
 rintro v1 ⟨ho1,hb1⟩
 refine za rfl (a8 (a7 (zrf ?_)))
 exact⟨ho1,hb1,rfl⟩
theorem CQ(v:Value)(l:List UInt8)(w:World)(hv:Sl w v l)(hl:l.length≤1000000000) :
  Ret Tryz.prog 287 #[v] w fun v' w'=>Own w' v' l∧Chg [] w w'∧In v' [] w.heap.size:=by
 obtain⟨p,c,rfl,hc,hp⟩:=id hv
 refine enter [2] Tryz.func287 rfl rfl (Nat.le_of_ble_eq_true rfl) ?_
 refine zSR (za rfl (a8 (a7 (ae (zSR (zm rfl (a6 rfl (iH (p:=p) (q:=none) aR rfl rfl (.inr rfl)) ?_)))))))
 refine a8 (a7 (aC rfl (fun h=>?_) (fun h=>?_)))
 ·refine zSR (za rfl (a8 (a7 (zrt ?_))))
  subst h
  simp only at hp
  subst hp
  exact⟨Own.nil _,Chg.refl _,In.nil⟩
 ·refine zKR (aS rfl (tB [] ([]:List UInt8) aR I5 rfl rfl rfl rfl rfl rfl (by decide)) ?_)
  rintro v1 w1 ⟨ho1,hc1,hi1⟩
  refine zm rfl (bJ aR aR I5 (.inr ⟨_,rfl⟩) rfl rfl rfl (by decide) rfl (ho1) ((hv.mod0 hc1).src) rfl rfl (by simp; omega) ?_)
  rintro v2 w2 ⟨ho2,hc2,hi2⟩
  refine za rfl (a8 (a7 (zrf ?_)))
  exact⟨ho2,hc1.t0 hc2 hi1.ge,hi2.mono (fun b hb => .inr (hi1.ge b hb)) hc1.1⟩
def HashAt(w0 w:World)(b:Nat)(all:List UInt8):Prop :=
 Chg [] w0 w∧w0.heap.size≤b∧∃rv,Blk w b (aV (dJ all)++[rv,.int .i64 all.length])∧Own w rv (dT all)∧∀x∈ar rv,w0.heap.size≤x∧x≠b
theorem HashAt.lt{w0 w:World}{b:Nat}{all:List UInt8}(h:HashAt w0 w b all):b<w.heap.size:=by
 obtain⟨_,_,_,h,_⟩:=h; exact h.lt
theorem HashAt.chg0{w0 w w':World}{b:Nat}{all:List UInt8}(h:HashAt w0 w b all)(hm:Chg [] w w'):HashAt w0 w' b all:=by
 obtain⟨h1,h2,rv,h3,h4,h5⟩:=h
 exact⟨h1.tr hm,h2,rv,h3.chg0 hm,h4.mod0 hm,h5⟩
theorem CG(w:World) :
  Ret Tryz.prog 260 #[] w fun v w'=>∃b,v = .pointer (some ⟨b,0,none⟩)∧HashAt w w' b []:=by
 refine enter [0] Tryz.func260 rfl rfl (Nat.le_of_ble_eq_true rfl) ?_
 refine zSR (za rfl (zNR (ah rfl C274 (Ci w) ?_)))
 rintro _ w1 ⟨rfl,hc1⟩
 refine a6 rfl (bN j6 I348 rfl (zs:=aV (List.replicate 8 (0:UInt32))++[.slice none 0 0,.int .i64 0]) rfl rfl (bZ (l:=aV shaFirst) rfl rfl rfl (by decide) (ej (cs':=aV shaFirst++[.slice none 0 0,.int .i64 0]) rfl))) ?_
 refine aS rfl (cg rfl rfl) ?_
 rintro _ w2 ⟨b,rfl,hb,hB,hc2,hl⟩
 refine za rfl (a8 (a7 (zrf ?_)))
 refine⟨b,rfl,hc1.tr hc2,Nat.le_trans hc1.1 hb,.slice none 0 0,?_,?_,fun x hx=>by simp[ar] at hx⟩
 ·rw[uM]; exact hB
 ·rw[x7]; exact Own.nil _
section
variable {s s':List UInt32}{u u' v v':Value}
theorem u6(h:s.length=8):(aV s++[u,v]).length=10:=by simp[aK,h]; rfl
theorem oK(h:s.length=8):(aV s).length=8:=by rw[aK,h]; rfl
theorem Cb(h:s.length=8):(aV s++[u,v])[8]?=some u:=CA (i:=0) (by rw[oK h]) rfl
theorem hc_9(h:s.length=8):(aV s++[u,v])[9]?=some v:=CA (i:=1) (by rw[oK h]) rfl
theorem hc_s(h:s.length=8)(h':s'.length=8):spl (aV s++[u,v]) 0 (aV s')=aV s'++[u,v]:=zz (by rw[oK h,oK h'])
theorem hc_s8(h:s.length=8):spl (aV s++[u,v]) 8 [u']=aV s++[u',v]:=Be (r:=[v]) (oK h).symm
theorem hc_s9(h:s.length=8):spl (aV s++[u,v]) 9 [v']=aV s++[u,v']:=by
 have:=Be (a:=aV s++[u]) (x:=v) (x':=v') (r:=[]) (k:=9) (by simp[oK h])
 simpa using this
end
theorem nF(w0 w:World)(b:Nat)(all m:List UInt8)(bv:Value)(hh:HashAt w0 w b all)(hm:Sl w bv m)(hb:b∉ar bv)(hl:all.length+m.length≤1000000000) :
  Ret Tryz.prog 261 #[.pointer (some ⟨b,0,none⟩),bv] w fun v w'=>HashAt w0 w' b (all++m):=by
 obtain⟨hc0,hb0,rv,hB,hO,hx⟩:=hh
 obtain⟨mp,mc,rfl,_,_⟩:=id hm
 have hsl:=iM all
 refine enter [] Tryz.func261 rfl rfl (Nat.le_of_ble_eq_true rfl) ?_
 refine zSR (zm rfl (zn rfl rfl (a6 rfl (aa j6 rfl I3 rfl rfl) ?_)))
 refine a6 rfl (az uU3 rfl rfl (hB.c (hc_9 hsl))) ?_
 refine zm rfl (a6 rfl (ax rfl aR) (a6 rfl (aD rfl rfl (by omega)) (zn rfl rfl (a6 rfl (aa j6 rfl I3 rfl rfl) ?_))))
 refine aH rfl (bD I3 rfl rfl (hB) rfl rfl (show 9<_ by rw[u6 hsl]; decide) rfl (hc_s9 hsl)) ?_
 rintro w1 ⟨hB1,hc1,hs1⟩
 refine zNR (zm rfl (zm rfl (zn rfl rfl (a6 rfl (aa j6 rfl I45 rfl rfl) ?_))))
 refine a6 rfl (az aR rfl rfl (hB1.c (Cb hsl))) ?_
 refine ah rfl C275 (Clip_ok rv _ w1 (hO.mod hc1 (nb1 fun h=>(hx _ h).2 rfl))) ?_
 rintro v2 _ ⟨ho2,hb2,rfl⟩
 refine zm rfl (bJ aR aR I5 (.inr ⟨_,rfl⟩) rfl rfl rfl (by decide) rfl (ho2) ((hm.mod hc1 (nb1 hb)).src) rfl rfl (by rw[fT]; omega) ?_)
 rintro v3 w3 ⟨ho3,hc3,hi3⟩
 refine zn rfl rfl (a6 rfl (aa j6 rfl I45 rfl rfl) ?_)
 have hbn:b∉ar v2:=by rw[hb2]; exact fun h=>(hx b h).2 rfl
 have hB3:=hB1.chg hc3 hbn
 have hlt1:=hB1.lt
 obtain⟨p3,c3,rfl,hc3',hp3⟩:=id ho3
 refine aH rfl (bD I45 rfl rfl (hB3) rfl rfl (show 8<_ by rw[u6 hsl]; decide) rfl (hc_s8 hsl)) ?_
 rintro w4 ⟨hB4,hc4,hs4⟩
 refine a8 (a7 (au ?_))
 have hx3:∀x∈ar (.slice p3 (dT all++m).length c3),w0.heap.size≤x∧x≠b:=by
  intro x hx'
  rcases hi3 x hx' with h | h
  ·rw[hb2] at h; exact hx x h
  ·have:=hc0.1; omega
 generalize htot:dT all++m=tot at *
 have hto:tot.length=all.length % 64+m.length:=by rw[←htot,List.length_append,fT]
 refine bO [] [23,24,25,26,27,28,29,30,31,32,33,34,35,36,37,38,39,40,41,42,43,44,45,46,47,48,49] (fun n vs w'=>∃(k:Nat) (p:Option Addr) (c:Nat),vs=[]∧k+n=tot.length / 64∧Blk w' b (aV (cZ k (dJ all) tot)++[.slice p (tot.drop (64*k)).length c,.int .i64 (all.length+m.length)])∧Own w' (.slice p (tot.drop (64*k)).length c) (tot.drop (64*k))∧(∀x∈ar (.slice p (tot.drop (64*k)).length c),w0.heap.size≤x∧x≠b)∧Chg [] w0 w') (tot.length / 64) (by kernel_rfl) ?_ ?_
 ·refine⟨0,p3,c3,rfl,by omega,by rw[oS]; exact hB4,ho3.mod hc4 ?_,hx3,?_⟩
  ·exact nb1 fun h=>(hx3 _ h).2 rfl
  ·exact((hc0.t1 hc1 hb0).t0 hc3 (by rw[hb2]; exact fun x h=>(hx x h).1)).t1 hc4 hb0
 ·rintro n vs J w5 ⟨k,p,c,rfl,hk,hB5,hO5,hx5,hc5⟩
  refine ae (zSR (zm rfl (zn rfl rfl (a6 rfl (aa j6 rfl I45 rfl rfl) ?_))))
  have hdl:(tot.drop (64*k)).length=tot.length-64*k:=List.length_drop
  have hal:=gP k (dJ all) tot hsl
  refine a6 rfl (az aR rfl rfl (hB5.c (Cb hal))) ?_
  refine a6 rfl (ax rfl aR) (a6 rfl (j5 rfl rfl) ?_)
  refine a8 (a7 (aC rfl (fun h=>?_) (fun h=>?_)))
  ·refine aA (a7 (au (ae ?_)))
   have hob7:∃q,n=q+1:=⟨n-1,by omega⟩
   obtain⟨n,rfl⟩:=hob7
   refine aO bG (.pure 0 (.pure 1 (.pure 2 (.pure 3 (.read 4 (.pure 5 (.pure 6 (.pure 7 (.read 8 (.pure 9 (.eff 10 [] (.pure 11 (.pure 12 (.eff 13 [] .nil)))))))))))))) (by kernel_rfl) ?_
   refine ym rfl rfl rfl ?_
   refine ym rfl rfl rfl ?_
   refine yn rfl rfl rfl rfl ?_
   refine aj rfl rfl rfl (fun _=>(aa j6 rfl hZ rfl rfl)) ?_
   refine mD 8 rfl rfl rfl eJ rfl hZ rfl (hB5.at jz) (hal) rfl ?_
   refine ym rfl rfl rfl ?_
   refine yn rfl rfl rfl rfl ?_
   refine aj rfl rfl rfl (fun _=>(aa j6 rfl I45 rfl rfl)) ?_
   refine aX rfl rfl rfl aR rfl rfl (hB5.c (Cb hal)) ?_
   refine bA rfl rfl rfl (gm 64 aR I5 hO5.sl rfl rfl rfl (by omega)) ?_
   rintro _ ⟨⟨p1,c1,rfl⟩,hs1,hbl1⟩
   refine aG rfl rfl rfl C276 (yA _ hal _ _ _ hs1 (by rw[List.length_take]; omega)) ?_
   rintro _ w6 ⟨rfl,hc6⟩
   refine⟨trivial,?_⟩
   refine yn rfl rfl rfl rfl ?_
   refine aj rfl rfl rfl (fun _=>(aa j6 rfl hZ rfl rfl)) ?_
   have hc6:Chg [] w5 w6:=hc6
   have hnl:=gu (cZ k (dJ all) tot) ((tot.drop (64*k)).take 64) hal
   refine cB rfl rfl rfl (cz (l:=aV (ir (cZ k (dJ all) tot) ((tot.drop (64*k)).take 64))) hZ rfl rfl (hB5.chg0 hc6) rfl (by rw[oK hnl]; rfl) (by rw[oK hnl,u6 hal]; decide) (eT _) (hc_s hal hnl)) ?_
   rintro w7 ⟨hB7,hc7,hs7⟩
   refine⟨trivial,?_⟩
   refine aQ (a7 (al (zm rfl (zm rfl (zn rfl rfl (a6 rfl (aa j6 rfl I45 rfl rfl) ?_))))))
   have hO7:=(hO5.mod0 hc6).mod hc7 (nb1 fun h=>(hx5 _ h).2 rfl)
   refine a6 rfl (az aR rfl rfl (hB7.c (Cb hnl))) ?_
   refine bg rfl (x_fromO 64 aR I5 rfl hO7 rfl rfl rfl (by omega)) ?_
   rintro _ ⟨⟨p2,c2,rfl⟩,ho2,hbl2⟩
   refine zn rfl rfl (a6 rfl (aa j6 rfl I45 rfl rfl) ?_)
   refine aH rfl (bD I45 rfl rfl (hB7) rfl rfl (show 8<_ by rw[u6 hnl]; decide) rfl (hc_s8 hnl)) ?_
   rintro w8 ⟨hB8,hc8,hs8⟩
   refine a8 (aB (a7 (Exists.intro (n) (And.intro (by omega) ?_))))
   have hd2:(tot.drop (64*k)).drop 64=tot.drop (64*(k+1)):=by rw[List.drop_drop,show 64*k+64=64*(k+1) from by omega]
   have hd3:(tot.drop (64*k)).length-64=(tot.drop (64*(k+1))).length:=by rw[hdl,List.length_drop]; omega
   rw[hd2] at ho2
   rw[hd3] at ho2 hbl2
   have hx7:∀x∈ar (.slice p2 (tot.drop (64*(k+1))).length c2),w0.heap.size≤x∧x≠b:=by rw[hbl2]; exact hx5
   refine⟨k+1,p2,c2,rfl,by omega,?_,ho2.mod hc8 (nb1 fun h=>(hx7 _ h).2 rfl),hx7,((hc5.tr hc6).t1 hc7 hb0).t1 hc8 hb0⟩
   rw[oT,←hd3]; exact hB8
  ·refine aP (aq (aq (aE (jP ?_))))
   have hob8:n=0:=by omega
   obtain rfl:=hob8
   have h1:cZ k (dJ all) tot=dJ (all++m):=by rw[sH,htot]; congr 1
   have h2:tot.drop (64*k)=dT (all++m):=by rw[Bq,htot]; congr 2
   rw[h1] at hB5
   rw[h2] at hO5 hx5
   refine⟨hc5,hb0,_,?_,hO5,hx5⟩
   rw[List.length_append,←h2]; exact hB5
theorem sM(w0 w:World)(b:Nat)(all:List UInt8)(hh:HashAt w0 w b all)(hl:all.length≤1000000000) :
  Ret Tryz.prog 277 #[.pointer (some ⟨b,0,none⟩)] w fun v w'=>Own w' v (dT all++gZ all.length)∧Chg [] w w'∧In v [] w.heap.size:=by
 obtain⟨hc0,hb0,rv,hB,hO,hx⟩:=hh
 have hsl:=iM all
 have hrl:=fT all
 refine enter [2] Tryz.func277 rfl rfl (Nat.le_of_ble_eq_true rfl) ?_
 refine zSR (za rfl (zNR (zm rfl (zn rfl rfl (a6 rfl (aa j6 rfl I45 rfl rfl) ?_)))))
 refine a6 rfl (az aR rfl rfl (hB.c (Cb hsl))) ?_
 refine ah rfl C287 (CQ rv _ w hO.sl (by omega)) ?_
 rintro v1 w1 ⟨ho1,hc1,hi1⟩
 refine gp ((0x80:UInt8)) aR I5 rfl rfl rfl (by decide) (by decide) rfl rfl rfl rfl (ho1) (fun _=>rfl) (by omega) ?_
 rintro s1 v2 w2 ⟨ho2,hc2,hi2⟩
 refine za rfl (a8 (a7 (ae (au ?_))))
 have hc12:=hc1.t0 hc2 hi1.ge
 have hi12:In v2 [] w.heap.size:=hi2.mono (fun b hb => .inr (hi1.ge b hb)) hc1.1
 have hn2:(dT all++[0x80]).length=all.length % 64+1:=by rw[List.length_append,hrl]; rfl
 have hob9:=ho2.form hn2
 obtain⟨p2,c2,rfl⟩:=hob9
 have hz:sg all.length=(119-all.length % 64) % 64:=rfl
 refine bO [3] [3,11,12,13,14,15,16,17] (fun n vs w'=>∃(k:Nat) (p:Option Addr) (c:Nat),vs=[.slice p (all.length % 64+1+k) c]∧k+n=sg all.length∧Own w' (.slice p (all.length % 64+1+k) c) (dT all++[0x80]++List.replicate k 0)∧Chg [] w w'∧In (.slice p (all.length % 64+1+k) c) [] w.heap.size) (sg all.length) (by kernel_rfl) ?_ ?_
 ·exact⟨0,p2,c2,rfl,by omega,by simpa using ho2,hc12,hi12⟩
 ·rintro n vs J w3 ⟨k,p,c,rfl,hk,ho3,hc3,hi3⟩
  refine ae (zSR (zm rfl (a6 rfl (ax rfl aR) (a6 rfl (gK rfl rfl (by omega)) (a6 rfl (bL rfl rfl) ?_)))))
  refine a8 (a7 ?_)
  have hkl:(dT all++[0x80]++List.replicate k 0).length=all.length % 64+1+k:=by rw[List.length_append,hn2,List.length_replicate]
  refine aC rfl (fun h=>?_) (fun h=>?_)
  ·refine aA (a7 (au (al (zm rfl ?_))))
   have hob10:∃q,n=q+1:=⟨n-1,by omega⟩
   obtain⟨n,rfl⟩:=hob10
   refine gp ((0:UInt8)) aR I5 rfl rfl rfl (by decide) (by decide) rfl rfl rfl rfl (ho3) (fun _=>rfl) (by omega) ?_
   rintro s4 v4 w4 ⟨ho4,hc4,hi4⟩
   refine za rfl (a8 (aB (a7 ?_)))
   rw[List.append_assoc,←List.replicate_succ'] at ho4
   have hc4:Chg [] w w4:=hc3.t0 hc4 hi3.ge
   have hi4:In v4 [] w.heap.size:=hi4.mono (fun b hb => .inr (hi3.ge b hb)) hc3.1
   have hob11:=ho4.form (n:=all.length % 64+1+(k+1)) (by rw[List.length_append,hn2,List.length_replicate])
   obtain⟨p4,c4,rfl⟩:=hob11
   refine Exists.intro (n) (And.intro (by omega) ?_)
   exact⟨k+1,p4,c4,rfl,by omega,ho4,hc4,hi4⟩
  ·refine aP (aq (aq (aE (a7 (zSR (zm rfl (zm rfl (zn rfl rfl (a6 rfl (aa j6 rfl I3 rfl rfl) ?_)))))))))
   have hk0:k=sg all.length:=by omega
   refine a6 rfl (az uU3 rfl rfl ((hB.chg0 hc3).c (hc_9 hsl))) ?_
   refine a6 rfl (cP rfl uU3 dV) (a6 rfl (AG (b:=8) rfl rfl) ?_)
   have h8:(cW (all.length:Int)*8).toNat=all.length*8:=by
    rw[dX,UInt64.toNat_mul,UInt64.toNat_ofNat']
    show all.length % 18446744073709551616*8 % 18446744073709551616=_
    omega
   refine ah rfl lp (fP _ _ (cW (all.length:Int)*8) 8 w3 ho3 (by decide) (by omega)) ?_
   rintro v5 w5 ⟨ho5,hc5,hi5⟩
   refine za rfl (a8 (a7 (zrf ?_)))
   refine⟨?_,hc3.t0 hc5 hi3.ge,hi5.mono (fun b hb => .inr (hi3.ge b hb)) hc3.1⟩
   have he:dT all++[0x80]++List.replicate k 0++be 8 (cW (all.length:Int)*8).toNat=dT all++gZ all.length:=by
    rw[h8,hk0,gZ]; simp
   rw[←he]; exact ho5
theorem zg(w0 w:World)(b:Nat)(all:List UInt8)(hh:HashAt w0 w b all)(hl:all.length≤1000000000) :
  Ret Tryz.prog 263 #[.pointer (some ⟨b,0,none⟩)] w fun v w'=>v=bT (iN all)∧Chg [] w w':=by
 obtain⟨hc0,hb0,rv,hB,hO,hx⟩:=id hh
 have hsl:=iM all
 have hrl:=fT all
 refine et [.cell 2 62] Tryz.func263 rfl rfl (Nat.le_of_ble_eq_true rfl) ?_
 refine ae (al ?_)
 generalize htot:dT all++gZ all.length=tot
 have htl:tot.length % 64=0:=by
  rw[←htot,List.length_append,hrl]
  have:=xg all.length
  omega
 refine aJ (List.replicate 32 (0:UInt8)) I62 rfl rfl rfl ?_
 rintro w1 b1 hn1 ha1 hc1 hl1
 refine a8 (a7 ?_)
 have hh1:HashAt w0 w1 b all:=hh.chg0 hc1
 refine gL [3,4] [3,4,9,10,11,12,13,14] (fun vs w'=>∃(b3:Nat) (p4:Option Addr) (c4:Nat),vs=[.pointer (some ⟨b3,0,none⟩),.slice p4 tot.length c4]∧w1.heap.size≤b3∧Arr w' b3 (dJ all)∧Sl w' (.slice p4 tot.length c4) tot∧Chg [] w1 w'∧b3∉ar (.slice p4 tot.length c4)) (by kernel_rfl) ?_ ?_
 ·refine aO bG (.pure 0 (.pure 1 (.pure 2 (.read 3 (.pure 4 (.alt (.eff 5 [3] (.eff 6 [3] (.eff 7 [] (.pure 8 .nil)))) (.eff 6 [3] (.eff 5 [3] (.eff 7 [] (.pure 8 .nil)))))))))) (by kernel_rfl) ?_
  refine ym rfl rfl rfl ?_
  refine yn rfl rfl rfl rfl ?_
  refine aj rfl rfl rfl (fun _=>(aa j6 rfl hZ rfl rfl)) ?_
  refine mD 8 rfl rfl rfl eJ rfl hZ rfl ((hB.chg0 hc1).at jz) (hsl) rfl ?_
  refine ym rfl rfl rfl ?_
  refine dH ?_ ?_
  ·refine aG rfl rfl rfl C277 (sM w0 _ b all hh1 hl) ?_
   rintro v2 w2 ⟨ho2,hc2,hi2⟩
   rw[htot] at ho2
   have hc2:Chg [] w1 w2:=hc2
   have hi2:In v2 [] w1.heap.size:=hi2
   refine⟨⟨((hB.chg0 hc1).chg0 hc2).at jz,trivial⟩,?_⟩
   refine bu rfl rfl rfl (qa (List.replicate 8 (0:UInt32)) hZ rfl rfl) ?_
   rintro _ w3 ⟨b3,rfl,hn3,ha3,hc3,hl3⟩
   refine⟨⟨(((hB.chg0 hc1).chg0 hc2).chg0 hc3).at jz,trivial⟩,?_⟩
   refine cB rfl rfl rfl (bl 8 hZ rfl (ha3) rfl rfl (rfl) (hsl)) ?_
   rintro w4 ⟨ha4,hc4,hs4⟩
   refine⟨trivial,?_⟩
   refine ya rfl rfl rfl ?_
   refine aQ (a7 ?_)
   have hob12:=ho2.form rfl
   obtain⟨p2,c2,rfl⟩:=hob12
   have hlt:=ho2.sl.lt
   have hb3:b3∉ar (.slice p2 tot.length c2):=fun h=>by have:=hlt _ h; omega
   exact⟨b3,p2,c2,rfl,Nat.le_trans hc2.1 hn3,ha4,((ho2.sl.mod0 hc3).mod hc4 (nb1 hb3)),(hc2.tr hc3).t1 hc4 (Nat.le_trans hc2.1 hn3),hb3⟩
  ·refine bu rfl rfl rfl (qa (List.replicate 8 (0:UInt32)) hZ rfl rfl) ?_
   rintro _ w2 ⟨b3,rfl,hn3,ha3,hc2,hl3⟩
   have hc2:Chg [] w1 w2:=hc2
   have hn3:w1.heap.size≤b3:=hn3
   refine⟨⟨((hB.chg0 hc1).chg0 hc2).at jz,trivial⟩,?_⟩
   refine aG rfl rfl rfl C277 (sM w0 w2 b all (hh1.chg0 hc2) hl) ?_
   rintro v2 w3 ⟨ho2,hc3,hi2⟩
   rw[htot] at ho2
   refine⟨⟨(((hB.chg0 hc1).chg0 hc2).chg0 hc3).at jz,trivial⟩,?_⟩
   refine cB rfl rfl rfl (bl 8 hZ rfl (ha3.chg0 hc3) rfl rfl (rfl) (hsl)) ?_
   rintro w4 ⟨ha4,hc4,hs4⟩
   refine⟨trivial,?_⟩
   refine ya rfl rfl rfl ?_
   refine aQ (a7 ?_)
   have hob13:=ho2.form rfl
   obtain⟨p2,c2,rfl⟩:=hob13
   have hb3:b3∉ar (.slice p2 tot.length c2):=fun h=>by have:=hi2.ge _ h; omega
   exact⟨b3,p2,c2,rfl,hn3,ha4,ho2.sl.mod hc4 (nb1 hb3),(hc2.tr hc3).t1 hc4 hn3,hb3⟩
 ·rintro vs J w4 ⟨b3,p4,c4,rfl,hb3,ha3,hs4,hc4,hb34⟩
  refine ae (au (bO [4] [4,15,16,17,18,19,20,21,22,23] (fun n vs w'=>∃(k:Nat) (p:Option Addr) (c:Nat),vs=[.slice p (tot.drop (64*k)).length c]∧k+n=tot.length / 64∧Arr w' b3 (cZ k (dJ all) tot)∧Sl w' (.slice p (tot.drop (64*k)).length c) (tot.drop (64*k))∧Chg [] w1 w'∧b3∉ar (.slice p (tot.drop (64*k)).length c)) (tot.length / 64) (by kernel_rfl) ?_ ?_))
  ·exact⟨0,p4,c4,rfl,by omega,by rw[oS]; exact ha3,hs4,hc4,hb34⟩
  ·rintro n vs J w5 ⟨k,p,c,rfl,hk,ha5,hs5,hc5,hb5⟩
   refine ae (zSR (zm rfl (a6 rfl (ax rfl aR) (a6 rfl (di rfl rfl) ?_))))
   refine a8 (a7 ?_)
   have hdl:(tot.drop (64*k)).length=tot.length-64*k:=List.length_drop
   have hal:=gP k (dJ all) tot hsl
   refine aC rfl (fun h=>?_) (fun h=>?_)
   ·refine aA (a7 (ae (au ?_)))
    have hob14:∃q,n=q+1:=⟨n-1,by omega⟩
    obtain⟨n,rfl⟩:=hob14
    refine aO bG (.read 0 (.pure 1 (.pure 2 (.eff 3 [] (.eff 4 [] .nil))))) (by kernel_rfl) ?_
    refine dR 8 rfl rfl rfl eJ rfl hZ rfl rfl (ha5) (hal) ?_
    refine ym rfl rfl rfl ?_
    refine bA rfl rfl rfl (gm 64 aR I5 hs5 rfl rfl rfl (by omega)) ?_
    rintro _ ⟨⟨p6,c6,rfl⟩,hs6,hbl6⟩
    refine aG rfl rfl rfl C276 (yA _ hal _ _ _ hs6 (by rw[List.length_take]; omega)) ?_
    rintro _ w6 ⟨rfl,hc6⟩
    refine⟨trivial,?_⟩
    have hc6:Chg [] w5 w6:=hc6
    have hnl:=gu (cZ k (dJ all) tot) ((tot.drop (64*k)).take 64) hal
    refine cB rfl rfl rfl (bl 8 hZ rfl (ha5.chg0 hc6) rfl rfl (hal) (hnl)) ?_
    rintro w7 ⟨ha7,hc7,hs7⟩
    refine⟨trivial,?_⟩
    refine aQ (aB (a7 (al (zm rfl (bg rfl (dF 64 aR I5 rfl ((hs5.mod0 hc6).mod hc7 (nb1 hb5)) rfl rfl rfl (by omega)) ?_)))))
    rintro _ ⟨⟨p8,c8,rfl⟩,hs8,hbl8⟩
    refine za rfl (a8 (a7 ?_))
    have hd2:(tot.drop (64*k)).drop 64=tot.drop (64*(k+1)):=by rw[List.drop_drop,show 64*k+64=64*(k+1) from by omega]
    have hd3:(tot.drop (64*k)).length-64=(tot.drop (64*(k+1))).length:=by rw[hdl,List.length_drop]; omega
    rw[hd2,hd3] at hs8
    rw[hd3] at hbl8
    rw[←oT] at ha7
    refine Exists.intro (n) (And.intro (by omega) ?_)
    refine⟨k+1,p8,c8,?_,by omega,ha7,hs8,(hc5.tr hc6).t1 hc7 hb3,by rw[hbl8]; exact hb5⟩
    rw[←hd3]; rfl
   ·refine aP (aq (aq (aE (a7 (ae (al ?_))))))
    have hob15:n=0:=by omega
    obtain rfl:=hob15
    have hfin:cZ k (dJ all) tot=cZ ((all++gZ all.length).length / 64) shaFirst (all++gZ all.length):=by
     rw[←Bb,htot]; congr 1
    generalize hst:cZ k (dJ all) tot=st at *
    have hsum:iN all=st.flatMap ez:=by rw[wX,←hfin]
    refine aJ (List.replicate 32 (0:UInt8)) I62 rfl rfl rfl ?_
    rintro w6 b6 hn6 ha6 hc6 hl6
    refine a8 (a7 (ae (zSR (a6 rfl (cF 8 eJ rfl hZ rfl rfl (ha5.chg0 hc6) (hal)) ?_))))
    refine zm rfl (a8 (a7 (au (bO [25] [6,7,8,25,26,27,28,29,30,31,32,33,34,35,36] (fun n vs w'=>∃i:Nat,vs=[.int .i64 i]∧i+n=8∧Arr w' b6 ((st.take i).flatMap ez++List.replicate (32-4*i) 0)∧Chg [] w5 w'∧b6<w'.heap.size) (8) (by kernel_rfl) ?_ ?_))))
    ·exact⟨0,rfl,rfl,ha6,hc6,hl6⟩
    ·rintro n vs J w7 ⟨i,rfl,hi,ha7,hc7,hl7⟩
     refine zSR (a6 rfl (bz rfl rfl) ?_)
     refine a8 (a7 (ae (aC rfl (fun h2=>?_) (fun h2=>?_))))
     ·refine aA (a7 (ae (au (zSR (zm rfl ?_)))))
      have hob16:∃q,n=q+1:=⟨n-1,by omega⟩
      obtain⟨n,rfl⟩:=hob16
      refine a6 rfl (wK (i) eJ bK rfl I25 rfl rfl rfl (by first | rfl | omega) (by first | assumption | omega) (getD_some (d:=0) (by omega)) rfl) ?_
      refine za rfl (za rfl (zNR (zm rfl (ah rfl C207 (tu _ w7) ?_))))
      rintro _ w8 ⟨rfl,hc8⟩
      refine aJ (List.replicate 4 (0:UInt8)) iY rfl rfl rfl ?_
      rintro w9 b9 hn9 ha9 hc9 hl9
      refine aH rfl (bl 4 iY rfl (ha9) rfl rfl (by first | assumption | rfl | (simp <;> omega)) (by first | assumption | rfl | (simp <;> omega))) ?_
      rintro wa ⟨haa,hca,hsa⟩
      refine a8 (a7 (aO bG (.pure 0 (.pure 1 (.pure 2 (.pure 3 (.eff 4 [] .nil))))) (by kernel_rfl) ?_))
      refine ym rfl rfl rfl ?_
      refine aj rfl rfl rfl (fun _=>(eW rfl rfl (by omega))) ?_
      refine aj rfl rfl rfl (fun _=>jE (4*i) oW I5 rfl rfl (by first | rfl | omega) (by omega)) ?_
      refine aj rfl rfl rfl (fun _=>bI gB I5 rfl) ?_
      refine bC rfl rfl rfl (ew (k:=4*i) aR I5 rfl rfl rfl rfl ((haa.sl (n:=4) (c:=4) rfl (by decide)).srcH rfl) (((ha7.chg0 hc8).chg0 hc9).nb hca (by have:=hc8.1; omega)) (by rw[List.length_append,ga,List.length_take,List.length_replicate]; omega)) ?_
      rintro wb ⟨hab,hcb,hsb⟩
      refine⟨trivial,?_⟩
      refine aQ (aB (a7 (al (a6 rfl (aD rfl rfl (by omega)) (zm rfl ?_)))))
      refine a8 (a7 ?_)
      have hcb:Chg [b6] wa wb:=hcb
      have hpl:(ez (st.getD i 0)).length=4:=rfl
      have htk:((st.take i).flatMap ez).length=4*i:=by rw[ga,List.length_take]; omega
      rw[hpl,Nat.min_eq_left (by omega),show(ez (st.getD i 0)).take 4=ez (st.getD i 0) from rfl,im htk.symm hpl.symm,List.drop_replicate] at hab
      refine Exists.intro (n) (And.intro (by omega) ?_)
      refine⟨i+1,aw (bB rfl) bF,by omega,?_,(((hc7.tr hc8).tr hc9).t1 hca (by have:=hc7.1; have:=hc8.1; omega)).t1 hcb (by omega),?_⟩
      ·rw[List.take_add_one,getD_some (d:=0) (by omega:i<st.length),List.flatMap_append,show 32-4*(i+1)=32-4*i-4 from by omega]
       simpa using hab
      ·have:=hcb.1; have:=hca.1; have:=hc9.1; have:=hc8.1; omega
     ·refine aP (aq (aq (aE (a7 (ae (al ?_))))))
      have hob17:i=8:=by omega
      obtain rfl:=hob17
      rw[List.take_of_length_le (by omega),show 32-4*8=0 from rfl,List.replicate_zero,List.append_nil,←hsum] at ha7
      refine a6 rfl (cF 32 oW rfl I62 rfl rfl (ha7) (dD _)) ?_
      refine aH rfl (bl 32 I62 rfl (((ha1.chg0 hc5).chg0 hc7)) rfl rfl (rfl) (dD _)) ?_
      rintro w8 ⟨ha8,hc8,hs8⟩
      refine a8 (a7 (bQ (cE ?_)))
      exact⟨[bT (iN all)],⟨⟨_,rfl,cV 32 oW rfl I62 rfl ha8 (dD _)⟩,trivial⟩,rfl,((hc1.tr hc5).tr hc7).t1 hc8 (by omega)⟩
end Go.Proofs.YtpbfapbajmdlkaaGreat

end
section
namespace Go.Proofs.YtpbfapbajmdlkaaGreat
open Go Go.Sac
set_option maxRecDepth 100000
set_option maxHeartbeats 4000000
theorem BE(kv:Value)(k:List UInt8)(c:UInt8)(w:World)(hk:Sl w kv k)(hl:k.length≤64) :
  Ret Tryz.prog 262 #[kv,.int .u8 c.toNat] w fun v w'=>Sl w' v (kJ k c)∧Chg [] w w'∧In v [] w.heap.size:=by
 refine enter [4] Tryz.func262 rfl rfl (Nat.le_of_ble_eq_true rfl) ?_
 refine zSR (za rfl (zNR (aJ (List.replicate 64 (0:UInt8)) wB rfl rfl rfl ?_)))
 rintro w1 b1 hn1 ha1 hc1 hl1
 refine zNR (a6 rfl (bI oz I5 rfl) ?_)
 refine zm rfl (dI rfl (ew (k:=0) aR I5 rfl rfl rfl rfl ((hk.mod0 hc1).src) (ha1) (by first | (simp; done) | omega)) ?_)
 rintro w2 ⟨ha2,hc2,hs2⟩
 refine a8 (a7 (ae (zSR (zm rfl (a8 (a7 (au ?_)))))))
 have hm:spl (List.replicate 64 (0:UInt8)) 0 (k.take (min k.length 64))=k++List.replicate (64-k.length) 0:=by
  rw[Nat.min_eq_left hl,List.take_of_length_le (Nat.le_refl _)]
  unfold spl
  rw[List.take_zero,List.nil_append,Nat.zero_add,List.drop_replicate]
 rw[hm] at ha2
 have hkl:(k++List.replicate (64-k.length) (0:UInt8)).length=64:=by simp; omega
 have hp:kJ k c=(k++List.replicate (64-k.length) (0:UInt8)).map (· ^^^ c):=rfl
 generalize k++List.replicate (64-k.length) (0:UInt8)=l at *
 refine bO [10] [6,10,11,12,13,14,15,16,17,18,19] (fun n vs w'=>∃i:Nat,vs=[.int .i64 i]∧i+n=64∧Arr w' b1 ((l.take i).map (· ^^^ c)++l.drop i)∧Chg [] w w') (64) (by kernel_rfl) ?_ ?_
 ·exact⟨0,rfl,rfl,by simpa using ha2,hc1.t1 hc2 hn1⟩
 ·rintro n vs J w3 ⟨i,rfl,hi,ha3,hc3⟩
  refine zSR (a6 rfl (bz rfl rfl) ?_)
  refine a8 (a7 (ae ?_))
  have hil:((l.take i).map (· ^^^ c)++l.drop i).length=64:=by simp; omega
  refine aC rfl (fun h=>?_) (fun h=>?_)
  ·refine aA (a7 (ae (au (zSR (zm rfl (za rfl (a8 (a7 (al (zm rfl ?_))))))))))
   have hob1:∃q,n=q+1:=⟨n-1,by omega⟩
   obtain⟨n,rfl⟩:=hob1
   refine a6 rfl (bP (i) oz I5 rfl rfl (by first | rfl | omega) (by first | assumption | omega)) ?_
   refine a6 rfl (az uU5 rfl rfl (ha3.c (map_at _ l i 0 (by omega)) rfl rfl)) ?_
   refine zm rfl (a6 rfl (y5 rfl rfl) ?_)
   refine a6 rfl (bP (i) oz I5 rfl rfl (by first | rfl | omega) (by first | assumption | omega)) ?_
   refine aH rfl (fc (a:=_) (k:=i) I5 rfl rfl rfl rfl (ha3) rfl (by first | assumption | omega)) ?_
   rintro w4 ⟨ha4,hc4,hs4⟩
   refine a8 (aB (a7 (al (a6 rfl (aD rfl rfl (by omega)) (zm rfl ?_)))))
   refine a8 (a7 (Exists.intro (n) (And.intro (by omega) ?_)))
   refine⟨i+1,aw (bB rfl) bF,by omega,?_,hc3.t1 hc4 hn1⟩
   rw[←BR _ l i 0 (by omega)]; exact ha4
  ·refine aP (aq (aq (aE (a7 (ae (al ?_))))))
   have hob2:i=64:=by omega
   obtain rfl:=hob2
   refine a6 rfl (bI oz I5 rfl) ?_
   refine za rfl (a8 (a7 (zrf ?_)))
   rw[List.take_of_length_le (by omega),List.drop_of_length_le (by omega),List.append_nil,←hp] at ha3
   refine⟨ha3.sl (by rw[hp]; simpa using hkl) (by decide),hc3,In.of_ge hn1⟩
theorem xY(kv mv:Value)(k m:List UInt8)(w:World)(hk:Sl w kv k)(hm:Sl w mv m)(hl:k.length≤64)(hml:m.length≤900000000) :
  Ret Tryz.prog 233 #[kv,mv] w fun v w'=>v=bT (lT k m)∧Chg [] w w':=by
 have hob3:=hk.form rfl
 obtain⟨kp,kc,rfl⟩:=hob3
 have hmlt:=hm.lt
 refine et [.cell 4 62] Tryz.func233 rfl rfl (Nat.le_of_ble_eq_true rfl) ?_
 refine zSR (aJ (List.replicate 32 (0:UInt8)) I62 rfl rfl rfl ?_)
 rintro w1 b1 hn1 ha1 hc1 hl1
 refine a8 (a7 (ae (zSR (zm rfl (a6 rfl (ax rfl aR) (a6 rfl (di rfl rfl) ?_))))))
 refine a8 (a7 (aF rfl (by omega) ?_))
 refine zKR (ah rfl C260 (CG w1) ?_)
 rintro _ w2 ⟨b6,rfl,hh2⟩
 refine za rfl (zNR (zm rfl (zm rfl (ah rfl C262 (BE _ k 0x36 w2 (hk.mod0 (hc1.tr hh2.1)) hl) ?_))))
 rintro v3 w3 ⟨hs3,hc3,hi3⟩
 refine ah rfl C261 (nF w1 w3 b6 [] _ v3 (hh2.chg0 hc3) hs3 (fun h=>by have:=hi3.ge _ h; have:=hh2.lt; omega) (by rw[fh k _ hl]; decide)) ?_
 rintro _ w4 hh4
 refine zNR (zm rfl (zm rfl (ah rfl C261 (nF w1 w4 b6 _ m mv hh4 (hm.mod0 (hc1.tr hh4.1)) (fun h=>by have:=hmlt _ h; have:=hh2.2.1; omega) (by rw[List.nil_append,fh k _ hl]; omega)) ?_)))
 rintro _ w5 hh5
 refine zNR (zm rfl (ah rfl C263 (zg w1 w5 b6 _ hh5 (by rw[List.nil_append,List.length_append,fh k _ hl]; omega)) ?_))
 rintro _ w6 ⟨rfl,hc6⟩
 refine aJ (List.replicate 32 (0:UInt8)) I62 rfl rfl rfl ?_
 rintro w7 b7 hn7 ha7 hc7 hl7
 refine aH rfl (bl 32 I62 rfl (ha7) rfl rfl (rfl) (dD _)) ?_
 rintro w8 ⟨ha8,hc8,hs8⟩
 refine a8 (a7 (ae (al ?_)))
 have hcw8:Chg [] w w8:=(((hc1.tr hh5.1).tr hc6).tr hc7).t1 hc8 (by have:=hh5.1.1; have:=hc6.1; omega)
 refine ah rfl C260 (CG w8) ?_
 rintro _ w9 ⟨b8,rfl,hh9⟩
 refine za rfl (zNR (zm rfl (zm rfl (ah rfl C262 (BE _ k 0x5c w9 (hk.mod0 (hcw8.tr hh9.1)) hl) ?_))))
 rintro va wa ⟨hsa,hca,hia⟩
 refine ah rfl C261 (nF w8 wa b8 [] _ va (hh9.chg0 hca) hsa (fun h=>by have:=hia.ge _ h; have:=hh9.lt; omega) (by rw[fh k _ hl]; decide)) ?_
 rintro _ wb hhb
 refine zNR (zm rfl (a6 rfl (bI oW I5 rfl) ?_))
 refine ah rfl C261 (nF w8 wb b8 _ _ _ hhb ((ha8.chg0 hhb.1).sl (n:=32) (c:=32) (dD _) (Nat.le_refl _)) (nblk (by have:=hh9.2.1; omega)) (by rw[List.nil_append,fh k _ hl,dD]; decide)) ?_
 rintro _ wc hhc
 refine zNR (zm rfl (ah rfl C263 (zg w8 wc b8 _ hhc (by rw[List.nil_append,List.length_append,fh k _ hl,dD]; decide)) ?_))
 rintro _ wd ⟨rfl,hcd⟩
 refine aH rfl (bl 32 I62 rfl (((((((ha1.chg0 hh5.1).chg0 hc6).chg0 hc7).nb hc8 (by have:=hh5.1.1; have:=hc6.1; omega)).chg0 hhc.1).chg0 hcd)) rfl rfl (rfl) (dD _)) ?_
 rintro we ⟨hae,hce,hse⟩
 refine a8 (a7 (bQ (cE ?_)))
 simp only[List.nil_append] at hae
 rw[←BT] at hae
 exact⟨[bT (lT k m)],⟨⟨_,rfl,cV 32 oW rfl I62 rfl hae (dc _ _)⟩,trivial⟩,rfl,((hcw8.tr hhc.1).tr hcd).t1 hce hn1⟩
theorem Aw(k:List UInt8)(hkl:k.length=32)(iv:Value)(info:List UInt8)(w:World)(hi:Sl w iv info)(hil:info.length≤800000000) :
  Ret Tryz.prog 195 #[bT k,iv,.int .i64 32] w fun v w'=>Sl w' v (lT k (info++[1]))∧Chg [] w w':=by
 refine enter [6] Tryz.func195 rfl rfl (Nat.le_of_ble_eq_true rfl) ?_
 refine zSR (cH (l:=k) rfl rfl ?_)
 rintro w1 b1 hn1 ha1 hc1 hl1
 refine za rfl (zNR (zm rfl (a6 rfl (ow rfl rfl) (a6 rfl (iG rfl rfl) (za rfl ?_)))))
 refine zNR (za rfl (za rfl (a8 (a7 (ae (zSR (za rfl (a8 (a7 (au ?_))))))))))
 have hilt:=hi.lt
 refine bO [7,8,9] [7,8,9,10,11,15,16,17,18,19,20,21,22,23,24,25,26,27,28,29,30,31,32,33,34,35] (fun n vs w'=>∃(L:Nat) (p:Option Addr) (c:Nat) (v8:Value) (i:Int),vs=[.slice p L c,v8,.int .i64 i]∧Chg [] w1 w'∧((n=1∧L=0∧p=none∧c=0∧v8 = .slice none 0 0∧i=1)∨(n=0∧L=32∧Own w' (.slice p L c) (lT k (info++[1]))∧i=2))) (1) (by kernel_rfl) ?_ ?_
 ·exact⟨0,none,0,.slice none 0 0,1,rfl,Chg.refl _,.inl ⟨rfl,rfl,rfl,rfl,rfl,rfl⟩⟩
 ·rintro n vs J w2 ⟨L,p,c,v8,i,rfl,hc2,hor⟩
  refine ae (zSR (zm rfl (a6 rfl (ax rfl aR) (zm rfl (a6 rfl (bz rfl rfl) ?_)))))
  refine a8 (a7 (aC rfl (fun h=>?_) (fun h=>?_)))
  ·refine aA (a7 (ae (au (zSR (zm rfl ?_)))))
   obtain⟨rfl,rfl,rfl,rfl,rfl,rfl⟩:n=1∧L=0∧p=none∧c=0∧v8 = .slice none 0 0∧i=1:=by
    rcases hor with h1 | ⟨_,h1,_⟩
    ·exact h1
    ·omega
   refine bJ aR aR I5 (.inr ⟨_,rfl⟩) rfl rfl rfl (by decide) rfl (Own.nil w2) ((Sl.nil (α:=UInt8) w2 0).src) rfl rfl (by simp) ?_
   rintro v3 w3 h3
   refine zm rfl ?_
   have hob4:=h3.step hc2 In.nil
   obtain⟨ho3,hc3,hi3⟩:=hob4
   refine bJ aR aR I5 (.inr ⟨_,rfl⟩) rfl rfl rfl (by decide) rfl (ho3) ((hi.mod0 (hc1.tr hc3)).src) rfl rfl (by simp; omega) ?_
   rintro v4 w4 h4
   refine zm rfl (a6 rfl (eN rfl uU3 uU5) ?_)
   have hob5:=h4.step hc3 hi3
   obtain⟨ho4,hc4,hi4⟩:=hob5
   refine gp ((1:UInt8)) aR I5 rfl rfl rfl (by decide) (by decide) rfl rfl rfl rfl (ho4) (fun _=>rfl) (by simp; omega) ?_
   rintro s5 v5 w5 h5
   refine za rfl (a8 (a7 (ae (al ?_))))
   have hob6:=h5.step hc4 hi4
   obtain⟨ho5,hc5,hi5⟩:=hob6
   refine a6 rfl (bI gq I5 rfl) ?_
   refine zm rfl (ah rfl C233 (xY _ v5 k _ w5 ((ha1.chg0 hc5).sl (n:=32) (c:=32) hkl (Nat.le_refl _)) ho5.sl (by omega) (by simp; omega)) ?_)
   rintro _ w6 ⟨rfl,hc6⟩
   refine aJ (List.replicate 32 (0:UInt8)) I62 rfl rfl rfl ?_
   rintro w7 b7 hn7 ha7 hc7 hl7
   refine aH rfl (bl 32 I62 rfl (ha7) rfl rfl (rfl) (dc _ _)) ?_
   rintro w8 ⟨ha8,hc8,hs8⟩
   refine zNR (a6 rfl (bI oW I5 rfl) ?_)
   refine za rfl (a8 (a7 (al (zm rfl (zm rfl ?_)))))
   have hc8':Chg [] w1 w8:=((hc5.tr hc6).tr hc7).t1 hc8 (by have:=hc5.1; have:=hc6.1; omega)
   refine bJ aR aR I5 (.inr ⟨_,rfl⟩) rfl rfl rfl (by decide) rfl (Own.nil w8) ((ha8.sl (n:=32) (c:=32) (dc _ _) (Nat.le_refl _)).src) rfl rfl (by simp[dc]) ?_
   rintro v9 w9 h9
   refine za rfl (a8 (aB (a7 (al (zm rfl (a6 rfl (aD rfl rfl (by omega)) (za rfl ?_)))))))
   refine a8 (a7 ?_)
   have hob7:=h9.step hc8' In.nil
   obtain⟨ho9,hc9,hi9⟩:=hob7
   have hob8:=ho9.form (n:=32) (by rw[List.nil_append,dc])
   obtain⟨p9,c9,rfl⟩:=hob8
   simp only[List.nil_append] at ho9
   refine Exists.intro (0) (And.intro (by omega) ?_)
   exact⟨32,p9,c9,.slice (some ⟨b7,0,none⟩) 32 32,2,rfl,hc9,.inr ⟨rfl,rfl,ho9,rfl⟩⟩
  ·refine aP (aq (aq (aE (a7 (zSR (zm rfl (zm rfl ?_)))))))
   obtain⟨h0,rfl,ho2,rfl⟩:n=0∧L=32∧Own w2 (.slice p L c) (lT k (info++[1]))∧i=2:=by
    rcases hor with⟨_,h1,_⟩ | h1
    ·omega
    ·exact h1
   refine bg rfl (gm 32 aR I5 ho2.sl rfl rfl (by omega) (Nat.le_of_eq (dc _ _).symm)) ?_
   rintro _ ⟨⟨p3,c3,rfl⟩,hs3,hbl3⟩
   refine za rfl (a8 (a7 (zrf ?_)))
   rw[List.take_of_length_le (Nat.le_of_eq (dc _ _))] at hs3
   exact⟨hs3,hc1.tr hc2⟩
theorem iD(k:List UInt8)(hkl:k.length=32)(label:List UInt8)(n:UInt32)(nn:Nat)(hnn:n.toNat=nn)(w:World)(hl:label.length≤100000000) :
  Ret Tryz.prog 147 #[bT k,str label,.int .u32 n.toNat] w fun v w'=>v=bT (aW k label nn)∧Chg [] w w':=by
 subst hnn
 refine et [.cell 6 63] Tryz.func147 rfl rfl (Nat.le_of_ble_eq_true rfl) ?_
 refine zSR (cH (l:=k) rfl rfl ?_)
 rintro w1 b1 hn1 ha1 hc1 hl1
 refine aJ (List.replicate 32 (0:UInt8)) I63 rfl rfl rfl ?_
 rintro w2 b2 hn2 ha2 hc2 hl2
 refine zNR (aJ (List.replicate 32 (0:UInt8)) I63 rfl rfl rfl ?_)
 rintro w3 b3 hn3 ha3 hc3 hl3
 refine a8 (a7 (ae (aO bG (.pure 0 (.read 1 (.pure 2 (.pure 4 (.pure 5 (.eff 3 [1] (.eff 6 [1] (.eff 7 [] (.eff 8 [] .nil))))))))) (by kernel_rfl) ?_)))
 refine aj rfl rfl rfl (fun _=>bI gq I5 rfl) ?_
 have hA1:Arr w3 b1 k:=(ha1.chg0 hc2).chg0 hc3
 refine dR 32 rfl rfl rfl gq rfl I63 rfl rfl (hA1) (hkl) ?_
 refine ym rfl rfl rfl ?_
 refine ym rfl rfl rfl ?_
 refine aj rfl rfl rfl (fun _=>(cP rfl bK dV)) ?_
 refine bu rfl rfl rfl (x_s2b uU9 aR uU5 rfl) ?_
 rintro v4 w4 ⟨ho4,hc4,hi4⟩
 have hc4:Chg [] w3 w4:=hc4
 refine⟨⟨hA1.chg0 hc4,trivial⟩,?_⟩
 have h4:(cW (n.toNat:Int)).toNat=n.toNat:=by
  rw[dX,UInt64.toNat_ofNat']
  have:=n.toNat_lt
  omega
 refine aG rfl rfl rfl lp (fP v4 label (cW (n.toNat:Int)) 4 w4 ho4 (by decide) (by omega)) ?_
 rintro v5 w5 ⟨ho5,hc5,hi5⟩
 have hi4:In v4 [] w3.heap.size:=hi4
 have hc5':Chg [] w3 w5:=hc4.t0 hc5 hi4.ge
 refine⟨⟨hA1.chg0 hc5',trivial⟩,?_⟩
 refine aG rfl rfl rfl C195 (Aw k hkl v5 _ w5 ho5.sl (by rw[List.length_append,aI]; omega)) ?_
 rintro v6 w6 ⟨hs6,hc6⟩
 refine⟨trivial,?_⟩
 rw[h4,←wi] at hs6
 have hm:=du k label n.toNat
 refine bC rfl rfl rfl (ew (k:=0) aR I5 rfl rfl rfl rfl (hs6.src) ((ha3.chg0 hc5').chg0 hc6) (by first | (simp; done) | omega)) ?_
 rintro w7 ⟨ha7,hc7,hs7⟩
 refine⟨trivial,?_⟩
 refine aQ (a7 (ae (al ?_)))
 rw[hm,Nat.min_self,List.take_of_length_le (Nat.le_of_eq hm),cy (by rw[hm]; rfl)] at ha7
 refine a6 rfl (cF 32 gq rfl I63 rfl rfl (ha7) (hm)) ?_
 refine aH rfl (bl 32 I63 rfl (((((ha2.chg0 hc3).chg0 hc5').chg0 hc6).nb hc7 (by omega))) rfl rfl (rfl) (hm)) ?_
 rintro w8 ⟨ha8,hc8,hs8⟩
 refine a8 (a7 (bQ (cE ?_)))
 exact⟨[bT (aW k label n.toNat)],⟨⟨_,rfl,cV 32 gq rfl I63 rfl ha8 hm⟩,trivial⟩,rfl,(((((hc1.tr hc2).tr hc3).tr hc5').tr hc6).t1 hc7 (by omega)).t1 hc8 (by omega)⟩
end Go.Proofs.YtpbfapbajmdlkaaGreat

end
section
namespace Go.Proofs.YtpbfapbajmdlkaaGreat
open Go Go.Sac
set_option maxRecDepth 100000
set_option maxHeartbeats 4000000
theorem xX(a b c d:UInt32)(w:World) :
  Ret Tryz.prog 293 #[.int .u32 a.toNat,.int .u32 b.toNat,.int .u32 c.toNat,.int .u32 d.toNat] w fun v w'=>w=w' ∧
   v = .tuple #[.int .u32 (ef a b c d).1.toNat,.int .u32 (ef a b c d).2.1.toNat,.int .u32 (ef a b c d).2.2.1.toNat,.int .u32 (ef a b c d).2.2.2.toNat]:=by
 refine enter [8,9,10,11] Tryz.func293 rfl rfl (Nat.le_of_ble_eq_true rfl) ?_
 refine zSR (a6 rfl (fE (v := .int .u32 ((0:UInt32).toNat:Nat)) rfl) (a6 rfl (fE (v := .int .u32 ((0:UInt32).toNat:Nat)) rfl) (a6 rfl (fE (v := .int .u32 ((0:UInt32).toNat:Nat)) rfl) (a6 rfl (fE (v := .int .u32 ((0:UInt32).toNat:Nat)) rfl) ?_))))
 refine zNR (zm rfl (zm rfl (a6 rfl (cQ rfl rfl) (za rfl ?_))))
 refine zNR (zm rfl (zm rfl (a6 rfl (eb rfl rfl) ?_)))
 refine ah rfl C294 (pM _ _ 16 rfl _) ?_
 rintro _ _ ⟨rfl,rfl⟩
 refine za rfl (zNR (zm rfl (zm rfl (a6 rfl (cQ rfl rfl) (za rfl ?_)))))
 refine zNR (zm rfl (zm rfl (a6 rfl (eb rfl rfl) ?_)))
 refine ah rfl C294 (pM _ _ 12 rfl _) ?_
 rintro _ _ ⟨rfl,rfl⟩
 refine za rfl (zNR (zm rfl (zm rfl (a6 rfl (cQ rfl rfl) (za rfl ?_)))))
 refine zNR (zm rfl (zm rfl (a6 rfl (eb rfl rfl) ?_)))
 refine ah rfl C294 (pM _ _ 8 rfl _) ?_
 rintro _ _ ⟨rfl,rfl⟩
 refine za rfl (zNR (zm rfl (zm rfl (a6 rfl (cQ rfl rfl) (za rfl ?_)))))
 refine zNR (zm rfl (zm rfl (a6 rfl (eb rfl rfl) ?_)))
 refine ah rfl C294 (pM _ _ 7 rfl _) ?_
 rintro _ _ ⟨rfl,rfl⟩
 refine za rfl (zNR (zm rfl (zm rfl (zm rfl (zm rfl (za rfl (za rfl (za rfl (za rfl (a8 (a7 (zrf ?_))))))))))))
 refine⟨rfl,congrArg Value.tuple (congrArg List.toArray (aw (lI ?_) (aw (lI ?_) (aw (lI ?_) (aw (lI ?_) bF)))))⟩
 all_goals rw[tS]
theorem qC(p:Nat)(l:List UInt32)(a b c d:Nat)(w:World)(hp:Arr w p l)(hl:l.length=16)(ha:a<16)(hb:b<16)(hc:c<16)(hd:d<16) :
  Ret Tryz.prog 289 #[.pointer (some ⟨p,0,none⟩),.int .i64 a,.int .i64 b,.int .i64 c,.int .i64 d] w fun v w'=>Arr w' p (fH l a b c d)∧Chg [p] w w':=by
 refine enter [] Tryz.func289 rfl rfl (Nat.le_of_ble_eq_true rfl) ?_
 refine aO bG (.pure 0 (.pure 1 (.pure 2 (.pure 3 (.pure 4 (.pure 5 (.pure 6 (.pure 7 (.pure 8 (.pure 9 (.pure 10 (.pure 11 (.read 12 (.pure 13 (.pure 14 (.pure 15 (.pure 16 (.read 17 (.pure 18 (.pure 19 (.pure 20 (.pure 21 (.read 22 (.pure 23 (.pure 24 (.pure 25 (.pure 26 (.read 27 (.pure 34 (.pure 37 (.pure 40 (.pure 43 (.eff 28 [] (.pure 29 (.pure 30 (.pure 31 (.pure 32 (.pure 33 (.pure 35 (.eff 36 [] (.pure 38 (.eff 39 [] (.pure 41 (.eff 42 [] (.pure 44 (.eff 45 [] .nil)))))))))))))))))))))))))))))))))))))))))))))) (by kernel_rfl) ?_
 refine ym rfl rfl rfl ?_
 refine ym rfl rfl rfl ?_
 refine ym rfl rfl rfl ?_
 refine ym rfl rfl rfl ?_
 refine ym rfl rfl rfl ?_
 refine ym rfl rfl rfl ?_
 refine ym rfl rfl rfl ?_
 refine ym rfl rfl rfl ?_
 refine ym rfl rfl rfl ?_
 refine ym rfl rfl rfl ?_
 refine yn rfl rfl rfl rfl ?_
 refine aj rfl rfl rfl (fun _=>bP (a) gA I25 rfl rfl (by first | rfl | omega) (by first | assumption | omega)) ?_
 refine aX rfl rfl rfl bK rfl rfl (hp.c (getD_some (d:=0) (by omega)) rfl rfl) ?_
 refine ym rfl rfl rfl ?_
 refine ym rfl rfl rfl ?_
 refine yn rfl rfl rfl rfl ?_
 refine aj rfl rfl rfl (fun _=>bP (b) gA I25 rfl rfl (by first | rfl | omega) (by first | assumption | omega)) ?_
 refine aX rfl rfl rfl bK rfl rfl (hp.c (getD_some (d:=0) (by omega)) rfl rfl) ?_
 refine ym rfl rfl rfl ?_
 refine ym rfl rfl rfl ?_
 refine yn rfl rfl rfl rfl ?_
 refine aj rfl rfl rfl (fun _=>bP (c) gA I25 rfl rfl (by first | rfl | omega) (by first | assumption | omega)) ?_
 refine aX rfl rfl rfl bK rfl rfl (hp.c (getD_some (d:=0) (by omega)) rfl rfl) ?_
 refine ym rfl rfl rfl ?_
 refine ym rfl rfl rfl ?_
 refine yn rfl rfl rfl rfl ?_
 refine aj rfl rfl rfl (fun _=>bP (d) gA I25 rfl rfl (by first | rfl | omega) (by first | assumption | omega)) ?_
 refine aX rfl rfl rfl bK rfl rfl (hp.c (getD_some (d:=0) (by omega)) rfl rfl) ?_
 refine yn rfl rfl rfl rfl ?_
 refine yn rfl rfl rfl rfl ?_
 refine yn rfl rfl rfl rfl ?_
 refine yn rfl rfl rfl rfl ?_
 refine aG rfl rfl rfl C293 (xX _ _ _ _ _) ?_
 rintro _ _ ⟨rfl,rfl⟩
 refine⟨trivial,?_⟩
 refine ym rfl rfl rfl ?_
 refine yx rfl rfl rfl rfl rfl ?_
 refine yx rfl rfl rfl rfl rfl ?_
 refine yx rfl rfl rfl rfl rfl ?_
 refine yx rfl rfl rfl rfl rfl ?_
 refine aj rfl rfl rfl (fun _=>bP (a) gA I25 rfl rfl (by first | rfl | omega) (by first | assumption | omega)) ?_
 refine cB rfl rfl rfl (fc (a:=(ef (l.getD a 0) (l.getD b 0) (l.getD c 0) (l.getD d 0)).1) (k:=a) I25 rfl rfl rfl rfl (hp) rfl (by first | assumption | omega)) ?_
 rintro w1 ⟨ha1,hc1,hs1⟩
 refine⟨trivial,?_⟩
 refine aj rfl rfl rfl (fun _=>bP (b) gA I25 rfl rfl (by first | rfl | omega) (by first | assumption | omega)) ?_
 refine cB rfl rfl rfl (fc (a:=(ef (l.getD a 0) (l.getD b 0) (l.getD c 0) (l.getD d 0)).2.1) (k:=b) I25 rfl rfl rfl rfl (ha1) rfl (by simp; omega)) ?_
 rintro w2 ⟨ha2,hc2,hs2⟩
 refine⟨trivial,?_⟩
 refine aj rfl rfl rfl (fun _=>bP (c) gA I25 rfl rfl (by first | rfl | omega) (by first | assumption | omega)) ?_
 refine cB rfl rfl rfl (fc (a:=(ef (l.getD a 0) (l.getD b 0) (l.getD c 0) (l.getD d 0)).2.2.1) (k:=c) I25 rfl rfl rfl rfl (ha2) rfl (by simp; omega)) ?_
 rintro w3 ⟨ha3,hc3,hs3⟩
 refine⟨trivial,?_⟩
 refine aj rfl rfl rfl (fun _=>bP (d) gA I25 rfl rfl (by first | rfl | omega) (by first | assumption | omega)) ?_
 refine cB rfl rfl rfl (fc (a:=(ef (l.getD a 0) (l.getD b 0) (l.getD c 0) (l.getD d 0)).2.2.2) (k:=d) I25 rfl rfl rfl rfl (ha3) rfl (by simp; omega)) ?_
 rintro w4 ⟨ha4,hc4,hs4⟩
 refine⟨trivial,?_⟩
 refine aQ (jP ?_)
 have hc1:Chg [p] w w1:=hc1
 rw[rK]
 exact⟨ha4,((hc1.tr hc2).tr hc3).tr hc4⟩
theorem Bj(p:Nat)(l:List UInt32)(w:World)(hp:Arr w p l)(hl:l.length=16) :
  Ret Tryz.prog 281 #[.pointer (some ⟨p,0,none⟩)] w fun v w'=>Arr w' p (lJ l)∧Chg [p] w w':=by
 refine enter [] Tryz.func281 rfl rfl (Nat.le_of_ble_eq_true rfl) ?_
 refine ae (zSR (zm rfl (a8 (a7 (au (bO [4] [2,4,5,6,7,8,9,10,11,12,13,14,15,16] (fun n vs w'=>∃i:Nat,vs=[.int .i64 i]∧i+n=4∧Arr w' p (kR l i)∧Chg [p] w w') (4) (by kernel_rfl) ?_ ?_))))))
 ·exact⟨0,rfl,rfl,by rw[xK]; exact hp,Chg.refl' _ _⟩
 ·rintro n vs J w1 ⟨i,rfl,hi,ha1,hc1⟩
  refine zSR (a6 rfl (bz rfl rfl) ?_)
  refine a8 (a7 (ae ?_))
  have hcl:=(nD l i).trans hl
  refine aC rfl (fun h=>?_) (fun h=>?_)
  ·refine aA (a7 (ae (au (zSR (zm rfl (za rfl (a8 (a7 (al (zm rfl (zm rfl (zm rfl (a6 rfl (aD rfl rfl (by omega)) (zm rfl (a6 rfl (aD rfl rfl (by omega)) (zm rfl (a6 rfl (aD rfl rfl (by omega)) ?_)))))))))))))))))
   have hob1:∃q,n=q+1:=⟨n-1,by omega⟩
   obtain⟨n,rfl⟩:=hob1
   refine ah rfl C289 (qC p _ i (i+4) (i+8) (i+12) w1 ha1 hcl (by omega) (by omega) (by omega) (by omega)) ?_
   rintro _ w2 ⟨ha2,hc2⟩
   refine a8 (aB (a7 (al (a6 rfl (aD rfl rfl (by omega)) (zm rfl ?_)))))
   refine a8 (a7 (Exists.intro (n) (And.intro (by omega) ?_)))
   refine⟨i+1,aw (bB rfl) bF,by omega,?_,hc1.tr hc2⟩
   rw[rj]; exact ha2
  ·refine aP (aq (aq (aE (a7 (zSR (zm rfl (a8 (a7 (au ?_)))))))))
   have hob2:i=4:=by omega
   obtain rfl:=hob2
   refine bO [17] [3,17,18,19,20,21,22,23,24,25,26,27,28,29,30,31,32,33,34,35] (fun n vs w'=>∃i:Nat,vs=[.int .i64 i]∧i+n=4∧Arr w' p (jQ (kR l 4) i)∧Chg [p] w w') (4) (by kernel_rfl) ?_ ?_
   ·exact⟨0,rfl,rfl,by rw[wh]; exact ha1,hc1⟩
   ·rintro n vs J w3 ⟨i,rfl,hi,ha3,hc3⟩
    refine zSR (a6 rfl (bz rfl rfl) ?_)
    refine a8 (a7 (ae ?_))
    have hdl:=(lE (kR l 4) i).trans hcl
    refine aC rfl (fun h2=>?_) (fun h2=>?_)
    ·refine aA (a7 (ae (au (zSR (zm rfl (za rfl (a8 (a7 (al (zm rfl (zm rfl (zm rfl (a6 rfl (aD rfl rfl (by omega)) (a6 rfl (gK rfl rfl (by omega)) (a6 rfl (aD rfl rfl (by omega)) (zm rfl (a6 rfl (aD rfl rfl (by omega)) (a6 rfl (gK rfl rfl (by omega)) (a6 rfl (aD rfl rfl (by omega)) (zm rfl (a6 rfl (aD rfl rfl (by omega)) (a6 rfl (gK rfl rfl (by omega)) (a6 rfl (aD rfl rfl (by omega)) ?_)))))))))))))))))))))))
     have hob3:∃q,n=q+1:=⟨n-1,by omega⟩
     obtain⟨n,rfl⟩:=hob3
     refine ah rfl C289 (qC p _ i (4+(i+1) % 4) (8+(i+2) % 4) (12+(i+3) % 4) w3 ha3 hdl (by omega) (by omega) (by omega) (by omega)) ?_
     rintro _ w4 ⟨ha4,hc4⟩
     refine a8 (aB (a7 (al (a6 rfl (aD rfl rfl (by omega)) (zm rfl ?_)))))
     refine a8 (a7 (Exists.intro (n) (And.intro (by omega) ?_)))
     refine⟨i+1,aw (bB rfl) bF,by omega,?_,hc3.tr hc4⟩
     rw[oR]; exact ha4
    ·refine aP (aq (aq (aE (jP ?_))))
     have hob4:i=4:=by omega
     obtain rfl:=hob4
     rw[x4]
     exact⟨ha3,hc3⟩
theorem A4(k nonce:List UInt8)(ctr:UInt32)(w:World)(hk:k.length=32)(hn:nonce.length=12) :
  Ret Tryz.prog 280 #[bT k,bT nonce,.int .u32 ctr.toNat] w fun v w'=>v=bT (iU k nonce ctr)∧Chg [] w w':=by
 refine et [.cell 6 352] Tryz.func280 rfl rfl (Nat.le_of_ble_eq_true rfl) ?_
 refine zSR (cH (l:=k) rfl rfl ?_)
 rintro w1 b1 hn1 ha1 hc1 hl1
 refine cH (l:=nonce) rfl rfl ?_
 rintro w2 b2 hn2 ha2 hc2 hl2
 refine aJ (List.replicate 16 (0:UInt32)) oq rfl rfl rfl ?_
 rintro w3 b3 hn3 ha3 hc3 hl3
 refine zNR (a6 rfl (iI (List.replicate 16 (0:UInt32)) ([(0,0x61707865),(1,0x3320646e),(2,0x79622d32),(3,0x6b206574)]) (l:=tH) gA oq rfl I25 rfl rfl rfl rfl rfl) ?_)
 refine aJ (List.replicate 16 (0:UInt32)) oq rfl rfl rfl ?_
 rintro w4 b4 hn4 ha4 hc4 hl4
 refine aH rfl (bl 16 oq rfl (ha4) rfl rfl (by first | assumption | rfl | (simp <;> omega)) (by first | assumption | rfl | (simp <;> omega))) ?_
 rintro w5 ⟨ha5,hc5,hs5⟩
 refine a8 (a7 (ae (zSR (zm rfl (a8 (a7 (au ?_)))))))
 have hc05:Chg [] w w5:=(((hc1.tr hc2).tr hc3).tr hc4).t1 hc5 (by omega)
 have hk5:Arr w5 b1 k:=(((ha1.chg0 hc2).chg0 hc3).chg0 hc4).nb hc5 (by omega)
 have hn5:Arr w5 b2 nonce:=((ha2.chg0 hc3).chg0 hc4).nb hc5 (by omega)
 have hr5:Arr w5 b3 (List.replicate 16 (0:UInt32)):=(ha3.chg0 hc4).nb hc5 (by omega)
 refine bO [11] [8,11,12,13,14,15,16,17,18,19,20,21] (fun n vs w'=>∃i:Nat,vs=[.int .i64 i]∧i+n=8∧Arr w' b4 (iV k i)∧Chg [b4] w5 w') (8) (by kernel_rfl) ?_ ?_
 ·exact⟨0,rfl,rfl,by rw[vQ]; exact ha5,Chg.refl' _ _⟩
 ·rintro n vs J w6 ⟨i,rfl,hi,ha6,hc6⟩
  refine zSR (a6 rfl (bz rfl rfl) ?_)
  refine a8 (a7 (ae ?_))
  have hfl:=lC k i
  refine aC rfl (fun h=>?_) (fun h=>?_)
  ·refine aA (a7 (ae (au (zSR (zm rfl (za rfl (a8 (a7 (al (zm rfl (a6 rfl (aD rfl rfl (by omega)) (zm rfl (a6 rfl (eW rfl rfl (by omega)) ?_)))))))))))))
   have hob5:∃q,n=q+1:=⟨n-1,by omega⟩
   obtain⟨n,rfl⟩:=hob5
   refine a6 rfl (jE (4*i) gq I5 rfl rfl (by first | rfl | omega) (by omega)) ?_
   refine ah rfl C288 (tw _ (k.drop (4*i)) w6 (by have:=(hk5.nb hc6 (by omega)).slc (i:=4*i) (n:=32-4*i) (c:=32-4*i) rfl (by omega) (Nat.le_refl _); rwa [List.take_of_length_le (by rw[List.length_drop]; omega)] at this) (by rw[List.length_drop]; omega)) ?_
   rintro _ w7 ⟨rfl,hc7⟩
   refine a6 rfl (bP (4+i) gA I25 rfl rfl (by first | rfl | omega) (by first | assumption | omega)) ?_
   refine aH rfl (fc (a:=jL (k.drop (4*i))) (k:=4+i) I25 rfl rfl rfl rfl (ha6.chg0 hc7) rfl (by first | assumption | omega)) ?_
   rintro w8 ⟨ha8,hc8,hs8⟩
   refine a8 (aB (a7 (al (a6 rfl (aD rfl rfl (by omega)) (zm rfl ?_)))))
   refine a8 (a7 (Exists.intro (n) (And.intro (by omega) ?_)))
   refine⟨i+1,aw (bB rfl) bF,by omega,?_,(hc6.tr0 hc7).tr hc8⟩
   rw[oO]; exact ha8
  ·refine aP (aq (aq (aE (a7 (zSR (zm rfl (a6 rfl (bP 12 gA I25 rfl rfl rfl (by decide)) ?_)))))))
   have hob6:i=8:=by omega
   obtain rfl:=hob6
   refine aH rfl (fc (a:=ctr) (k:=12) I25 rfl rfl rfl rfl (ha6) rfl (by rw[hfl]; decide)) ?_
   rintro w7 ⟨ha7,hc7,hs7⟩
   refine a8 (a7 (ae (zSR (zm rfl (a8 (a7 (au (bO [24] [9,24,25,26,27,28,29,30,31,32,33,34] (fun n vs w'=>∃i:Nat,vs=[.int .i64 i]∧i+n=3∧Arr w' b4 (jj ((iV k 8).set 12 ctr) nonce i)∧Chg [b4] w5 w') (3) (by kernel_rfl) ?_ ?_))))))))
   ·exact⟨0,rfl,rfl,by rw[vP]; exact ha7,hc6.tr hc7⟩
   ·rintro n vs J w8 ⟨i,rfl,hi,ha8,hc8⟩
    refine zSR (a6 rfl (bz rfl rfl) ?_)
    refine a8 (a7 (ae ?_))
    have hfl2:(jj ((iV k 8).set 12 ctr) nonce i).length=16:=by rw[lB,List.length_set,hfl]
    refine aC rfl (fun h2=>?_) (fun h2=>?_)
    ·refine aA (a7 (ae (au (zSR (zm rfl (za rfl (a8 (a7 (al (zm rfl (a6 rfl (aD rfl rfl (by omega)) (zm rfl (a6 rfl (eW rfl rfl (by omega)) ?_)))))))))))))
     have hob7:∃q,n=q+1:=⟨n-1,by omega⟩
     obtain⟨n,rfl⟩:=hob7
     refine a6 rfl (jE (4*i) ke I5 rfl rfl (by first | rfl | omega) (by omega)) ?_
     refine ah rfl C288 (tw _ (nonce.drop (4*i)) w8 (by have:=(hn5.nb hc8 (by omega)).slc (i:=4*i) (n:=12-4*i) (c:=12-4*i) rfl (by omega) (Nat.le_refl _); rwa [List.take_of_length_le (by rw[List.length_drop]; omega)] at this) (by rw[List.length_drop]; omega)) ?_
     rintro _ w9 ⟨rfl,hc9⟩
     refine a6 rfl (bP (13+i) gA I25 rfl rfl (by first | rfl | omega) (by first | assumption | omega)) ?_
     refine aH rfl (fc (a:=jL (nonce.drop (4*i))) (k:=13+i) I25 rfl rfl rfl rfl (ha8.chg0 hc9) rfl (by first | assumption | omega)) ?_
     rintro wa ⟨haa,hca,hsa⟩
     refine a8 (aB (a7 (al (a6 rfl (aD rfl rfl (by omega)) (zm rfl ?_)))))
     refine a8 (a7 (Exists.intro (n) (And.intro (by omega) ?_)))
     refine⟨i+1,aw (bB rfl) bF,by omega,?_,(hc8.tr0 hc9).tr hca⟩
     rw[oN]; exact haa
    ·refine aP (aq (aq (aE (a7 (ae (al ?_))))))
     have hob8:i=3:=by omega
     obtain rfl:=hob8
     rw[←xE] at ha8 hfl2
     refine a6 rfl (cF 16 gA rfl oq rfl rfl (ha8) (by first | assumption | rfl | (simp <;> omega))) ?_
     refine aH rfl (bl 16 oq rfl (hr5.nb hc8 (by omega)) rfl rfl (by first | assumption | rfl | (simp <;> omega)) (by first | assumption | rfl | (simp <;> omega))) ?_
     rintro w9 ⟨ha9,hc9,hs9⟩
     refine a8 (a7 (bQ (cE ?_)))
     exact⟨[bT (iU k nonce ctr)],⟨⟨_,rfl,cV 16 gA rfl oq rfl ha9 hfl2⟩,trivial⟩,rfl,(hc05.t1 hc8 (by omega)).t1 hc9 (by omega)⟩
theorem CS(k nonce:List UInt8)(ctr:UInt32)(w:World)(hk:k.length=32)(hn:nonce.length=12) :
  Ret Tryz.prog 267 #[bT k,bT nonce,.int .u32 ctr.toNat] w fun v w'=>v=bT (iW k nonce ctr)∧Chg [] w w':=by
 refine et [.cell 6 204] Tryz.func267 rfl rfl (Nat.le_of_ble_eq_true rfl) ?_
 refine zSR (cH (l:=k) rfl rfl ?_)
 rintro w1 b1 hn1 ha1 hc1 hl1
 refine cH (l:=nonce) rfl rfl ?_
 rintro w2 b2 hn2 ha2 hc2 hl2
 refine aJ (List.replicate 64 (0:UInt8)) wB rfl rfl rfl ?_
 rintro w3 b3 hn3 ha3 hc3 hl3
 refine zNR (a6 rfl (cF 32 gq rfl I63 rfl rfl ((ha1.chg0 hc2).chg0 hc3) (by first | assumption | rfl | (simp <;> omega))) ?_)
 refine a6 rfl (cF 12 ke rfl pC rfl rfl (ha2.chg0 hc3) (by first | assumption | rfl | (simp <;> omega))) ?_
 refine zm rfl (ah rfl C280 (A4 k nonce ctr w3 hk hn) ?_)
 rintro _ w4 ⟨rfl,hc4⟩
 have hfl:=rS k nonce ctr
 generalize hwas:iU k nonce ctr=was at *
 refine aJ (List.replicate 16 (0:UInt32)) oq rfl rfl rfl ?_
 rintro w5 b5 hn5 ha5 hc5 hl5
 refine aH rfl (bl 16 oq rfl (ha5) rfl rfl (by first | assumption | rfl | (simp <;> omega)) (by first | assumption | rfl | (simp <;> omega))) ?_
 rintro w6 ⟨ha6,hc6,hs6⟩
 refine zNR (a6 rfl (cF 16 gA rfl oq rfl rfl (ha6) (by first | assumption | rfl | (simp <;> omega))) ?_)
 refine aJ (List.replicate 16 (0:UInt32)) oq rfl rfl rfl ?_
 rintro w7 b7 hn7 ha7 hc7 hl7
 refine aH rfl (bl 16 oq rfl (ha7) rfl rfl (by first | assumption | rfl | (simp <;> omega)) (by first | assumption | rfl | (simp <;> omega))) ?_
 rintro w8 ⟨ha8,hc8,hs8⟩
 refine a8 (a7 (ae (zSR (zm rfl (a8 (a7 (au ?_)))))))
 have hc48:Chg [] w4 w8:=(((hc5.t1 hc6 hn5)).tr hc7).t1 hc8 (by omega)
 have k4:=hc4.1
 have hwas8:Arr w8 b5 was:=(ha6.chg0 hc7).nb hc8 (by omega)
 have hc08:Chg [] w w8:=(((hc1.tr hc2).tr hc3).tr hc4).tr hc48
 have hr8:Arr w8 b3 (List.replicate 64 (0:UInt8)):=(ha3.chg0 hc4).chg0 hc48
 refine bO [18] [18,19,20,21] (fun n vs w'=>∃i:Nat,vs=[.int .i64 i]∧i+n=10∧Arr w' b7 (gw was i)∧Chg [b7] w8 w') (10) (by kernel_rfl) ?_ ?_
 ·exact⟨0,rfl,rfl,by rw[tQ]; exact ha8,Chg.refl' _ _⟩
 ·rintro n vs J w9 ⟨i,rfl,hi,ha9,hc9⟩
  refine zSR (a6 rfl (bz rfl rfl) ?_)
  refine a8 (a7 (ae ?_))
  have hrl:=(qz was i).trans hfl
  refine aC rfl (fun h=>?_) (fun h=>?_)
  ·refine aA (a7 (ae (au (al ?_))))
   have hob9:∃q,n=q+1:=⟨n-1,by omega⟩
   obtain⟨n,rfl⟩:=hob9
   refine ah rfl C281 (Bj b7 _ w9 ha9 hrl) ?_
   rintro _ wa ⟨haa,hca⟩
   refine a8 (aB (a7 (al (a6 rfl (aD rfl rfl (by omega)) (zm rfl ?_)))))
   refine a8 (a7 (Exists.intro (n) (And.intro (by omega) ?_)))
   refine⟨i+1,aw (bB rfl) bF,by omega,?_,hc9.tr hca⟩
   rw[mR]; exact haa
  ·refine aP (aq (aq (aE (a7 (ae (al ?_))))))
   have hob10:i=10:=by omega
   obtain rfl:=hob10
   have k9:=hc9.1
   have hbd:iW k nonce ctr=rN was (gw was 10) 16:=by rw[xM,hwas]
   generalize hst:gw was 10=st at *
   refine aJ (List.replicate 64 (0:UInt8)) wB rfl rfl rfl ?_
   rintro wa ba hna haa hca hla
   refine a8 (a7 (ae (zSR (a6 rfl (cF 16 gA rfl oq rfl rfl (ha9.chg0 hca) (by first | assumption | rfl | (simp <;> omega))) ?_))))
   refine zm rfl (a8 (a7 (au (bO [23] [10,11,12,23,24,25,26,27,28,29,30,31,32,33,34,35,36,37,38] (fun n vs w'=>∃i:Nat,vs=[.int .i64 i]∧i+n=16∧Arr w' ba (rN was st i++List.replicate (64-4*i) 0)∧Chg [ba] wa w') (16) (by kernel_rfl) ?_ ?_))))
   ·exact⟨0,rfl,rfl,by rw[zN]; exact haa,Chg.refl' _ _⟩
   ·rintro n vs J wb ⟨i,rfl,hi,hab,hcb⟩
    refine zSR (a6 rfl (bz rfl rfl) ?_)
    refine a8 (a7 (ae ?_))
    have hol:=oE was st i
    refine aC rfl (fun h2=>?_) (fun h2=>?_)
    ·refine aA (a7 (ae (au (zSR (zm rfl ?_)))))
     have hob11:∃q,n=q+1:=⟨n-1,by omega⟩
     obtain⟨n,rfl⟩:=hob11
     refine a6 rfl (wK (i) gA bK rfl I25 rfl rfl rfl (by first | rfl | omega) (by first | assumption | omega) (getD_some (d:=0) (by omega)) rfl) ?_
     refine za rfl (za rfl (zNR (zm rfl (zm rfl (a6 rfl (bP (i) gA I25 rfl rfl (by first | rfl | omega) (by first | assumption | omega)) ?_)))))
     refine a6 rfl (az bK rfl rfl (((((hwas8.nb hc9 (by omega)).chg0 hca).nb hcb (by omega)).c (getD_some (d:=0) (by omega)) rfl rfl))) ?_
     refine a6 rfl (cQ rfl rfl) ?_
     refine ah rfl C282 (um _ wb) ?_
     rintro _ wc ⟨rfl,hcc⟩
     refine aJ (List.replicate 4 (0:UInt8)) iY rfl rfl rfl ?_
     rintro wd bd hnd had hcd hld
     refine aH rfl (bl 4 iY rfl (had) rfl rfl (by first | assumption | rfl | (simp <;> omega)) (by first | assumption | rfl | (simp <;> omega))) ?_
     rintro we ⟨hae,hce,hse⟩
     refine a8 (a7 (aO bG (.pure 0 (.pure 1 (.pure 2 (.pure 3 (.eff 4 [] .nil))))) (by kernel_rfl) ?_))
     refine ym rfl rfl rfl ?_
     refine aj rfl rfl rfl (fun _=>(eW rfl rfl (by omega))) ?_
     refine aj rfl rfl rfl (fun _=>jE (4*i) oz I5 rfl rfl (by first | rfl | omega) (by omega)) ?_
     refine aj rfl rfl rfl (fun _=>bI gB I5 rfl) ?_
     refine bC rfl rfl rfl (ew (k:=4*i) aR I5 rfl rfl rfl rfl ((hae.sl (n:=4) (c:=4) rfl (by decide)).srcH rfl) (((hab.chg0 hcc).chg0 hcd).nb hce (by have:=hcb.1; have:=hcc.1; omega)) (by rw[List.length_append,hol,List.length_replicate]; omega)) ?_
     rintro wf ⟨haf,hcf,hsf⟩
     refine⟨trivial,?_⟩
     refine aQ (aB (a7 (al (a6 rfl (aD rfl rfl (by omega)) (zm rfl ?_)))))
     refine a8 (a7 ?_)
     have hcf:Chg [ba] we wf:=hcf
     have hpl:(eY (st.getD i 0+was.getD i 0)).length=4:=rfl
     rw[hpl,Nat.min_eq_left (by omega),show(eY (st.getD i 0+was.getD i 0)).take 4=eY (st.getD i 0+was.getD i 0) from rfl,im hol.symm hpl.symm,List.drop_replicate] at haf
     refine Exists.intro (n) (And.intro (by omega) ?_)
     refine⟨i+1,aw (bB rfl) bF,by omega,?_,(((hcb.tr0 hcc).tr0 hcd).tn hce (by have:=hcb.1; have:=hcc.1; omega)).tr hcf⟩
     rw[sN,show 64-4*(i+1)=64-4*i-4 from by omega]
     exact haf
    ·refine aP (aq (aq (aE (a7 (ae (al ?_))))))
     have hob12:i=16:=by omega
     obtain rfl:=hob12
     rw[show 64-4*16=0 from rfl,List.replicate_zero,List.append_nil,←hbd] at hab
     refine a6 rfl (cF 64 oz rfl wB rfl rfl (hab) (dm _ _ _)) ?_
     refine aH rfl (bl 64 wB rfl ((((hr8.nb hc9 (by omega)).chg0 hca).nb hcb (by omega))) rfl rfl (rfl) (dm _ _ _)) ?_
     rintro wc ⟨hac,hcc,hsc⟩
     refine a8 (a7 (bQ (cE ?_)))
     exact⟨[bT (iW k nonce ctr)],⟨⟨_,rfl,cV 64 oz rfl wB rfl hac (dm _ _ _)⟩,trivial⟩,rfl,(((hc08.t1 hc9 (by omega)).tr hca).t1 hcb (by omega)).t1 hcc (by omega)⟩
theorem XorS_ok(k nonce:List UInt8)(ctr:UInt32)(bv:Value)(l:List UInt8)(w:World)(hk:k.length=32)(hn:nonce.length=12)(hb:Sl w bv l)(hl:l.length≤100000000) :
  Ret Tryz.prog 242 #[bT k,bT nonce,.int .u32 ctr.toNat,bv] w fun v w'=>Own w' v (jR k nonce ctr l)∧Chg [] w w'∧In v [] w.heap.size:=by
 have hob13:=hb.form rfl
 obtain⟨p,c,rfl⟩:=hob13
 refine enter [8] Tryz.func242 rfl rfl (Nat.le_of_ble_eq_true rfl) ?_
 refine zSR (cH (l:=k) rfl rfl ?_)
 rintro w1 b1 hn1 ha1 hc1 hl1
 refine cH (l:=nonce) rfl rfl ?_
 rintro w2 b2 hn2 ha2 hc2 hl2
 refine za rfl (zNR (zm rfl (a6 rfl (ax rfl aR) ?_)))
 refine aS rfl (pO (0) (l.length) ((0:UInt8)) aR I5 rfl rfl rfl (by decide) rfl rfl (by decide) (by first | rfl | omega) (by first | rfl | omega) (by omega) (by omega)) ?_
 rintro _ w3 ⟨⟨p3,c3,rfl⟩,ho3,hc3,hi3⟩
 refine za rfl (a8 (a7 (ae (au ?_))))
 have hc02:Chg [] w w2:=hc1.tr hc2
 have hbl:=hb.lt
 refine bO [2,3,9] [2,3,9,10,11,15,16,17,18,19,20,21,22,23,24,25,26,27,28,29,30,31,32,33,34,35,36,37] (fun n vs w'=>∃(p':Option Addr) (c':Nat) (v9:Value) (ct:UInt32) (r done:List UInt8),vs=[.int .u32 ct.toNat,.slice p' r.length c',v9]∧n=(r.length+63) / 64∧done.length+r.length=l.length∧Sl w' (.slice p' r.length c') r∧ar (.slice p' r.length c')=ar (.slice p l.length c)∧Own w' v9 done∧done++gI k nonce n ct r=jR k nonce ctr l∧Chg [] w2 w'∧In v9 [] w2.heap.size) ((l.length+63) / 64) (by kernel_rfl) ?_ ?_
 ·exact⟨p,c,.slice p3 0 c3,ctr,l,[],rfl,rfl,by simp,hb.mod0 (hc02.tr hc3),rfl,ho3,by rw[m4]; rfl,hc3,hi3⟩
 ·rintro n vs J w4 ⟨p',c',v9,ct,r,done,rfl,hnr,hdr,hs4,hb4,ho4,hx4,hc4,hi4⟩
  refine ae (zSR (zm rfl (a6 rfl (ax rfl aR) (a6 rfl (di rfl rfl) ?_))))
  refine a8 (a7 (aC rfl (fun h=>?_) (fun h=>?_)))
  ·refine aA (a7 (au (zSR (zm rfl (a6 rfl (ax rfl aR) (a6 rfl (iG rfl rfl) (za rfl ?_)))))))
   refine a8 (a7 (ae (al ?_)))
   have hob14:∃q,n=q+1:=⟨n-1,by omega⟩
   obtain⟨n,rfl⟩:=hob14
   refine a6 rfl (cF 32 gq rfl I63 rfl rfl ((ha1.chg0 hc2).chg0 hc4) (by first | assumption | rfl | (simp <;> omega))) ?_
   refine a6 rfl (cF 12 ke rfl pC rfl rfl (ha2.chg0 hc4) (by first | assumption | rfl | (simp <;> omega))) ?_
   refine zm rfl (ah rfl C267 (CS k nonce ct w4 hk hn) ?_)
   rintro _ w5 ⟨rfl,hc5⟩
   refine aJ (List.replicate 64 (0:UInt8)) wB rfl rfl rfl ?_
   rintro w6 b6 hn6 ha6 hc6 hl6
   refine aH rfl (bl 64 wB rfl (ha6) rfl rfl (rfl) (dm _ _ _)) ?_
   rintro w7 ⟨ha7,hc7,hs7⟩
   refine a8 (a7 (ae ?_))
   have hc47:Chg [] w4 w7:=(hc5.tr hc6).t1 hc7 (by have:=hc5.1; omega)
   have hs7':=hs4.mod0 hc47
   have ho7:=ho4.mod0 hc47
   refine aO bG (.pure 0 (.pure 1 (.pure 2 (.pure 3 (.pure 4 (.pure 5 (.eff 6 [] (.eff 7 [] (.pure 8 .nil))))))))) (by kernel_rfl) ?_
   refine ym rfl rfl rfl ?_
   refine ym rfl rfl rfl ?_
   refine ym rfl rfl rfl ?_
   refine ym rfl rfl rfl ?_
   refine bA rfl rfl rfl (kU (min r.length 64) (min r.length 64) aR I5 hs7' rfl rfl rfl (by omega) (by omega) (by omega)) ?_
   rintro _ ⟨⟨pa,rfl⟩,hsa,hbla⟩
   refine aj rfl rfl rfl (fun _=>bI oz I5 rfl) ?_
   refine aG rfl rfl rfl C268 (Xor_ok _ _ _ _ _ hsa (ha7.sl (n:=64) (c:=64) (dm _ _ _) (Nat.le_refl _)) (by rw[List.length_take]; omega)) ?_
   rintro v8 w8 ⟨ho8,hc8,hi8⟩
   refine⟨trivial,?_⟩
   have hc8:Chg [] w7 w8:=hc8
   have hx8:(kh (r.take (min r.length 64)) (iW k nonce ct)).length=min r.length 64:=by rw[j4,dm,List.length_take]; omega
   refine bu rfl rfl rfl (yf aR aR I5 (.inr ⟨_,rfl⟩) rfl rfl rfl (by decide) (ho7.mod0 hc8) (ho8.sl.src) rfl rfl (by omega)) ?_
   rintro va wa ha
   refine⟨trivial,?_⟩
   refine ya rfl rfl rfl ?_
   refine zPR (zm rfl (zm rfl ?_))
   have hob15:=ha.step ((hc4.tr hc47).tr hc8) hi4
   obtain⟨hoa,hca,hia⟩:=hob15
   have hc4a:Chg [] w wa:=hc02.tr hca
   have hdis:∀b∈ar (.slice p' r.length c'),b∉ar v9:=fun b hb hb'=>by
    have:=hbl b (hb4▸hb)
    have:=hi4.ge b hb'
    have:=hc02.1
    omega
   have hsr:=((hs4.mod0 hc47).mod0 hc8).mod ha.mod hdis
   refine bg rfl (dF (min r.length 64) aR I5 rfl hsr rfl rfl (by omega) (by omega)) ?_
   rintro _ ⟨⟨pb,cb,rfl⟩,hsb,hblb⟩
   refine za rfl (a8 (a7 (al (zm rfl (a6 rfl (cQ (b:=1) rfl rfl) (za rfl ?_))))))
   refine a8 (aB (a7 ?_))
   have hdr2:r.drop (min r.length 64)=r.drop 64:=by
    by_cases h6:r.length≤64
    ·rw[List.drop_of_length_le (by omega),List.drop_of_length_le (by omega)]
    ·rw[Nat.min_eq_right (by omega)]
   have htr2:r.take (min r.length 64)=r.take 64:=by
    by_cases h6:r.length≤64
    ·rw[List.take_of_length_le (by omega),List.take_of_length_le (by omega)]
    ·rw[Nat.min_eq_right (by omega)]
   have hll:r.length-min r.length 64=(r.drop 64).length:=by rw[List.length_drop]; omega
   rw[hdr2,hll] at hsb
   rw[hll] at hblb
   rw[htr2] at hx8 hoa
   refine Exists.intro (n) (And.intro (by omega) ?_)
   refine⟨pb,cb,va,ct+1,r.drop 64,done++kh (r.take 64) (iW k nonce ct),?_,?_,?_,hsb,hblb.trans hb4,hoa,?_,hca,hia⟩
   ·rw[←hll]; rfl
   ·rw[List.length_drop]; omega
   ·rw[List.length_append,hx8,List.length_drop]; omega
   ·rw[List.append_assoc,←hQ]; exact hx4
  ·refine aP (aq (aq (aE (a7 (zSR (zm rfl (za rfl (a8 (a7 (zrf ?_))))))))))
   have hob16:n=0:=by omega
   obtain rfl:=hob16
   rw[wo,List.append_nil] at hx4
   refine⟨hx4▸ho4,hc02.tr hc4,hi4.mono (fun b hb => .inl hb) hc02.1⟩
end Go.Proofs.YtpbfapbajmdlkaaGreat

end
section
namespace Go.Proofs.YtpbfapbajmdlkaaGreat
open Go Go.Sac
set_option maxRecDepth 100000
set_option maxHeartbeats 4000000
theorem u64_u32(x:UInt32):(cW (x.toNat:Int)).toNat=x.toNat:=by
 rw[dX,UInt64.toNat_ofNat']
 have:=x.toNat_lt
 omega
theorem dB(page:UInt32)(gen:UInt64)(w:World) :
  Ret Tryz.prog 160 #[.int .u32 page.toNat,.int .u64 gen.toNat] w fun v w'=>v=bT (bY page.toNat gen.toNat)∧Chg [] w w':=by
 have hl:=jh page.toNat gen.toNat
 refine et [.cell 4 243] Tryz.func160 rfl rfl (Nat.le_of_ble_eq_true rfl) ?_
 refine zSR (aJ (List.replicate 12 (0:UInt8)) pC rfl rfl rfl ?_)
 rintro w1 b1 hn1 ha1 hc1 hl1
 refine zNR (aJ (List.replicate 12 (0:UInt8)) pC rfl rfl rfl ?_)
 rintro w2 b2 hn2 ha2 hc2 hl2
 refine a8 (a7 (ae (aO bG (.pure 0 (.pure 1 (.pure 2 (.pure 4 (.eff 3 [] (.eff 5 [] (.eff 6 [] .nil))))))) (by kernel_rfl) ?_)))
 refine aj rfl rfl rfl (fun _=>bI ke I5 rfl) ?_
 refine ym rfl rfl rfl ?_
 refine aj rfl rfl rfl (fun _=>(cP rfl bK dV)) ?_
 refine ym rfl rfl rfl ?_
 refine aG rfl rfl rfl lp (fP (.slice none 0 0) [] (cW (page.toNat:Int)) 4 _ (Own.nil _) (by decide) (by decide)) ?_
 rintro v3 w3 ⟨ho3,hc3,hi3⟩
 refine⟨trivial,?_⟩
 have hc3:Chg [] w2 w3:=hc3
 have hi3:In v3 [] w2.heap.size:=hi3
 rw[u64_u32] at ho3
 refine aG rfl rfl rfl lp (fP v3 _ gen 8 w3 ho3 (by decide) (by simp[aI])) ?_
 rintro v4 w4 ⟨ho4,hc4,hi4⟩
 refine⟨trivial,?_⟩
 have hc4:Chg [] w2 w4:=hc3.t0 hc4 hi3.ge
 rw[List.nil_append,←xl] at ho4
 refine bC rfl rfl rfl (ew (k:=0) aR I5 rfl rfl rfl rfl (ho4.sl.src) (ha2.chg0 hc4) (by first | (simp; done) | omega)) ?_
 rintro w5 ⟨ha5,hc5,hs5⟩
 refine⟨trivial,?_⟩
 refine aQ (a7 (ae (al ?_)))
 rw[hl,Nat.min_self,List.take_of_length_le (Nat.le_of_eq hl),cy (by rw[hl]; rfl)] at ha5
 refine a6 rfl (cF 12 ke rfl pC rfl rfl (ha5) (by first | assumption | rfl | (simp <;> omega))) ?_
 refine aH rfl (bl 12 pC rfl (((ha1.chg0 hc2).chg0 hc4).nb hc5 (by omega)) rfl rfl (rfl) (hl)) ?_
 rintro w6 ⟨ha6,hc6,hs6⟩
 refine a8 (a7 (bQ (cE ?_)))
 exact⟨[bT (bY page.toNat gen.toNat)],⟨⟨_,rfl,cV 12 ke rfl pC rfl ha6 hl⟩,trivial⟩,rfl,(((hc1.tr hc2).tr hc4).t1 hc5 (by omega)).t1 hc6 (by omega)⟩
theorem wy(k nonce:List UInt8)(av cv:Value)(aad c:List UInt8)(w:World)(hk:k.length=32)(hn:nonce.length=12)(ha:Sl w av aad)(hc:Sl w cv c)(hal:aad.length≤1000)(hcl:c.length≤100000000) :
  Ret Tryz.prog 205 #[bT k,bT nonce,av,cv] w fun v w'=>v=bT (rF k nonce aad c)∧Chg [] w w':=by
 have hob1:=ha.form rfl
 obtain⟨pa,ca,rfl⟩:=hob1
 have hl:=j7 k nonce aad c
 refine et [.cell 8 285] Tryz.func205 rfl rfl (Nat.le_of_ble_eq_true rfl) ?_
 refine zSR (cH (l:=k) rfl rfl ?_)
 rintro w1 b1 hn1 ha1 hc1 hl1
 refine cH (l:=nonce) rfl rfl ?_
 rintro w2 b2 hn2 ha2 hc2 hl2
 refine aJ (List.replicate 16 (0:UInt8)) ur rfl rfl rfl ?_
 rintro w3 b3 hn3 ha3 hc3 hl3
 refine zNR (a6 rfl (cF 32 gq rfl I63 rfl rfl ((ha1.chg0 hc2).chg0 hc3) (by first | assumption | rfl | (simp <;> omega))) ?_)
 refine ah rfl Ax (iD k hk zu 0 0 rfl w3 (by decide)) ?_
 rintro _ w4 ⟨rfl,hc4⟩
 have hdl:=du k zu 0
 refine aJ (List.replicate 32 (0:UInt8)) I63 rfl rfl rfl ?_
 rintro w5 b5 hn5 ha5 hc5 hl5
 refine aH rfl (bl 32 I63 rfl (ha5) rfl rfl (rfl) (hdl)) ?_
 rintro w6 ⟨ha6,hc6,hs6⟩
 refine zNR (zm rfl (a6 rfl (ax rfl aR) (a6 rfl (cP rfl uU3 dV) ?_)))
 have hc06:Chg [] w w6:=((((hc1.tr hc2).tr hc3).tr hc4).tr hc5).t1 hc6 (by have:=hc4.1; omega)
 refine ah rfl lp (fP (.slice none 0 0) [] (cW (aad.length:Int)) 8 _ (Own.nil _) (by decide) (by decide)) ?_
 rintro v7 w7 ⟨ho7,hc7,hi7⟩
 refine zm rfl ?_
 have hc7:Chg [] w6 w7:=hc7
 have hi7:In v7 [] w6.heap.size:=hi7
 have h64:(cW (aad.length:Int)).toNat=aad.length:=by rw[dX,UInt64.toNat_ofNat']; omega
 rw[h64,List.nil_append] at ho7
 have hbl:∀x:Nat,(be 8 x).length=8:=aI 8
 refine bJ aR aR I5 (.inr ⟨_,rfl⟩) rfl rfl rfl (by decide) rfl (ho7) ((ha.mod0 (hc06.tr hc7)).src) rfl rfl (by rw[hbl]; omega) ?_
 rintro v8 w8 h8
 refine za rfl (zNR (zm rfl ?_))
 have hob2:=h8.step hc7 hi7
 obtain⟨ho8,hc8,hi8⟩:=hob2
 have hn6:Arr w6 b2 nonce:=(((ha2.chg0 hc3).chg0 hc4).chg0 hc5).nb hc6 (by have:=hc4.1; omega)
 refine a6 rfl (bI ke I5 rfl) ?_
 refine bJ aR aR I5 (.inr ⟨_,rfl⟩) rfl rfl rfl (by decide) rfl (ho8) (((hn6.chg0 hc8).sl (n:=12) (c:=12) hn (Nat.le_refl _)).src) rfl rfl (by rw[List.length_append,hbl]; omega) ?_
 rintro v9 w9 h9
 refine zm rfl ?_
 have hob3:=h9.step hc8 hi8
 obtain⟨ho9,hc9,hi9⟩:=hob3
 refine bJ aR aR I5 (.inr ⟨_,rfl⟩) rfl rfl rfl (by decide) rfl (ho9) ((hc.mod0 (hc06.tr hc9)).src) rfl rfl (by rw[List.length_append,List.length_append,hbl]; omega) ?_
 rintro va wa ha
 refine za rfl (a8 (a7 (ae (al ?_))))
 have hob4:=ha.step hc9 hi9
 obtain⟨hoa,hca,hia⟩:=hob4
 refine a6 rfl (bI gq I5 rfl) ?_
 refine zm rfl (ah rfl C233 (xY _ va _ _ wa ((ha6.chg0 hca).sl (n:=32) (c:=32) hdl (Nat.le_refl _)) hoa.sl (by omega) (by simp[hbl]; omega)) ?_)
 rintro _ wb ⟨rfl,hcb⟩
 have htd:rF k nonce aad c=(lT (aW k zu 0) (be 8 aad.length++aad++nonce++c)).take 16:=Ba _ _ _ _
 generalize hmm:lT (aW k zu 0) (be 8 aad.length++aad++nonce++c)=mm at *
 have hml:mm.length=32:=by rw[←hmm,dc]
 refine aJ (List.replicate 32 (0:UInt8)) I62 rfl rfl rfl ?_
 rintro wc bc hnc hac hcc hlc
 refine aH rfl (bl 32 I62 rfl (hac) rfl rfl (rfl) (hml)) ?_
 rintro wd ⟨had,hcd,hsd⟩
 refine zNR (aJ (List.replicate 16 (0:UInt8)) ur rfl rfl rfl ?_)
 rintro we be' hne hae hce hle
 refine a8 (a7 (ae (aO bG (.pure 0 (.pure 1 (.eff 2 [] .nil))) (by kernel_rfl) ?_)))
 refine aj rfl rfl rfl (fun _=>bI qk I5 rfl) ?_
 refine aj rfl rfl rfl (fun _=>bI oW I5 rfl) ?_
 refine bC rfl rfl rfl (ew (k:=0) aR I5 rfl rfl rfl rfl (((had.chg0 hce).sl (n:=32) (c:=32) hml (Nat.le_refl _)).srcH rfl) (hae) (by first | (simp; done) | omega)) ?_
 rintro wf ⟨haf,hcf,hsf⟩
 refine⟨trivial,?_⟩
 refine aQ (a7 (ae (al ?_)))
 have hcf:Chg [be'] we wf:=hcf
 rw[hml,show min 32 16=16 from rfl,←htd,cy (by rw[hl]; rfl)] at haf
 have kk:wa.heap.size≤wb.heap.size:=hcb.1
 have hcA:Chg [] w6 we:=(((hca.tr hcb).tr hcc).t1 hcd (by have:=hca.1; omega)).tr hce
 refine a6 rfl (cF 16 qk rfl ur rfl rfl (haf) (by first | assumption | rfl | (simp <;> omega))) ?_
 refine aH rfl (bl 16 ur rfl (((((((ha3.chg0 hc4).chg0 hc5).nb hc6 (by have:=hc4.1; omega))).chg0 hcA).nb hcf (by have:=hc4.1; have:=hca.1; omega))) rfl rfl (rfl) (hl)) ?_
 rintro wg ⟨hag,hcg,hsg⟩
 refine a8 (a7 (bQ (cE ?_)))
 exact⟨[bT (rF k nonce aad c)],⟨⟨_,rfl,cV 16 qk rfl ur rfl hag hl⟩,trivial⟩,rfl,(((hc06.tr hcA).t1 hcf (by have:=hc06.1; have:=hca.1; omega))).t1 hcg (by omega)⟩
theorem wm(k nonce:List UInt8)(bv:Value)(l:List UInt8)(w:World)(hk:k.length=32)(hn:nonce.length=12)(hb:Sl w bv l)(hl:l.length≤100000000) :
  Ret Tryz.prog 206 #[bT k,bT nonce,bv] w fun v w'=>Own w' v (fb k nonce l)∧Chg [] w w'∧In v [] w.heap.size:=by
 refine enter [6] Tryz.func206 rfl rfl (Nat.le_of_ble_eq_true rfl) ?_
 refine zSR (cH (l:=k) rfl rfl ?_)
 rintro w1 b1 hn1 ha1 hc1 hl1
 refine cH (l:=nonce) rfl rfl ?_
 rintro w2 b2 hn2 ha2 hc2 hl2
 refine za rfl (a8 (a7 (ae (aO bG (.read 0 (.read 2 (.pure 3 (.eff 1 [2] (.eff 4 [] (.pure 5 .nil)))))) (by kernel_rfl) ?_))))
 have ha1':Arr w2 b1 k:=ha1.chg0 hc2
 refine dR 32 rfl rfl rfl gq rfl I63 rfl rfl (ha1') (by first | assumption | rfl | (simp <;> omega)) ?_
 refine dR 12 rfl rfl rfl ke rfl pC rfl rfl (ha2) (by first | assumption | rfl | (simp <;> omega)) ?_
 refine ym rfl rfl rfl ?_
 refine aG rfl rfl rfl Ax (iD k hk tEnc 0 0 rfl _ (by decide)) ?_
 rintro _ w3 ⟨rfl,hc3⟩
 have hc3:Chg [] w2 w3:=hc3
 refine⟨⟨ha2.chg0 hc3,trivial⟩,?_⟩
 refine aG rfl rfl rfl C242 (XorS_ok _ nonce 1 bv l w3 (du k tEnc 0) hn (hb.mod0 ((hc1.tr hc2).tr hc3)) hl) ?_
 rintro v4 w4 ⟨ho4,hc4,hi4⟩
 refine⟨trivial,?_⟩
 refine ya rfl rfl rfl ?_
 refine aQ (a7 (zrf ?_))
 rw[←xI] at ho4
 have hc03:=(hc1.tr hc2).tr hc3
 exact⟨ho4,hc03.tr hc4,hi4.mono (fun b hb => .inl hb) hc03.1⟩
theorem gQ(k nonce:List UInt8)(av pv:Value)(aad p:List UInt8)(w:World)(hk:k.length=32)(hn:nonce.length=12)(ha:Sl w av aad)(hp:Sl w pv p)(hal:aad.length≤1000)(hpl:p.length≤100000000) :
  Ret Tryz.prog 196 #[bT k,bT nonce,av,pv] w fun v w'=>Own w' v (eL k nonce aad p)∧Chg [] w w'∧In v [] w.heap.size:=by
 refine enter [8] Tryz.func196 rfl rfl (Nat.le_of_ble_eq_true rfl) ?_
 refine zSR (cH (l:=k) rfl rfl ?_)
 rintro w1 b1 hn1 ha1 hc1 hl1
 refine cH (l:=nonce) rfl rfl ?_
 rintro w2 b2 hn2 ha2 hc2 hl2
 refine za rfl (a8 (a7 (ae (al ?_))))
 have hc02:=hc1.tr hc2
 refine a6 rfl (cF 32 gq rfl I63 rfl rfl (ha1.chg0 hc2) (by first | assumption | rfl | (simp <;> omega))) ?_
 refine a6 rfl (cF 12 ke rfl pC rfl rfl (ha2) (by first | assumption | rfl | (simp <;> omega))) ?_
 refine zm rfl (ah rfl C206 (wm k nonce pv p w2 hk hn (hp.mod0 hc02) hpl) ?_)
 rintro v3 w3 ⟨ho3,hc3,hi3⟩
 refine za rfl (zNR (a6 rfl (cF 32 gq rfl I63 rfl rfl ((ha1.chg0 hc2).chg0 hc3) (by first | assumption | rfl | (simp <;> omega))) ?_))
 refine a6 rfl (cF 12 ke rfl pC rfl rfl (ha2.chg0 hc3) (by first | assumption | rfl | (simp <;> omega))) ?_
 refine zm rfl (zm rfl (ah rfl C205 (wy k nonce av v3 aad _ w3 hk hn (ha.mod0 (hc02.tr hc3)) ho3.sl hal (by rw[fj]; omega)) ?_))
 rintro _ w4 ⟨rfl,hc4⟩
 have htl:=j7 k nonce aad (fb k nonce p)
 refine aJ (List.replicate 16 (0:UInt8)) ur rfl rfl rfl ?_
 rintro w5 b5 hn5 ha5 hc5 hl5
 refine aH rfl (bl 16 ur rfl (ha5) rfl rfl (rfl) (htl)) ?_
 rintro w6 ⟨ha6,hc6,hs6⟩
 refine zNR (zm rfl ?_)
 have hc36:Chg [] w3 w6:=(hc4.tr hc5).t1 hc6 (by have:=hc4.1; omega)
 refine a6 rfl (bI qk I5 rfl) ?_
 refine bJ aR aR I5 (.inr ⟨_,rfl⟩) rfl rfl rfl (by decide) rfl (ho3.mod0 hc36) ((ha6.sl (n:=16) (c:=16) htl (Nat.le_refl _)).src) rfl rfl (by rw[fj,htl]; omega) ?_
 rintro v7 w7 h7
 refine za rfl (a8 (a7 (zrf ?_)))
 have hi3:In v3 [] w.heap.size:=hi3.mono (fun b hb => .inl hb) hc02.1
 have hob5:=h7.step ((hc02.tr hc3).tr hc36) hi3
 obtain⟨ho7,hc7,hi7⟩:=hob5
 rw[←nL] at ho7
 exact⟨ho7,hc7,hi7⟩
def oG(k nonce aad b:List UInt8)(v:Value)(w:World):Prop :=
 if b.length<16 then v = .tuple #[.slice none 0 0,.int .i64 10]
 else if lA k nonce aad b then ∃r,v = .tuple #[r,.int .i64 0]∧Own w r (fb k nonce (b.take (b.length-16)))
 else v = .tuple #[.slice none 0 0,.int .i64 50]
theorem uo(k nonce:List UInt8)(av bv:Value)(aad b:List UInt8)(w:World)(hk:k.length=32)(hn:nonce.length=12)(ha:Sl w av aad)(hb:Sl w bv b)(hal:aad.length≤1000)(hbl:b.length≤100000000) :
  Ret Tryz.prog 159 #[bT k,bT nonce,av,bv] w fun v w'=>oG k nonce aad b v w'∧Chg [] w w':=by
 have hob6:=hb.form rfl
 obtain⟨pb,cb,rfl⟩:=hob6
 refine enter [8,9] Tryz.func159 rfl rfl (Nat.le_of_ble_eq_true rfl) ?_
 refine zSR (cH (l:=k) rfl rfl ?_)
 rintro w1 b1 hn1 ha1 hc1 hl1
 refine cH (l:=nonce) rfl rfl ?_
 rintro w2 b2 hn2 ha2 hc2 hl2
 refine za rfl (za rfl (zNR (aJ (List.replicate 16 (0:UInt8)) ur rfl rfl rfl ?_)))
 rintro w3 b3 hn3 ha3 hc3 hl3
 refine zNR (zm rfl (a6 rfl (ax rfl aR) (a6 rfl (cj rfl rfl (by omega)) (za rfl ?_))))
 refine a8 (a7 (ae (zSR (zm rfl (a6 rfl (bz rfl rfl) ?_)))))
 refine a8 (a7 (aC rfl (fun h=>?_) (fun h=>?_)))
 ·refine zSR (za rfl (za rfl (a8 (a7 (zrt ?_)))))
  refine⟨?_,(hc1.tr hc2).tr hc3⟩
  unfold oG; rw[if_pos (by omega)]; rfl
 ·refine aA (a7 (ae ?_))
  have h16:16≤b.length:=by omega
  have hc03:=(hc1.tr hc2).tr hc3
  have hk3:Arr w3 b1 k:=(ha1.chg0 hc2).chg0 hc3
  have hn3':Arr w3 b2 nonce:=ha2.chg0 hc3
  refine aO bG (.pure 0 (.pure 1 (.pure 2 (.pure 3 (.eff 4 [] .nil))))) (by kernel_rfl) ?_
  refine aj rfl rfl rfl (fun _=>bI qk I5 rfl) ?_
  refine ym rfl rfl rfl ?_
  refine ym rfl rfl rfl ?_
  refine bA rfl rfl rfl (dF (b.length-16) aR I5 rfl (hb.mod0 hc03) rfl rfl (by omega) (by omega)) ?_
  rintro _ ⟨⟨p4,c4,rfl⟩,hs4,hbl4⟩
  refine bC rfl rfl rfl (ew (k:=0) aR I5 rfl rfl rfl rfl (hs4.srcH rfl) (ha3) (by first | (simp; done) | omega)) ?_
  rintro w4 ⟨ha4,hc4,hs4'⟩
  refine⟨trivial,?_⟩
  refine aQ (a7 (ae (ae ?_)))
  have hc4:Chg [b3] w3 w4:=hc4
  have hdl:(b.drop (b.length-16)).length=16:=by rw[List.length_drop]; omega
  rw[hdl,Nat.min_self,List.take_of_length_le (Nat.le_of_eq hdl),cy (by rw[hdl]; rfl)] at ha4
  have hc04:=hc03.t1 hc4 (by omega)
  have hk4:Arr w4 b1 k:=hk3.nb hc4 (by omega)
  have hn4:Arr w4 b2 nonce:=hn3'.nb hc4 (by omega)
  have htk:(b.take (b.length-16)).length=b.length-16:=by rw[List.length_take]; omega
  refine aO bG (.read 0 (.read 1 (.read 2 (.pure 3 (.pure 4 (.pure 5 (.pure 6 (.eff 7 [0] (.pure 8 .nil))))))))) (by kernel_rfl) ?_
  refine dR 16 rfl rfl rfl qk rfl ur rfl rfl (ha4) (by first | assumption | rfl | (simp <;> omega)) ?_
  refine dR 32 rfl rfl rfl gq rfl I63 rfl rfl (hk4) (by first | assumption | rfl | (simp <;> omega)) ?_
  refine dR 12 rfl rfl rfl ke rfl pC rfl rfl (hn4) (by first | assumption | rfl | (simp <;> omega)) ?_
  refine ym rfl rfl rfl ?_
  refine ym rfl rfl rfl ?_
  refine ym rfl rfl rfl ?_
  refine bA rfl rfl rfl (gm (b.length-16) aR I5 (hb.mod0 hc04) rfl rfl (by omega) (by omega)) ?_
  rintro _ ⟨⟨p5,c5,rfl⟩,hs5,hbl5⟩
  refine aG rfl rfl rfl C205 (wy k nonce av _ aad _ _ hk hn (ha.mod0 hc04) hs5 hal (by omega)) ?_
  rintro _ w6 ⟨rfl,hc6⟩
  have hc6:Chg [] w4 w6:=hc6
  refine⟨⟨ha4.chg0 hc6,trivial⟩,?_⟩
  have htl:=j7 k nonce aad (b.take (b.length-16))
  refine aj rfl rfl rfl (fun _=>x_neArr qk I5 rfl uU5 (by kernel_rfl) rfl rfl (hdl) (htl)) ?_
  refine aQ (a7 ?_)
  have hc06:=hc04.tr hc6
  refine aC rfl (fun hne=>?_) (fun hne=>?_)
  ·refine zSR (za rfl (za rfl (a8 (a7 (zrt ?_)))))
   refine⟨?_,hc06⟩
   unfold oG
   rw[if_neg (by omega),if_neg (by unfold lA; exact hne)]; rfl
  ·refine aA (a7 (ae ?_))
   have heq:lA k nonce aad b:=by unfold lA; exact Decidable.not_not.1 hne
   refine aO bG (.read 0 (.read 1 (.pure 2 (.pure 3 (.pure 4 (.eff 5 [] (.pure 6 (.pure 7 .nil)))))))) (by kernel_rfl) ?_
   refine dR 32 rfl rfl rfl gq rfl I63 rfl rfl (hk4.chg0 hc6) (by first | assumption | rfl | (simp <;> omega)) ?_
   refine dR 12 rfl rfl rfl ke rfl pC rfl rfl (hn4.chg0 hc6) (by first | assumption | rfl | (simp <;> omega)) ?_
   refine ym rfl rfl rfl ?_
   refine ym rfl rfl rfl ?_
   refine bA rfl rfl rfl (gm (b.length-16) aR I5 (hb.mod0 hc06) rfl rfl (by omega) (by omega)) ?_
   rintro _ ⟨⟨p7,c7,rfl⟩,hs7,hbl7⟩
   refine aG rfl rfl rfl C206 (wm k nonce _ _ _ hk hn hs7 (by omega)) ?_
   rintro v8 w8 ⟨ho8,hc8,hi8⟩
   refine⟨trivial,?_⟩
   refine ya rfl rfl rfl ?_
   refine ya rfl rfl rfl ?_
   refine aQ (a7 (zrf ?_))
   have hc8:Chg [] w6 w8:=hc8
   refine⟨?_,hc06.tr hc8⟩
   unfold oG
   rw[if_neg (by omega),if_pos heq]
   exact⟨_,rfl,ho8⟩
end Go.Proofs.YtpbfapbajmdlkaaGreat

end
section
namespace Go.Proofs.YtpbfapbajmdlkaaGreat
open Go Go.Sac
set_option maxRecDepth 100000
set_option maxHeartbeats 4000000
theorem BI(w:World)(b:Nat)(n m:Nat)(cs:List Value)(hb:Blk w b (.int .i64 n :: .int .i64 m::cs)) :
  Ret Tryz.prog 86 #[.pointer (some ⟨b,0,none⟩)] w fun v w'=>v = .bool (decide (0<m)&&decide (m≤n))∧Hp w' w:=by
 refine enter [2] Tryz.func86 rfl rfl (Nat.le_of_ble_eq_true rfl) ?_
 refine zSR (za rfl (a8 (a7 (ae ?_))))
 by_cases h:0<m
 ·refine aO bG (.pure 0 (.pure 1 (.pure 2 (.read 3 (.pure 4 (.pure 5 (.pure 6 (.pure 7 (.pure 8 (.read 9 (.pure 10 (.pure 11 (.pure 12 (.read 13 (.pure 14 (.pure 15 (.pure 16 .nil))))))))))))))))) (by kernel_rfl) ?_
  refine ym rfl rfl rfl ?_
  refine yn rfl rfl rfl rfl ?_
  refine aj rfl rfl rfl (fun _=>(aa zr rfl I3 rfl rfl)) ?_
  refine aX rfl rfl rfl uU3 rfl rfl (hb.c (off:=1) rfl) ?_
  refine aj rfl rfl rfl (fun _=>bR (di rfl rfl) (congrArg Value.bool (decide_eq_true (by omega)))) ?_
  refine ym rfl rfl rfl ?_
  refine ym rfl rfl rfl ?_
  refine yn rfl rfl rfl rfl ?_
  refine aj rfl rfl rfl (fun _=>(aa zr rfl I3 rfl rfl)) ?_
  refine aX rfl rfl rfl uU3 rfl rfl (hb.c (off:=0) rfl) ?_
  refine ym rfl rfl rfl ?_
  refine yn rfl rfl rfl rfl ?_
  refine aj rfl rfl rfl (fun _=>(aa zr rfl I3 rfl rfl)) ?_
  refine aX rfl rfl rfl uU3 rfl rfl (hb.c (off:=1) rfl) ?_
  refine aj rfl rfl rfl (fun _=>(j5 rfl rfl)) ?_
  refine aj rfl rfl rfl (fun _=>(aN rfl)) ?_
  refine ya rfl rfl rfl ?_
  refine aQ (a7 (zrf ?_))
  refine⟨?_,rfl⟩
  rw[decide_eq_true h]
  refine bool_eq ?_
  rw[Bool.true_and]
  exact decide_eq_decide.2 (by omega)
 ·refine aO bG (.pure 0 (.pure 1 (.pure 2 (.read 3 (.pure 4 (.pure 5 (.pure 6 (.pure 7 (.pure 8 (.read 9 (.pure 10 (.pure 11 (.pure 12 (.read 13 (.pure 14 (.pure 15 (.pure 16 .nil))))))))))))))))) (by kernel_rfl) ?_
  refine ym rfl rfl rfl ?_
  refine yn rfl rfl rfl rfl ?_
  refine aj rfl rfl rfl (fun _=>(aa zr rfl I3 rfl rfl)) ?_
  refine aX rfl rfl rfl uU3 rfl rfl (hb.c (off:=1) rfl) ?_
  refine aj rfl rfl rfl (fun _=>bR (di rfl rfl) (congrArg Value.bool (decide_eq_false (by omega)))) ?_
  refine ym rfl rfl rfl ?_
  refine aZ rfl rfl rfl ?_
  refine aZ rfl rfl rfl ?_
  refine aZ rfl rfl rfl ?_
  refine dv rfl rfl rfl ?_
  refine aZ rfl rfl rfl ?_
  refine aZ rfl rfl rfl ?_
  refine aZ rfl rfl rfl ?_
  refine dv rfl rfl rfl ?_
  refine aZ rfl rfl rfl ?_
  refine aj rfl rfl rfl (fun _=>(aL rfl)) ?_
  refine ya rfl rfl rfl ?_
  refine aQ (a7 (zrf ?_))
  refine⟨?_,rfl⟩
  rw[decide_eq_false h]; rfl
theorem yl(w:World)(b:Nat)(n m:Nat)(cs:List Value)(hb:Blk w b (.int .i64 n :: .int .i64 m::cs))(hn:n≤1000000000000) :
  Ret Tryz.prog 178 #[.pointer (some ⟨b,0,none⟩)] w fun v w'=>v = .bool (!(decide (0<m)&&decide (m≤n+1)))∧Blk w' b (.int .i64 ((n+1:Nat):Int) :: .int .i64 m::cs)∧Chg [b] w w'∧w'.heap.size=w.heap.size:=by
 refine enter [2] Tryz.func178 rfl rfl (Nat.le_of_ble_eq_true rfl) ?_
 refine zSR (za rfl (zNR (zm rfl (zn rfl rfl (a6 rfl (aa zr rfl I3 rfl rfl) ?_)))))
 refine a6 rfl (az uU3 rfl rfl (hb.c (off:=0) rfl)) ?_
 refine a6 rfl (aD rfl rfl (by omega)) (zn rfl rfl (a6 rfl (aa zr rfl I3 rfl rfl) ?_))
 refine aH rfl (bD I3 rfl rfl (hb) rfl rfl (show 0<_ by simp) rfl (rfl)) ?_
 rintro w1 ⟨hb1,hc1,hs1⟩
 refine zNR (zm rfl (ah rfl C86 (BI w1 b (n+1) m cs hb1) ?_))
 rintro _ w2 ⟨rfl,hh⟩
 refine a6 rfl (cA rfl) (za rfl (a8 (a7 (zrf ?_))))
 exact⟨rfl,hb1.heap hh,hc1.tr0 (Chg.heap hh),by rw[hh.heap]; exact hs1⟩
theorem is_ok(w:World)(b r:Nat)(kv:Value)(s:DSt)(i:Int)(hd:DiskAt w b kv r s) :
  Ret Tryz.prog 231 #[.pointer (some ⟨b,0,none⟩),.int .i64 i] w fun v w'=>v = .bool (s.is i)∧Hp w' w:=by
 obtain⟨hb,hk,hm,h1,h2,h3⟩:=hd
 have hob1:=hk.form rfl
 obtain⟨pk,ck,rfl⟩:=hob1
 refine enter [4] Tryz.func231 rfl rfl (Nat.le_of_ble_eq_true rfl) ?_
 refine zSR (za rfl (zNR (zm rfl ?_)))
 by_cases h:0≤i
 ·refine a6 rfl (bR (j5 rfl rfl) (congrArg Value.bool (decide_eq_true (h)))) ?_
  refine zm rfl (ag rfl (zm rfl (ag rfl (zm rfl (ag rfl (zn rfl rfl (ag rfl (a6 rfl (aa oV rfl I96 rfl rfl) (ag rfl ?_)))))))))
  refine a6 rfl (az tF rfl rfl (hb.c (off:=2) rfl)) ?_
  refine ag rfl (a6 rfl (ax rfl tF) (ag rfl (a6 rfl (bz rfl rfl) (a6 rfl (aN rfl) (za rfl ?_)))))
  refine a8 (a7 (zrf ?_))
  refine⟨?_,rfl⟩
  unfold DSt.is
  rw[decide_eq_true h,Bool.true_and]; rfl
 ·refine a6 rfl (bR (j5 rfl rfl) (congrArg Value.bool (decide_eq_false (h)))) ?_
  refine zm rfl (ay rfl rfl (ay rfl rfl (ay rfl rfl (ay rfl rfl (ay rfl rfl (ay rfl rfl (ay rfl rfl (a6 rfl (aL rfl) (za rfl (a8 (a7 (zrf ?_))))))))))))
  refine⟨?_,rfl⟩
  unfold DSt.is
  rw[decide_eq_false h]; rfl
theorem Len_ok(w:World)(b r:Nat)(kv:Value)(s:DSt)(hd:DiskAt w b kv r s) :
  Ret Tryz.prog 138 #[.pointer (some ⟨b,0,none⟩)] w fun v w'=>v = .int .i64 s.kept.length∧Hp w' w:=by
 obtain⟨hb,hk,hm,h1,h2,h3⟩:=hd
 have hob2:=hk.form rfl
 obtain⟨pk,ck,rfl⟩:=hob2
 refine enter [2] Tryz.func138 rfl rfl (Nat.le_of_ble_eq_true rfl) ?_
 refine zSR (za rfl (zNR (zm rfl (zn rfl rfl (a6 rfl (aa oV rfl I96 rfl rfl) ?_)))))
 refine a6 rfl (az tF rfl rfl (hb.c (off:=2) rfl)) ?_
 refine a6 rfl (ax rfl tF) (za rfl ?_)
 refine a8 (a7 (zrf ?_))
 exact⟨rfl,rfl⟩
theorem SNew_ok(w:World)(n:Nat)(hn:n≤4000) :
  Ret Tryz.prog 37 #[.int .i64 n] w fun v w'=>∃b kv r,v = .pointer (some ⟨b,0,none⟩)∧DiskAt w' b kv r ⟨0,0,List.replicate n sec0,[]⟩∧Chg [] w w'∧(∀x∈DF b kv r,w.heap.size≤x):=by
 refine enter [2] Tryz.func37 rfl rfl (Nat.le_of_ble_eq_true rfl) ?_
 refine zSR (za rfl (zNR (zm rfl (a6 rfl (ow rfl rfl) (a6 rfl (iG rfl rfl) ?_)))))
 refine aS rfl (pO (n) (n) (sec0) tF j3 rfl rfl rfl (by decide) rfl rfl (by decide) (by first | rfl | omega) (by first | rfl | omega) (by omega) (by omega)) ?_
 rintro _ w1 ⟨⟨p1,c1,rfl⟩,ho1,hc1,hi1⟩
 refine aS rfl (lr Int) ?_
 rintro _ w2 ⟨r,rfl,hr,hm2,hc2,hl2⟩
 refine a6 rfl (bN oV I99 rfl (zs:=[.int .i64 0,.int .i64 0,.slice none 0 0,.map none]) rfl rfl (bZ rfl rfl rfl (Nat.le_of_ble_eq_true rfl) (bZ rfl rfl rfl (Nat.le_of_ble_eq_true rfl) (ej (cs':=[.int .i64 0,.int .i64 0,.slice p1 n c1,.map (some r)]) rfl)))) ?_
 refine aS rfl (cg rfl rfl) ?_
 rintro _ w3 ⟨b,rfl,hb,hB,hc3,hl3⟩
 refine za rfl (a8 (a7 (zrf ?_)))
 have hlt:=ho1.sl.lt
 refine⟨b,.slice p1 n c1,r,rfl,⟨hB,(ho1.mod0 hc2).mod0 hc3,hm2.mod hc3 (by simp),by omega,fun h=>?_,fun h=>?_⟩,(hc1.tr hc2).tr hc3,fun x hx=>?_⟩
 ·have:=hlt b h; have:=hc2.1; omega
 ·have:=hlt r h; omega
 ·have k1:=hc1.1
  have k2:=hc2.1
  simp only[DF,List.mem_cons] at hx
  rcases hx with rfl | rfl | hx
  ·omega
  ·omega
  ·exact hi1.ge x hx
theorem BK(w:World)(b r:Nat)(kv:Value)(s:DSt)(i:Int)(hd:DiskAt w b kv r s)(hi:s.is i=true) :
  Ret Tryz.prog 232 #[.pointer (some ⟨b,0,none⟩),.int .i64 i] w fun v w'=>v=bT (s.now i).1∧Chg [] w w':=by
 obtain⟨hb,hk,hm,h1,h2,h3⟩:=hd
 have hob3:=DSt.is_iff.1 hi
 obtain⟨hi0,hi1⟩:=hob3
 refine et [.cell 4 205] Tryz.func232 rfl rfl (Nat.le_of_ble_eq_true rfl) ?_
 refine zSR (aJ (List.replicate 64 (0:UInt8)) j3 rfl rfl rfl ?_)
 rintro w1 b1 hn1 ha1 hc1 hl1
 refine a8 (a7 (ae (zSR (zm rfl (zn rfl rfl (a6 rfl (aa oV rfl I97 rfl rfl) ?_))))))
 refine a6 rfl (az uJ rfl rfl ((hb.chg0 hc1).c (off:=3) rfl)) ?_
 refine zm rfl (a6 rfl (bR (zi uJ (sX uU3) j3 rfl rfl rfl (hm.mod hc1 (by simp))) (lookP i s.pend)) ?_)
 refine zm rfl (zx rfl rfl rfl (zx rfl rfl rfl (aJ (List.replicate 64 (0:UInt8)) j3 rfl rfl rfl ?_)))
 rintro w2 b2 hn2 ha2 hc2 hl2
 refine aH rfl (bl 64 j3 rfl (ha2) rfl rfl (rfl) (((bV i s.pend).getD sec0).2)) ?_
 rintro w3 ⟨ha3,hc3,hs3⟩
 refine za rfl (zNR (zm rfl (a8 (a7 ?_))))
 have hc03:=(hc1.tr hc2).t1 hc3 (by omega)
 have ha1':=(ha1.chg0 hc2).nb hc3 (by omega)
 refine cI rfl (fun h=>?_) (fun h=>?_)
 ·refine zSR (a6 rfl (cF 64 oy rfl j3 rfl rfl (ha3) (((bV i s.pend).getD sec0).2)) ?_)
  refine aH rfl (bl 64 j3 rfl (ha1') rfl rfl (rfl) (((bV i s.pend).getD sec0).2)) ?_
  rintro w4 ⟨ha4,hc4,hs4⟩
  refine a8 (a7 (bQ (bq (cE ?_))))
  have he:(bV i s.pend).getD sec0=s.now i:=by
   unfold DSt.now
   have hob4:=Option.isSome_iff_exists.1 h
   obtain⟨c,hc⟩:=hob4
   rw[hc]; rfl
  rw[he] at ha4
  exact⟨[bT (s.now i).1],⟨⟨_,rfl,cV 64 oy rfl j3 rfl ha4 (s.now i).2⟩,trivial⟩,rfl,hc03.t1 hc4 (by omega)⟩
 ·refine zKR (zm rfl (zn rfl rfl (a6 rfl (aa oV rfl I96 rfl rfl) ?_)))
  have hob5:=hk.form rfl
  obtain⟨pk,ck,rfl⟩:=hob5
  refine a6 rfl (az tF rfl rfl ((hb.chg0 hc03).c (off:=2) rfl)) ?_
  refine zm rfl (bg rfl (bW (i.toNat) tF j3 rfl ((hk.mod0 hc03).sl) rfl rfl (by first | rfl | omega) (by omega)) ?_)
  rintro _ ⟨bi,oi,rfl,hei,hbi⟩
  refine a6 rfl (pR 64 oy rfl j3 rfl ((hk.mod0 hc03).sl.at hei (getD_some (d:=sec0) (by omega))) ((s.kept.getD i.toNat sec0).2) rfl) ?_
  refine aH rfl (bl 64 j3 rfl (ha1') rfl rfl (rfl) ((s.kept.getD i.toNat sec0).2)) ?_
  rintro w4 ⟨ha4,hc4,hs4⟩
  refine a8 (a7 (bQ (cE ?_)))
  have he:s.kept.getD i.toNat sec0=s.now i:=by
   unfold DSt.now
   cases hm:bV i s.pend with
   | none => rfl
   | some c => rw [hm] at h; cases h
  rw[he] at ha4
  exact⟨[bT (s.now i).1],⟨⟨_,rfl,cV 64 oy rfl j3 rfl ha4 (s.now i).2⟩,trivial⟩,rfl,hc03.t1 hc4 (by omega)⟩
theorem Am(w:World)(b r:Nat)(kv bv:Value)(l:List UInt8)(s:DSt)(i:Int)(hd:DiskAt w b kv r s)(hf:s.Fine)(hb:Sl w bv l)(hbb:b∉ar bv) :
  Ret Tryz.prog 193 #[.pointer (some ⟨b,0,none⟩),.int .i64 i,bv] w fun v w'=>v = .int .i64 (s.write i l).2∧DiskAt w' b kv r (s.write i l).1∧Chg (DF b kv r) w w':=by
 have hob6:=hb.form rfl
 obtain⟨pb,cb,rfl⟩:=hob6
 obtain⟨hB,hk,hm,h1,h2,h3⟩:=id hd
 refine enter [6] Tryz.func193 rfl rfl (Nat.le_of_ble_eq_true rfl) ?_
 refine zSR (za rfl (a8 (a7 (ae (au (zSR (zm rfl (zn rfl rfl (a6 rfl (aa oV rfl I95 rfl rfl) ?_)))))))))
 refine ah rfl C178 (yl w b s.steps s.offAt _ hB hf.steps) ?_
 rintro _ w1 ⟨rfl,hb1,hc1,hs1⟩
 refine a6 rfl (cA rfl) (za rfl (a8 (a7 ?_)))
 have hd1:DiskAt w1 b kv r s.step:=hd.turn hb1 hc1 rfl rfl
 have hs0:s.step.off=(decide (0<s.offAt)&&decide (s.offAt≤s.steps+1)):=rfl
 rw[←hs0]
 refine cI rfl (fun h=>?_) (fun h=>?_)
 ·refine zSR (za rfl (a8 (a7 (zrb ?_))))
  have h:s.step.off=true:=by simpa using h
  refine⟨?_,?_,ot hc1⟩
  ·unfold DSt.write; rw[if_pos h]; rfl
  ·unfold DSt.write; rw[if_pos h]; exact hd1
 ·refine zSR (zm rfl (zm rfl ?_))
  have h:s.step.off=false:=by simpa using h
  refine ah rfl C231 (is_ok w1 b r kv s.step i hd1) ?_
  rintro _ w2 ⟨rfl,hh2⟩
  have hd2:DiskAt w2 b kv r s.step:=hd1.chg0 (Chg.heap hh2)
  have hc2:Chg [b] w w2:=hc1.tr0 (Chg.heap hh2)
  have k2:w2.heap.size=w.heap.size:=by rw[hh2.heap]; exact hs1
  have hsi:s.step.is i=s.is i:=rfl
  have hsn:s.step.now i=s.now i:=rfl
  by_cases hi:s.is i=true
  ·refine a6 rfl (bR (cA rfl) (congrArg Value.bool (show(!s.step.is i)=false by rw[hsi,hi]; rfl))) ?_
   refine zm rfl (ag rfl (zm rfl (ag rfl (a6 rfl (ax rfl aR) (ag rfl (a6 rfl (di rfl rfl) (a6 rfl (aL rfl) (za rfl ?_))))))))
   refine a8 (a7 (aC rfl (fun h64=>?_) (fun h64=>?_)))
   ·refine zSR (za rfl (a8 (a7 (zrb ?_))))
    refine⟨?_,?_,ot hc2⟩
    ·unfold DSt.write; rw[if_neg (by rw[h]; decide),if_pos (by rw[hi,decide_eq_true (by omega)]; rfl)]; rfl
    ·unfold DSt.write; rw[if_neg (by rw[h]; decide),if_pos (by rw[hi,decide_eq_true (by omega)]; rfl)]; exact hd2
   ·refine aA (aB (a7 (zSR (zm rfl (zm rfl ?_)))))
    have hl64:l.length≤64:=by omega
    refine ah rfl C232 (BK w2 b r kv s.step i hd2 (by rw[hsi,hi])) ?_
    rintro _ w3 ⟨rfl,hc3⟩
    rw[hsn]
    refine aJ (List.replicate 64 (0:UInt8)) j3 rfl rfl rfl ?_
    rintro w4 b4 hn4 ha4 hc4 hl4
    refine aH rfl (bl 64 j3 rfl (ha4) rfl rfl (rfl) ((s.now i).2)) ?_
    rintro w5 ⟨ha5,hc5,hs5⟩
    refine zNR (a6 rfl (bI oy I5 rfl) ?_)
    refine zm rfl ?_
    have hc25:Chg [] w2 w5:=(hc3.tr hc4).t1 hc5 (by have:=hc3.1; omega)
    have hblt:=hb.lt
    have hdlt:=hd.lt
    have hd5:=hd2.chg0 hc25
    obtain⟨hB5,hk5,hm5,_⟩:=id hd5
    have hb4:w2.heap.size≤b4:=Nat.le_trans hc3.1 hn4
    have hb5:Sl w5 (.slice pb l.length cb) l:=(hb.mod hc2 (nb1 hbb)).mod0 hc25
    refine dI rfl (ew (k:=0) aR I5 rfl rfl rfl rfl (hb5.src) (ha5) (by have:=(s.now i).2; omega)) ?_
    rintro w6 ⟨ha6,hc6,hs6⟩
    refine a8 (a7 (ae ?_))
    rw[Nat.min_eq_left hl64,List.take_of_length_le (Nat.le_refl _),uO,←l7 _ _ hl64] at ha6
    have hbn:∀x∈DF b kv r,x∉[b4]:=fun x hx h=>by
     have:=hdlt x hx
     simp only[List.mem_singleton] at h
     omega
    have hd6:=hd5.chg hc6 hbn
    obtain⟨hB6,hk6,hm6,_⟩:=id hd6
    refine aO bG (.pure 0 (.pure 1 (.pure 2 (.read 3 (.pure 4 (.read 5 (.eff 6 [] .nil))))))) (by kernel_rfl) ?_
    refine ym rfl rfl rfl ?_
    refine yn rfl rfl rfl rfl ?_
    refine aj rfl rfl rfl (fun _=>(aa oV rfl I97 rfl rfl)) ?_
    refine aX rfl rfl rfl uJ rfl rfl (hB6.c (off:=3) rfl) ?_
    refine ym rfl rfl rfl ?_
    refine dR 64 rfl rfl rfl oy rfl j3 rfl rfl (ha6) ((DSt.putS (s.now i) l).2) ?_
    refine cB rfl rfl rfl (gd (k:=i) (v:=bT (DSt.putS (s.now i) l).1) uJ (sX uU3) rfl rfl rfl hm6) ?_
    rintro w7 ⟨hm7,hc7,hs7⟩
    refine⟨trivial,?_⟩
    refine zPR (za rfl (a8 (a7 (zrf ?_))))
    have hc7:Chg [r] w6 w7:=hc7
    have hw:s.write i l=({ s.step with pend:=dj i (DSt.putS (s.now i) l) s.pend },0):=by
     unfold DSt.write; rw[if_neg (by rw[h]; decide),if_neg (by rw[hi,decide_eq_false (by omega)]; decide)]
    rw[hw]
    rw[vB] at hm7
    refine⟨rfl,⟨hB6.nb hc7 h1,hk6.mod hc7 (nb1 h3),hm7,h1,h2,h3⟩,?_⟩
    exact(((ot hc2).tr0 hc25).tn hc6 (by omega)).tr (hc7.mono (fun x hx _=>by simp at hx; subst hx; simp[DF]))
  ·have hi:s.is i=false:=by simpa using hi
   refine a6 rfl (bR (cA rfl) (congrArg Value.bool (show(!s.step.is i)=true by rw[hsi,hi]; rfl))) ?_
   refine zm rfl (ay rfl rfl (ay rfl rfl (ay rfl rfl (a6 rfl (aN rfl) (za rfl (a8 (a7 (bf (rfl) ?_))))))))
   refine zSR (za rfl (a8 (a7 (zrb ?_))))
   refine⟨?_,?_,ot hc2⟩
   ·unfold DSt.write; rw[if_neg (by rw[h]; decide),if_pos (by rw[hi]; rfl)]; rfl
   ·unfold DSt.write; rw[if_neg (by rw[h]; decide),if_pos (by rw[hi]; rfl)]; exact hd2
theorem Read_ok(w:World)(b r:Nat)(kv:Value)(s:DSt)(i:Int)(hd:DiskAt w b kv r s) :
  Ret Tryz.prog 190 #[.pointer (some ⟨b,0,none⟩),.int .i64 i] w fun v w'=>Chg [] w w'∧(if s.off then v = .tuple #[.slice none 0 0,.int .i64 61] else if s.is i then ∃p,v = .tuple #[p,.int .i64 0]∧Sl w' p (s.now i).1∧In p [] w.heap.size else v = .tuple #[.slice none 0 0,.int .i64 60]):=by
 obtain⟨hB,hk,hm,h1,h2,h3⟩:=id hd
 refine enter [4,5] Tryz.func190 rfl rfl (Nat.le_of_ble_eq_true rfl) ?_
 refine zSR (za rfl (za rfl (a8 (a7 (ae (au (zSR (zm rfl (zn rfl rfl (a6 rfl (aa oV rfl I95 rfl rfl) ?_))))))))))
 refine ah rfl C86 (BI w b s.steps s.offAt _ hB) ?_
 rintro _ w1 ⟨rfl,hh⟩
 refine za rfl (a8 (a7 ?_))
 have hs0:s.off=(decide (0<s.offAt)&&decide (s.offAt≤s.steps)):=rfl
 rw[←hs0]
 have hd1:DiskAt w1 b kv r s:=hd.chg0 (Chg.heap hh)
 refine cI rfl (fun h=>?_) (fun h=>?_)
 ·refine zSR (za rfl (za rfl (a8 (a7 (zrb ?_)))))
  refine⟨Chg.heap hh,?_⟩
  rw[if_pos h]; rfl
 ·refine zSR (zm rfl (zm rfl (ah rfl C231 (is_ok w1 b r kv s i hd1) ?_)))
  rintro _ w2 ⟨rfl,hh2⟩
  refine a6 rfl (cA rfl) (za rfl (a8 (a7 ?_)))
  have hd2:DiskAt w2 b kv r s:=hd1.chg0 (Chg.heap hh2)
  have hc2:Chg [] w w2:=(Chg.heap hh).tr (Chg.heap hh2)
  refine cI rfl (fun hi=>?_) (fun hi=>?_)
  ·refine zSR (za rfl (za rfl (a8 (a7 (zrb ?_)))))
   have hi:s.is i=false:=by simpa using hi
   refine⟨hc2,?_⟩
   rw[if_neg (by rw[h]; decide),if_neg (by rw[hi]; decide)]; rfl
  ·refine aA (aB (a7 (zSR (zm rfl (zm rfl ?_)))))
   have hi:s.is i=true:=by simpa using hi
   refine ah rfl C232 (BK w2 b r kv s i hd2 hi) ?_
   rintro _ w3 ⟨rfl,hc3⟩
   refine aJ (List.replicate 64 (0:UInt8)) j3 rfl rfl rfl ?_
   rintro w4 b4 hn4 ha4 hc4 hl4
   refine aH rfl (bl 64 j3 rfl (ha4) rfl rfl (rfl) ((s.now i).2)) ?_
   rintro w5 ⟨ha5,hc5,hs5⟩
   refine zNR (a6 rfl (bI oy I5 rfl) ?_)
   refine za rfl (za rfl (a8 (a7 (zrf ?_))))
   refine⟨((hc2.tr hc3).tr hc4).t1 hc5 (by have:=hc2.1; have:=hc3.1; omega),?_⟩
   rw[if_neg (by rw[h]; decide),if_pos hi]
   exact⟨_,rfl,ha5.sl (s.now i).2 (Nat.le_refl _),In.of_ge (by have:=hc2.1; have:=hc3.1; omega)⟩
theorem CO(w:World)(b r:Nat)(kv:Value)(s:DSt)(hd:DiskAt w b kv r s)(hf:s.Fine) :
  Ret Tryz.prog 121 #[.pointer (some ⟨b,0,none⟩)] w fun v w'=>v = .int .i64 s.flush.2∧DiskAt w' b kv r s.flush.1∧Chg (DF b kv r) w w':=by
 obtain⟨hB,hk,hm,h1,h2,h3⟩:=id hd
 have hob7:=hk.form rfl
 obtain⟨pk,ck,hkv⟩:=hob7
 refine enter [2] Tryz.func121 rfl rfl (Nat.le_of_ble_eq_true rfl) ?_
 refine zSR (za rfl (a8 (a7 (ae (zSR (zm rfl (zn rfl rfl (a6 rfl (aa oV rfl I95 rfl rfl) ?_))))))))
 refine ah rfl C178 (yl w b s.steps s.offAt _ hB hf.steps) ?_
 rintro _ w1 ⟨rfl,hb1,hc1,hs1⟩
 refine a6 rfl (cA rfl) (a8 (a7 ?_))
 have hd1:DiskAt w1 b kv r s.step:=hd.turn hb1 hc1 rfl rfl
 have hs0:s.step.off=(decide (0<s.offAt)&&decide (s.offAt≤s.steps+1)):=rfl
 rw[←hs0]
 refine cI rfl (fun h=>?_) (fun h=>?_)
 ·refine zSR (za rfl (a8 (a7 (zrt ?_))))
  have h:s.step.off=true:=by simpa using h
  refine⟨?_,?_,ot hc1⟩
  ·unfold DSt.flush; rw[if_pos h]; rfl
  ·unfold DSt.flush; rw[if_pos h]; exact hd1
 ·refine aA (a7 (ae (zSR (zm rfl (zn rfl rfl (a6 rfl (aa oV rfl I97 rfl rfl) ?_))))))
  have h:s.step.off=false:=by simpa using h
  refine a6 rfl (az uJ rfl rfl (hb1.c (off:=3) rfl)) ?_
  obtain⟨hB1,hk1,hm1,_⟩:=id hd1
  have hdlt:=hd1.lt
  refine dI rfl (y8 uJ rfl hm1) ?_
  rintro w2 ⟨hit,hc2,hs2⟩
  refine a8 (a7 (au ?_))
  have hq:w1.heap.size∉DF b kv r:=fun h=>by have:=hdlt _ h; omega
  generalize hqq:w1.heap.size=q at *
  have hnd:(s.pend.map (·.1)).Nodup:=by have:=hm1.nodup; rwa [wQ] at this
  refine bO [] [3,4,15,16,17,18,19,20,21,22,23,24,25,26] (fun n vs w'=>∃(done left:List (Int×Sec)),vs=[]∧left.length=n∧(done++left).Perm s.pend∧IterAt w' q r (fQ s.pend) (fQ left)∧Own w' kv (DSt.apply s.kept done)∧Chg (q::ar kv) w2 w') (s.pend.length) (by kernel_rfl) ?_ ?_
  ·exact⟨[],s.pend,rfl,rfl,List.Perm.refl _,hit,by rw[tq]; exact hk1.mod0 hc2,Chg.refl' _ _⟩
  ·rintro n vs J w3 ⟨done,left,rfl,hln,hperm,hit3,ho3,hc3⟩
   refine zSR (uG rfl (hit3) rfl ?_ ?_)
   ·rintro h0
    refine zx rfl rfl rfl (a8 (a7 (ae (aM (rfl) ?_))))
    refine aP (aq (aq (aE (a7 (zSR (zm rfl (zn rfl rfl (a6 rfl (aa oV rfl I97 rfl rfl) ?_))))))))
    have hle:left=[]:=by
     cases left with
     | nil => rfl
     | cons _ _ => simp [fQ] at h0
    subst hle
    rw[List.append_nil] at hperm
    have hap:=xQ hperm (by exact(hperm.map _).nodup_iff.2 hnd) s.kept
    rw[hap] at ho3
    have hB3:Blk w3 b [.int .i64 s.step.steps,.int .i64 s.step.offAt,kv,.map (some r)]:=(hB1.chg0 hc2).chg hc3 (by
     simp only[List.mem_cons,not_or]
     exact⟨fun h=>hq (by simp[DF,←h]),h2⟩)
    refine a6 rfl (az uJ rfl rfl (hB3.c (off:=3) rfl)) ?_
    refine dI rfl (uF (κ:=Int) uJ rfl hit3.map) ?_
    rintro w4 ⟨hm4,hc4,hs4⟩
    refine zNR (za rfl (a8 (a7 (zrf ?_))))
    have hw:s.flush=({ s.step with kept:=DSt.apply s.kept s.pend,pend:=[] },0):=by
     unfold DSt.flush; rw[if_neg (by rw[h]; decide)]
    rw[hw]
    refine⟨rfl,⟨hB3.nb hc4 h1,ho3.mod hc4 (nb1 h3),hm4,h1,h2,h3⟩,?_⟩
    have k1:Chg (DF b kv r) w w2:=(ot hc1).tr0 hc2
    have k2:Chg (DF b kv r) w w3:=k1.trans hc3 (fun _ h _=>h) (fun x hx hl=>by
     simp only[List.mem_cons] at hx
     rcases hx with rfl | hx
     ·omega
     ·simp[DF,hx])
    exact k2.tr (hc4.mono (fun x hx _=>by simp at hx; subst hx; simp[DF]))
   ·rintro a k v b' w4 hsp hit4 hcur hc4 hs4
    refine zx rfl rfl rfl (a8 (a7 (ae (bf (rfl) ?_))))
    refine aA (a7 (au (ae (al ?_))))
    have hob8:=uI _ _ _ _ _ hsp
    obtain⟨a',c,b'',rfl,rfl,rfl,rfl⟩:=hob8
    rw[←tE] at hit4
    have hmem:(k,c)∈s.pend:=hperm.mem_iff.1 (by simp)
    have hob9:=hf.keys _ hmem
    obtain⟨hk0,hkl⟩:=hob9
    simp only at hk0 hkl
    have hal:=jT s.kept done
    have hkn:k∉done.map (·.1):=by
     have h1:=(hperm.map (·.1)).nodup_iff.2 hnd
     rw[List.map_append,List.nodup_append] at h1
     intro hk
     exact h1.2.2 k hk k (by simp) rfl
    have hB3:Blk w3 b [.int .i64 s.step.steps,.int .i64 s.step.offAt,kv,.map (some r)]:=(hB1.chg0 hc2).chg hc3 (by
     simp only[List.mem_cons,not_or]
     exact⟨fun h=>hq (by simp[DF,←h]),h2⟩)
    have hqv:q∉ar kv:=fun h=>hq (by simp[DF,h])
    have hqr:r≠q:=fun h=>hq (by simp[DF,←h])
    have hB4:=hB3.nb hc4 (fun h=>hq (by simp[DF,←h]))
    have ho4:=ho3.mod hc4 (nb1 hqv)
    subst hkv
    refine a6 rfl (yc rfl hcur) ?_
    refine zx rfl rfl rfl (zx rfl rfl rfl (aJ (List.replicate 64 (0:UInt8)) j3 rfl rfl rfl ?_))
    rintro w5 b5 hn5 ha5 hc5 hl5
    refine za rfl (aH rfl (bl 64 j3 rfl (ha5) rfl rfl (rfl) (c.2)) ?_)
    rintro w6 ⟨ha6,hc6,hs6⟩
    refine a8 (a7 ?_)
    have hc46:Chg [] w4 w6:=hc5.t1 hc6 hn5
    have hB6:=hB4.chg0 hc46
    have ho6:=ho4.mod0 hc46
    refine aO bG (.pure 0 (.pure 1 (.pure 2 (.read 3 (.pure 4 (.read 5 (.pure 6 (.eff 7 [] .nil)))))))) (by kernel_rfl) ?_
    refine ym rfl rfl rfl ?_
    refine yn rfl rfl rfl rfl ?_
    refine aj rfl rfl rfl (fun _=>(aa oV rfl I96 rfl rfl)) ?_
    refine aX rfl rfl rfl tF rfl rfl (hB6.c (off:=2) rfl) ?_
    refine ym rfl rfl rfl ?_
    refine dR 64 rfl rfl rfl oy rfl j3 rfl rfl (ha6) (c.2) ?_
    refine bA rfl rfl rfl (bW (k.toNat) tF j3 rfl (ho6.sl) rfl rfl (by first | rfl | omega) (by omega)) ?_
    rintro _ ⟨bi,oi,rfl,hei,hbi⟩
    refine cB rfl rfl rfl (gS (a:=c) j3 rfl (ho6) rfl (hei) rfl rfl (by omega)) ?_
    rintro w7 ⟨ho7,hc7,hs7⟩
    refine⟨trivial,?_⟩
    refine aQ (aB (a7 ?_))
    have hc7:Chg (ar (.slice pk s.kept.length ck)) w6 w7:=hc7
    rw[←rp _ _ _ _ hk0 hkn] at ho7
    have hll:(a'++(k,c)::b'').length=(a'++b'').length+1:=by simp; omega
    refine Exists.intro ((a'++b'').length) (And.intro (by omega) ?_)
    refine⟨done++[(k,c)],a'++b'',rfl,rfl,?_,?_,ho7,?_⟩
    ·refine List.Perm.trans ?_ hperm
     rw[List.append_assoc]
     exact List.Perm.append_left _ (by simpa using List.perm_middle.symm)
    ·exact(hit4.mod hc46 (by simp) (by simp)).mod hc7 hqv h3
    ·have k1:Chg (q::ar (.slice pk s.kept.length ck)) w2 w4:=hc3.trans hc4 (fun _ h _=>h) (fun x hx _=>by simp at hx; subst hx; simp)
     exact(k1.tr0 hc46).trans hc7 (fun _ h _=>h) (fun x hx _=>by simp[hx])
end Go.Proofs.YtpbfapbajmdlkaaGreat

end
section
namespace Go.Proofs.YtpbfapbajmdlkaaGreat
open Go Go.Sac Go.Shelf
set_option maxRecDepth 100000
set_option maxHeartbeats 4000000
end Go.Proofs.YtpbfapbajmdlkaaGreat

end
section
namespace Go.Proofs.YtpbfapbajmdlkaaGreat
open Go Go.Sac
set_option maxRecDepth 100000
set_option maxHeartbeats 4000000
theorem tt(w:World)(b r:Nat)(kv bv:Value)(l:List UInt8)(ds:DSt)(i:Int)(hd:DiskAt w b kv r ds)(hf:ds.Fine)(hs:ds.steps+(l.length+63) / 64≤1000000000000)(hb:Sl w bv l)(hbb:∀x∈ar bv,x∉DF b kv r)(hi:0≤i∧i≤100000)(hl:l.length≤100000) :
  Ret Tryz.prog 144 #[.agg #[.pointer (some ⟨b,0,none⟩),.int .i64 i],bv] w fun v w'=>v = .int .i64 (ds.writes i l).2∧DiskAt w' b kv r (ds.writes i l).1∧Chg (DF b kv r) w w':=by
 obtain⟨pb,cb,rfl⟩:=hb.form rfl
 have hlt:=hd.lt
 refine enter [4] Tryz.func144 rfl rfl (Nat.le_of_ble_eq_true rfl) ?_
 refine zSR (aS rfl (cg (l:=[.pointer (some ⟨b,0,none⟩),.int .i64 i]) rfl rfl) ?_)
 rintro _ w1 ⟨q,rfl,hq,hB,hc1,hl1⟩
 refine za rfl (a8 (a7 (ae (zSR (za rfl (a8 (a7 (au ?_))))))))
 have hqd:q∉DF b kv r:=fun h=>by have:=hlt q h; omega
 refine bO [1,5] [1,4,5,6,7,8,9,10,11,12,13,14,15,16,17,18,19,20,21,22,23,24,25,26,27,28,29,30,31] (fun n vs w'=>∃(k:Nat) (m:List UInt8) (pv:Option Addr) (cv:Nat) (d:DSt),vs=[.slice pv m.length cv,.int .i64 k]∧k+n=(l.length+63) / 64∧n=(m.length+63) / 64∧Sl w' (.slice pv m.length cv) m∧(∀x∈ar (.slice pv m.length cv),x∉DF b kv r)∧DiskAt w' b kv r d∧d.Fine∧d.steps≤ds.steps+k∧ds.writes i l=DSt.wr n d (i+k) m∧Chg (DF b kv r) w1 w') ((l.length+63) / 64) (by kernel_rfl) ?_ ?_
 ·exact⟨0,l,_,_,ds,rfl,by omega,rfl,hb.mod0 hc1,hbb,hd.chg0 hc1,hf,by omega,by rw[DSt.writes]; simp,Chg.refl' _ _⟩
 ·rintro n vs J w2 ⟨k,m,pv,cv,d,rfl,hk,hn,hs2,hbb2,hd2,hf2,hst,hwr,hc2⟩
  refine ae (zSR (zm rfl (a6 rfl (ax rfl aR) (a6 rfl (di rfl rfl) ?_))))
  refine a8 (a7 (aC rfl (fun h=>?_) (fun h=>?_)))
  ·refine aA (a7 (ae (au (zSR (zm rfl (a6 rfl (ax rfl aR) (a6 rfl (iG rfl rfl) (za rfl ?_))))))))
   refine a8 (a7 (ae (ae ?_)))
   have hob1:∃q,n=q+1:=⟨n-1,by omega⟩
   obtain⟨n,rfl⟩:=hob1
   have hB2:=hB.chg hc2 hqd
   have hmin:min (m.length:Int) 64=((min m.length 64:Nat):Int):=by omega
   rw[hmin]
   refine aO bG (.pure 0 (.read 1 (.pure 2 (.read 3 (.pure 4 (.pure 5 (.pure 6 (.pure 7 (.pure 8 (.eff 9 [] (.pure 10 .nil))))))))))) (by kernel_rfl) ?_
   refine aj rfl rfl rfl (fun _=>(aa ox rfl I60 rfl rfl)) ?_
   refine aX rfl rfl rfl uU60 rfl rfl (hB2.c (off:=0) rfl) ?_
   refine aj rfl rfl rfl (fun _=>(aa ox rfl I3 rfl rfl)) ?_
   refine aX rfl rfl rfl uU3 rfl rfl (hB2.c (off:=1) rfl) ?_
   refine ym rfl rfl rfl ?_
   refine aj rfl rfl rfl (fun _=>(aD rfl rfl (by omega))) ?_
   refine ym rfl rfl rfl ?_
   refine ym rfl rfl rfl ?_
   refine bA rfl rfl rfl (gm (min m.length 64) aR I5 hs2 rfl rfl rfl (by omega)) ?_
   rintro _ ⟨⟨p4,c4,rfl⟩,hs4,hbl4⟩
   have htk:m.take (min m.length 64)=m.take 64:=by
    rw[Nat.min_comm,←List.take_take,List.take_length]
   rw[htk] at hs4
   have hdr:m.drop (min m.length 64)=m.drop 64:=by
    by_cases h64:64≤m.length
    ·rw[Nat.min_eq_right h64]
    ·rw[Nat.min_eq_left (by omega),List.drop_length,List.drop_of_length_le (by omega)]
   refine aG rfl rfl rfl C193 (Am _ b r kv _ (m.take 64) d (i+k) (hd2.chg0 (drw _)) hf2 (hs4.mod0 (drw _)) (fun h=>hbb2 b (by rw[←hbl4]; exact h) (by simp[DF]))) ?_
   rintro _ w3 ⟨rfl,hd3,hc3⟩
   refine⟨trivial,?_⟩
   refine ya rfl rfl rfl ?_
   refine zPR (zm rfl (a6 rfl (bL rfl rfl) ?_))
   refine a8 (a7 ?_)
   have hc3:Chg (DF b kv r) w2 w3:=hc3
   have hwr2:ds.writes i l=DSt.wr (n+1) d (i+k) m:=hwr
   rw[DSt.wr] at hwr2
   refine aC rfl (fun hne=>?_) (fun hne=>?_)
   ·refine zSR (zm rfl (za rfl (a8 (a7 (bQ (bq (cG (bq (bq (cG (bq (fY ?_))))))))))))
    rw[if_neg hne] at hwr2
    exact⟨by rw[hwr2]; rfl,by rw[hwr2]; exact hd3,hc1.tr0' (hc2.tr hc3)⟩
   ·refine aA (a7 (al (zm rfl (zm rfl ?_))))
    have he:(d.write (i+k) (m.take 64)).2=0:=Decidable.not_not.1 hne
    rw[if_pos he] at hwr2
    refine bg rfl (dF (min m.length 64) aR I5 rfl (hs2.mod hc3 hbb2) rfl rfl rfl (by omega)) ?_
    rintro _ ⟨⟨p5,c5,rfl⟩,hs5,hbl5⟩
    refine za rfl (a8 (aB (a7 (al (zm rfl (a6 rfl (aD rfl rfl (by omega)) (za rfl ?_)))))))
    refine a8 (a7 ?_)
    rw[hdr] at hs5
    have hdl:(m.drop 64).length=m.length-min m.length 64:=by rw[List.length_drop]; omega
    rw[←hdl] at hs5
    rw[←hdl]
    refine Exists.intro (n) (And.intro (by omega) ?_)
    refine⟨k+1,m.drop 64,_,_,_,aw rfl (aw (bB (by omega)) bF),by omega,by rw[List.length_drop]; omega,hs5,fun x hx=>hbb2 x (by rw[hdl] at hx; rw[←hbl5]; exact hx),hd3,hf2.write (by omega) _ _,?_,?_,hc2.tr hc3⟩
    ·have:=DSt.write_steps d (i+k) (m.take 64)
     omega
    ·rw[hwr2]
     congr 1
     omega
  ·refine aP (aq (aq (aE (a7 (zSR (za rfl (a8 (a7 (zrf ?_)))))))))
   have hn0:n=0:=by omega
   subst hn0
   rw[DSt.wr] at hwr
   rw[hwr]
   exact⟨rfl,hd2,hc1.tr0' hc2⟩
theorem wA(w:World)(b r:Nat)(kv:Value)(ds:DSt)(i:Int)(n:Nat)(hd:DiskAt w b kv r ds)(ho:ds.off=false)(hi:0≤i∧i+n≤ds.kept.length)(hk:ds.kept.length≤4000)(hn:n≤1000) :
  Ret Tryz.prog 139 #[.agg #[.pointer (some ⟨b,0,none⟩),.int .i64 i],.int .i64 n] w fun v w'=>∃p,v = .tuple #[p,.int .i64 0]∧Own w' p (ds.reads i n)∧Chg [] w w'∧In p [] w.heap.size:=by
 refine enter [4,5] Tryz.func139 rfl rfl (Nat.le_of_ble_eq_true rfl) ?_
 refine zSR (aS rfl (cg (l:=[.pointer (some ⟨b,0,none⟩),.int .i64 i]) rfl rfl) ?_)
 rintro _ w1 ⟨q,rfl,hq,hB,hc1,hl1⟩
 refine za rfl (za rfl (zNR (za rfl (a8 (a7 (ae (zSR (zm rfl (zm rfl (a8 (a7 (au (bO [6,11] [4,5,6,7,8,9,11,12,13,14,15,16,17,18,19,20,21,22,23,24,25,26,27,28,29,30] (fun m vs w'=>∃(k:Nat) (v:Value),vs=[v,.int .i64 k]∧k+m=n∧Own w' v (ds.reads i k)∧Chg [] w1 w'∧In v [] w1.heap.size) (n) (by kernel_rfl) ?_ ?_)))))))))))))
 ·exact⟨0,_,rfl,by omega,Own.nil _,Chg.refl _,In.nil⟩
 ·rintro m vs J w2 ⟨k,v,rfl,hk2,ho2,hc2,hi2⟩
  refine zSR (a6 rfl (bz rfl rfl) ?_)
  refine a8 (a7 (ae (aC rfl (fun h=>?_) (fun h=>?_))))
  ·refine aA (a7 (ae (au (zSR (zm rfl (za rfl (zNR (a6 rfl (aa ox rfl I60 rfl rfl) ?_))))))))
   have hob2:∃q,m=q+1:=⟨m-1,by omega⟩
   obtain⟨m,rfl⟩:=hob2
   have hB2:=hB.chg0 hc2
   refine a6 rfl (az uU60 rfl rfl (hB2.c (off:=0) rfl)) ?_
   refine a6 rfl (aa ox rfl I3 rfl rfl) ?_
   refine a6 rfl (az uU3 rfl rfl (hB2.c (off:=1) rfl)) ?_
   refine zm rfl (a6 rfl (aD rfl rfl (by omega)) ?_)
   refine ah rfl C190 (Read_ok w2 b r kv ds (i+k) ((hd.chg0 hc1).chg0 hc2)) ?_
   rintro v3 w3 ⟨hc3,hv3⟩
   rw[if_neg (by rw[ho]; decide),if_pos (by unfold DSt.is; rw[decide_eq_true (by omega),decide_eq_true (by omega)]; rfl)] at hv3
   obtain⟨p3,rfl,hs3,hi3⟩:=hv3
   refine zm rfl (zx rfl rfl rfl (zx rfl rfl rfl (za rfl (za rfl (a8 (a7 (ae (zSR (zm rfl (a6 rfl (bL rfl rfl) ?_))))))))))
   refine a8 (a7 (aF rfl (fun h=>h rfl) ?_))
   refine aA (a7 (al (zm rfl (zm rfl ?_))))
   have hl2:=DSt.reads_length ds i k
   have hl3:=(ds.now (i+k)).2
   refine bJ aR aR I5 (.inr ⟨_,rfl⟩) rfl rfl rfl (by decide) rfl (ho2.mod0 hc3) (hs3.src) rfl rfl (by omega) ?_
   rintro v4 w4 h4
   refine za rfl (a8 (aB (a7 (al (a6 rfl (aD rfl rfl (by omega)) (zm rfl ?_))))))
   refine a8 (a7 ?_)
   have hob3:=h4.step (hc2.tr hc3) hi2
   obtain⟨ho4,hc4,hi4⟩:=hob3
   refine Exists.intro (m) (And.intro (by omega) ?_)
   refine⟨k+1,v4,aw rfl (aw (bB (by omega)) bF),by omega,?_,hc4,hi4⟩
   rw[DSt.reads_succ]; exact ho4
  ·refine aP (aq (aq (aE (a7 (zSR (zm rfl (za rfl (za rfl (a8 (a7 (zrf ?_)))))))))))
   have hm:k=n:=by omega
   subst hm
   exact⟨_,rfl,ho2,hc1.tr hc2,hi2.mono (fun _ h => .inl h) hc1.1⟩
theorem yE(w:World)(b r:Nat)(kv:Value)(ds:DSt)(hd:DiskAt w b kv r ds)(hk:ds.kept.length≤4000) :
  Ret Tryz.prog 90 #[.pointer (some ⟨b,0,none⟩)] w fun v w'=>v = .int .i64 (gx ds.kept.length)∧Hp w' w:=by
 refine enter [2] Tryz.func90 rfl rfl (Nat.le_of_ble_eq_true rfl) ?_
 refine zSR (za rfl (zNR (zm rfl (ah rfl C138 (Len_ok w b r kv ds hd) ?_))))
 rintro _ w1 ⟨rfl,hh1⟩
 refine a6 rfl (cj rfl rfl (by omega)) (a6 rfl (ow rfl rfl) (a6 rfl (x_quo64 rfl rfl (by omega)) (a6 rfl (iG rfl rfl) (za rfl ?_))))
 refine a8 (a7 (zrf ?_))
 refine⟨?_,hh1⟩
 unfold gx
 rfl
theorem xy{n:Nat}{nb m:List UInt8}(hm:0<m.length)(hn:n+1=(m.length+55) / 56):eo (n+1) nb m=(nb++m.take 56++List.replicate (56-(m.take 56).length) 0++nb)++eo n nb (m.drop 56):=rfl
theorem xx(w:World)(bv:Value)(l:List UInt8)(no:UInt64)(hb:Sl w bv l)(hl:l.length≤100000) :
  Ret Tryz.prog 145 #[bv,.int .u64 no.toNat] w fun v w'=>Own w' v (cR l no)∧Chg [] w w'∧In v [] w.heap.size:=by
 have hob4:=hb.form rfl
 obtain⟨pb,cb,rfl⟩:=hob4
 refine enter [4] Tryz.func145 rfl rfl (Nat.le_of_ble_eq_true rfl) ?_
 refine zSR (za rfl (zNR (zm rfl (ah rfl lp (fP (.slice none 0 0) [] no 4 w (Own.nil _) (by decide) (by decide)) ?_))))
 rintro nv w1 ⟨hon,hcn,hin⟩
 refine za rfl (zNR (za rfl (a8 (a7 (ae (au ?_))))))
 have hcn:Chg [] w w1:=hcn
 have hin:In nv [] w.heap.size:=hin
 rw[List.nil_append] at hon
 have hnl:(be 4 no.toNat).length=4:=aI _ _
 refine bO [0,6] [0,6,7,8,11,12,13,14,15,16,17,18,19,20,21,22,23,24,25,26,27,28,29,30,31,32,33,34] (fun n vs w'=>∃(k:Nat) (m pre:List UInt8) (pv:Option Addr) (cv:Nat) (v:Value),vs=[.slice pv m.length cv,v]∧k+n=(l.length+55) / 56∧n=(m.length+55) / 56∧m.length≤l.length∧Sl w (.slice pv m.length cv) m∧Own w' v pre∧pre.length=64*k∧cR l no=pre++eo n (be 4 no.toNat) m∧Chg [] w1 w'∧In v [] w1.heap.size) ((l.length+55) / 56) (by kernel_rfl) ?_ ?_
 ·exact⟨0,l,[],_,_,_,rfl,by omega,rfl,by omega,hb,Own.nil _,rfl,rfl,Chg.refl _,In.nil⟩
 ·rintro n vs J w2 ⟨k,m,pre,pv,cv,ov,rfl,hk,hn,hml,hs2,ho2,hpl,hfr,hc2,hi2⟩
  refine ae (zSR (zm rfl (a6 rfl (ax rfl aR) (a6 rfl (di rfl rfl) ?_))))
  refine a8 (a7 (aC rfl (fun h=>?_) (fun h=>?_)))
  ·refine aA (a7 (au (zSR (zm rfl (a6 rfl (ax rfl aR) (a6 rfl (iG rfl rfl) (za rfl ?_)))))))
   refine a8 (a7 (ae ?_))
   have hob5:∃q,n=q+1:=⟨n-1,by omega⟩
   obtain⟨n,rfl⟩:=hob5
   have hmin:min (m.length:Int) 56=((min m.length 56:Nat):Int):=by omega
   rw[hmin]
   have hon2:=hon.mod0 hc2
   have htk:m.take (min m.length 56)=m.take 56:=by
    rw[Nat.min_comm,←List.take_take,List.take_length]
   have htl:(m.take 56).length=min m.length 56:=by rw[List.length_take,Nat.min_comm]
   have hdr:m.drop (min m.length 56)=m.drop 56:=by
    by_cases h64:56≤m.length
    ·rw[Nat.min_eq_right h64]
    ·rw[Nat.min_eq_left (by omega),List.drop_length,List.drop_of_length_le (by omega)]
   refine aO bG (.pure 0 (.pure 2 (.pure 3 (.pure 4 (.eff 1 [] (.eff 5 [] (.pure 6 .nil))))))) (by kernel_rfl) ?_
   refine ym rfl rfl rfl ?_
   refine ym rfl rfl rfl ?_
   refine ym rfl rfl rfl ?_
   refine bA rfl rfl rfl (gm (min m.length 56) aR I5 hs2 rfl rfl rfl (by omega)) ?_
   rintro _ ⟨⟨p4,c4,rfl⟩,hs4,hbl4⟩
   rw[htk] at hs4
   refine bu rfl rfl rfl (yf aR aR I5 (.inr ⟨_,rfl⟩) rfl rfl rfl (by decide) (Own.nil _) ((hon2.mod0 (drw _)).sl.src) rfl rfl (by simp[hnl])) ?_
   rintro v3 w3 h3
   refine⟨trivial,?_⟩
   have hob6:=h3.step (drw w2) In.nil
   obtain⟨ho3,hc3,hi3⟩:=hob6
   rw[List.nil_append] at ho3
   refine bu rfl rfl rfl (yf aR aR I5 (.inr ⟨_,rfl⟩) rfl rfl rfl (by decide) (ho3) ((hs4.mod0 ((hcn.tr hc2).tr hc3)).src) rfl rfl (by rw[hnl,htl]; omega)) ?_
   rintro v5 w5 h5
   refine⟨trivial,?_⟩
   refine ya rfl rfl rfl ?_
   refine zPR (zm rfl (zm rfl (a6 rfl (cj rfl rfl (by omega)) ?_)))
   have hob7:=h5.step hc3 hi3
   obtain⟨ho5,hc5,hi5⟩:=hob7
   refine aS rfl (AQ (56-min m.length 56) aR uU3 I5 rfl rfl (by decide) (ho5) rfl rfl (by first | rfl | omega) (by rw[List.length_append,hnl,htl]; omega)) ?_
   rintro v6 w6 h6
   refine za rfl (zNR (zm rfl (zm rfl ?_)))
   have hob8:=h6.step hc5 hi5
   obtain⟨ho6,hc6,hi6⟩:=hob8
   refine bJ aR aR I5 (.inr ⟨_,rfl⟩) rfl rfl rfl (by decide) rfl (ho2.mod0 hc6) (ho6.sl.src) rfl rfl (by simp only[List.length_append,List.length_replicate,hnl,htl]; omega) ?_
   rintro v7 w7 h7
   refine zm rfl ?_
   have hob9:=h7.step (hc2.tr hc6) hi2
   obtain⟨ho7,hc7,hi7⟩:=hob9
   refine bJ aR aR I5 (.inr ⟨_,rfl⟩) rfl rfl rfl (by decide) rfl (ho7) ((hon.mod0 hc7).sl.src) rfl rfl (by simp only[List.length_append,List.length_replicate,hnl,htl]; omega) ?_
   rintro v8 w8 h8
   refine za rfl (a8 (a7 (al (zm rfl (zm rfl ?_)))))
   have hob10:=h8.step hc7 hi7
   obtain⟨ho8,hc8,hi8⟩:=hob10
   refine bg rfl (dF (min m.length 56) aR I5 rfl hs2 rfl rfl rfl (by omega)) ?_
   rintro _ ⟨⟨p9,c9,rfl⟩,hs9,hbl9⟩
   refine za rfl (a8 (aB (a7 ?_)))
   rw[hdr] at hs9
   have hdl:(m.drop 56).length=m.length-min m.length 56:=by rw[List.length_drop]; omega
   rw[←hdl] at hs9
   rw[←hdl]
   rw[xy (by omega) hn,htl] at hfr
   refine Exists.intro (n) (And.intro (by omega) ?_)
   refine⟨k+1,m.drop 56,_,_,_,_,rfl,by omega,by rw[List.length_drop]; omega,by omega,hs9,ho8,?_,?_,hc8,hi8⟩
   ·simp only[List.length_append,List.length_replicate,hnl,htl]; omega
   ·rw[hfr]; simp only[List.append_assoc]
  ·refine aP (aq (aq (aE (a7 (zSR (zm rfl (za rfl (a8 (a7 (zrf ?_))))))))))
   have hn0:n=0:=by omega
   subst hn0
   rw[hfr,eo,List.append_nil]
   exact⟨ho2,hcn.tr hc2,hi2.mono (fun _ h => .inl h) hcn.1⟩
theorem xk(w:World)(bv:Value)(l:List UInt8)(hb:Sl w bv l)(hl:l.length≤100000) :
  Ret Tryz.prog 140 #[bv] w fun v w'=>Own w' v (eQ l)∧Chg [] w w'∧In v [] w.heap.size:=by
 have hob11:=hb.form rfl
 obtain⟨pb,cb,rfl⟩:=hob11
 refine enter [2] Tryz.func140 rfl rfl (Nat.le_of_ble_eq_true rfl) ?_
 refine zSR (za rfl (zNR (za rfl (a8 (a7 (ae (au (bO [0,3] [0,3,4,5,6,7,8,9,10,11,12,13,14,15,16,17,18,19,20,21,22,23,24,25,26,27,28,29,30,31,32] (fun n vs w'=>∃(k:Nat) (m:List UInt8) (pre:List UInt64) (pv:Option Addr) (cv:Nat) (v:Value),vs=[.slice pv m.length cv,v]∧k+n=l.length / 64∧n=m.length / 64∧m.length≤l.length∧Sl w (.slice pv m.length cv) m∧Own w' v pre∧pre.length=2*k∧eQ l=pre++js n m∧Chg [] w w'∧In v [] w.heap.size) (l.length / 64) (by kernel_rfl) ?_ ?_))))))))
 ·exact⟨0,l,[],_,_,_,rfl,by omega,rfl,by omega,hb,Own.nil _,rfl,rfl,Chg.refl _,In.nil⟩
 ·rintro n vs J w2 ⟨k,m,pre,pv,cv,ov,rfl,hk,hn,hml,hs2,ho2,hpl,hfr,hc2,hi2⟩
  refine ae (zSR (zm rfl (a6 rfl (ax rfl aR) (a6 rfl (j5 rfl rfl) ?_))))
  refine a8 (a7 (aC rfl (fun h=>?_) (fun h=>?_)))
  ·refine aA (a7 (ae (au (zSR (zm rfl ?_)))))
   have hob12:∃q,n=q+1:=⟨n-1,by omega⟩
   obtain⟨n,rfl⟩:=hob12
   refine ah rfl C83 (j1 _ m 4 w2 (hs2.mod0 hc2) (by decide) (by omega)) ?_
   rintro v3 w3 ⟨hv3,hh3⟩
   unfold nq at hv3
   rw[if_neg (by omega)] at hv3
   obtain⟨r3,rfl,hs3,hbl3⟩:=hv3
   refine zm rfl (zx rfl rfl rfl (zx rfl rfl rfl (zx rfl rfl rfl (za rfl (za rfl (za rfl (zNR (zm rfl (bg rfl (dF 60 aR I5 rfl hs2 rfl rfl rfl (by omega)) ?_)))))))))
   rintro _ ⟨⟨p4,c4,rfl⟩,hs4,hbl4⟩
   have hc3:Chg [] w w3:=hc2.tr (Chg.heap hh3)
   refine ah rfl C83 (j1 _ (m.drop 60) 4 w3 (hs4.mod0 hc3) (by decide) (by rw[List.length_drop]; omega)) ?_
   rintro v5 w5 ⟨hv5,hh5⟩
   unfold nq at hv5
   rw[if_neg (by rw[List.length_drop]; omega)] at hv5
   obtain⟨r5,rfl,hs5,hbl5⟩:=hv5
   have hc5:Chg [] w w5:=hc3.tr (Chg.heap hh5)
   refine zm rfl (zx rfl rfl rfl (zx rfl rfl rfl (zx rfl rfl rfl (za rfl (za rfl (za rfl (a8 (a7 (al (zm rfl (zm rfl (zm rfl (aS rfl (tB [.int .u64 (UInt64.ofNat (cL (m.take 4))).toNat,.int .u64 (UInt64.ofNat (cL ((m.drop 60).take 4))).toNat] [UInt64.ofNat (cL (m.take 4)),UInt64.ofNat (cL ((m.drop 60).take 4))] ql me rfl rfl rfl rfl rfl rfl (by decide)) ?_)))))))))))))
   rintro v6 w6 ⟨ho6,hc6,hi6⟩
   refine bJ ql ql me (.inr ⟨_,rfl⟩) rfl rfl rfl (by decide) rfl ((ho2.mod0 (Chg.heap (S:=[]) hh3)).mod0 ((Chg.heap (S:=[]) hh5).tr hc6)) (ho6.sl.src) rfl rfl (by simp only[List.length_cons,List.length_nil]; omega) ?_
   rintro v7 w7 h7
   refine za rfl (a8 (aB (a7 (al (zm rfl ?_)))))
   have hob13:=h7.step (hc5.tr hc6) hi2
   obtain⟨ho7,hc7,hi7⟩:=hob13
   refine bg rfl (dF 64 aR I5 rfl hs2 rfl rfl rfl (by omega)) ?_
   rintro _ ⟨⟨p8,c8,rfl⟩,hs8,hbl8⟩
   refine za rfl (a8 (a7 ?_))
   have hdl:(m.drop 64).length=m.length-64:=by rw[List.length_drop]
   rw[←hdl] at hs8
   rw[←hdl]
   refine Exists.intro (n) (And.intro (by omega) ?_)
   refine⟨k+1,m.drop 64,_,_,_,_,rfl,by omega,by omega,by omega,hs8,ho7,?_,?_,hc7,hi7⟩
   ·simp only[List.length_append,List.length_cons,List.length_nil]; omega
   ·rw[hfr,js]; simp
  ·refine aP (aq (aq (aE (a7 (zSR (zm rfl (za rfl (a8 (a7 (zrf ?_))))))))))
   have hn0:n=0:=by omega
   subst hn0
   rw[hfr,js,List.append_nil]
   exact⟨ho2,hc2,hi2⟩
end Go.Proofs.YtpbfapbajmdlkaaGreat

end
section
namespace Go.Proofs.YtpbfapbajmdlkaaGreat
open Go Go.Sac
set_option maxRecDepth 100000
set_option maxHeartbeats 4000000
theorem mH(w:World)(bv:Value)(l:List UInt8)(hb:Sl w bv l)(hl:l.length≤100000)(h64:l.length % 64=0)(h4:4≤l.length) :
  Ret Tryz.prog 142 #[bv] w fun v w'=>Own w' v (fR l)∧Chg [] w w'∧In v [] w.heap.size:=by
 obtain⟨pb,cb,rfl⟩:=hb.form rfl
 refine enter [2] Tryz.func142 rfl rfl (Nat.le_of_ble_eq_true rfl) ?_
 refine zSR (za rfl (zNR (za rfl (zNR (zm rfl (bg rfl (gm 4 aR I5 hb rfl rfl rfl (by omega)) ?_))))))
 rintro _ ⟨⟨p1,c1,rfl⟩,hs1,hbl1⟩
 refine a6 rfl (lu aR uU5 uU9 hs1 rfl) ?_
 refine za rfl (a8 (a7 (ae (au (bO [0,3] [0,3,8,9,10,11,12,13,14,15,16,17,18,19,20,21,22,23,24,25,26,27,28,29,30] (fun n vs w'=>∃(m pre:List UInt8) (pv:Option Addr) (cv:Nat) (v:Value),vs=[.slice pv m.length cv,v]∧m.length=64*n∧m.length≤l.length∧Sl w (.slice pv m.length cv) m∧Own w' v pre∧pre.length+m.length≤l.length∧fR l=pre++jX (l.take 4) n m∧Chg [] w w'∧In v [] w.heap.size) (l.length / 64) (by kernel_rfl) ?_ ?_)))))
 ·exact⟨l,[],_,_,_,rfl,by omega,by omega,hb,Own.nil _,by simp,rfl,Chg.refl _,In.nil⟩
 ·rintro n vs J w2 ⟨m,pre,pv,cv,ov,rfl,hn,hml,hs2,ho2,hpl,hfr,hc2,hi2⟩
  refine ae (zSR (zm rfl (a6 rfl (ax rfl aR) ?_)))
  have hend:jX (l.take 4) n m=[]→(Own w2 ov (fR l)∧Chg [] w w2∧In ov [] w.heap.size):=fun h=>by
   rw[hfr,h,List.append_nil]; exact⟨ho2,hc2,hi2⟩
  by_cases h:0<m.length
  ·have hob1:∃q,n=q+1:=⟨n-1,by omega⟩
   obtain⟨n,rfl⟩:=hob1
   refine a6 rfl (bR (di rfl rfl) (congrArg Value.bool (decide_eq_true (by omega)))) ?_
   refine zm rfl (ag rfl (zm rfl (ag rfl (bg rfl (gm 4 aR I5 hs2 rfl rfl rfl (by omega)) ?_))))
   rintro _ ⟨⟨p3,c3,rfl⟩,hs3,hbl3⟩
   refine ag rfl (a6 rfl (lu aR uU5 uU9 (hs3.mod0 hc2) rfl) ?_)
   refine ag rfl (zm rfl (ag rfl ?_))
   by_cases h1:m.take 4=l.take 4
   ·refine a6 rfl (bR (sm rfl rfl) (congrArg Value.bool (decide_eq_true (h1)))) ?_
    refine a6 rfl (aN rfl) (zm rfl (ag rfl (zm rfl (ag rfl (bg rfl (pU 60 64 aR I5 rfl hs2 rfl rfl rfl rfl rfl (by omega)) ?_)))))
    rintro _ ⟨⟨p5,c5,rfl⟩,hs5,hbl5⟩
    refine ag rfl (a6 rfl (lu aR uU5 uU9 (hs5.mod0 hc2) rfl) ?_)
    refine ag rfl (zm rfl (ag rfl (a6 rfl (sm rfl rfl) (a6 rfl (aN rfl) ?_))))
    refine a8 (a7 (aC rfl (fun h2=>?_) (fun h2=>?_)))
    ·refine aA (a7 (au (zSR (zm rfl (zm rfl (bg rfl (pU 4 60 aR I5 rfl hs2 rfl rfl rfl rfl rfl (by omega)) ?_))))))
     rintro _ ⟨⟨p6,c6,rfl⟩,hs6,hbl6⟩
     have hcl:((m.drop 4).take 56).length=56:=by rw[List.length_take,List.length_drop]; omega
     refine bJ aR aR I5 (.inr ⟨_,rfl⟩) rfl rfl rfl (by decide) rfl (ho2) ((hs6.mod0 hc2).src) rfl rfl (by rw[hcl]; omega) ?_
     rintro v7 w7 h7
     refine za rfl (a8 (a7 (al (zm rfl ?_))))
     have hob2:=h7.step hc2 hi2
     obtain⟨ho7,hc7,hi7⟩:=hob2
     refine bg rfl (dF 64 aR I5 rfl hs2 rfl rfl rfl (by omega)) ?_
     rintro _ ⟨⟨p8,c8,rfl⟩,hs8,hbl8⟩
     refine za rfl (a8 (aB (a7 ?_)))
     have hdl:(m.drop 64).length=m.length-64:=by rw[List.length_drop]
     rw[←hdl] at hs8
     rw[←hdl]
     refine Exists.intro (n) (And.intro (by omega) ?_)
     refine⟨m.drop 64,_,_,_,_,rfl,by omega,by omega,hs8,ho7,by rw[List.length_append,hcl]; omega,?_,hc7,hi7⟩
     rw[hfr,jX,if_pos ⟨h1,h2⟩]
     exact(List.append_assoc _ _ _).symm
    ·refine aP (aq (aq (aE (a7 (zSR (zm rfl (za rfl (a8 (a7 (zrf ?_))))))))))
     exact hend (by rw[jX,if_neg (fun q=>h2 q.2)])
   ·refine a6 rfl (bR (sm rfl rfl) (congrArg Value.bool (decide_eq_false (h1)))) ?_
    refine a6 rfl (aN rfl) (zm rfl (ay rfl rfl (ay rfl rfl (ay rfl rfl (ay rfl rfl (ay rfl rfl (a6 rfl (aL rfl) (a8 (a7 (aM (rfl) ?_))))))))))
    refine aP (aq (aq (aE (a7 (zSR (zm rfl (za rfl (a8 (a7 (zrf ?_))))))))))
    exact hend (by rw[jX,if_neg (fun q=>h1 q.1)])
  ·refine a6 rfl (bR (di rfl rfl) (congrArg Value.bool (decide_eq_false (by omega)))) ?_
   refine zm rfl (ay rfl rfl (ay rfl rfl (ay rfl rfl (ay rfl rfl (ay rfl rfl (a6 rfl (aL rfl) (zm rfl (ay rfl rfl (ay rfl rfl (ay rfl rfl (ay rfl rfl (ay rfl rfl (a6 rfl (aL rfl) (a8 (a7 (aM (rfl) ?_))))))))))))))))
   refine aP (aq (aq (aE (a7 (zSR (zm rfl (za rfl (a8 (a7 (zrf ?_))))))))))
   have hn0:n=0:=by omega
   exact hend (by rw[hn0]; rfl)
theorem BL(w:World)(a b c d e:Value)(com:UInt64)(tv:Value)(l:List UInt64)(ht:Sl w tv l)(hl:l.length≤100000)(hc:[a,b,c,d,e].all ei=true) :
  Ret Tryz.prog 143 #[.agg #[a,b,c,d,.int .u64 com.toNat,e],tv] w fun v w'=>v = .int .u64 (yB com l).toNat∧Chg [] w w':=by
 have hob3:=ht.form rfl
 obtain⟨pt,ct,rfl⟩:=hob3
 refine enter [4] Tryz.func143 rfl rfl (Nat.le_of_ble_eq_true rfl) ?_
 refine zSR (aS rfl (cg (l:=[a,b,c,d,.int .u64 com.toNat,e]) rfl rfl) ?_)
 rintro _ w1 ⟨q,rfl,hq,hB,hc1,hl1⟩
 refine a6 rfl (fE (v := .int .u64 ((0:UInt64).toNat:Nat)) rfl) ?_
 refine zNR (a6 rfl (aa dw rfl me rfl rfl) ?_)
 refine a6 rfl (az dV rfl rfl (hB.c (off:=4) rfl)) ?_
 refine za rfl (a8 (a7 (ae (zSR (zm rfl (a6 rfl (ax rfl ql) (zm rfl ?_)))))))
 refine a8 (a7 (au (bO [5,13] [5,7,8,13,14,15,16,17,18,19,20,21,22,23,24,25,26,27,28,29,30,31] (fun n vs w'=>∃(k:Nat),vs=[.int .u64 ((l.take k).foldl (dP com) com).toNat,.int .i64 k]∧k+n=l.length∧Hp w' w1) (l.length) (by kernel_rfl) ?_ ?_)))
 ·exact⟨0,rfl,by omega,rfl⟩
 ·rintro n vs J w2 ⟨k,rfl,hk,hh⟩
  refine zSR (a6 rfl (bz rfl rfl) ?_)
  refine a8 (a7 (ae ?_))
  have hB2:=hB.heap hh
  refine aC rfl (fun h=>?_) (fun h=>?_)
  ·refine aA (a7 (ae (au (ae (al ?_)))))
   have hob4:∃q,n=q+1:=⟨n-1,by omega⟩
   obtain⟨n,rfl⟩:=hob4
   have hlk:l[k]?=some (l.getD k 0):=getD_some (by omega)
   have hob5:∃x,x=l.getD k 0:=⟨_,rfl⟩
   obtain⟨x,hx⟩:=hob5
   rw[←hx] at hlk
   have hts:l.take (k+1)=l.take k++[x]:=by rw[List.take_add_one,hlk]; rfl
   have ht2:Sl w2 (.slice pt l.length ct) l:=(ht.mod0 hc1).heap hh
   refine bg rfl (bW (k) ql me rfl (ht2) rfl rfl (by first | rfl | omega) (by omega)) ?_
   rintro _ ⟨bi,oi,rfl,hei,hbi⟩
   refine a6 rfl (az dV rfl rfl ((ht2.at hei hlk).c0 rfl)) ?_
   refine za rfl (zNR (zm rfl (a6 rfl (aa dw rfl me rfl rfl) ?_)))
   refine a6 rfl (az dV rfl rfl (hB2.c (off:=4) rfl)) ?_
   refine a6 rfl (uw rfl rfl) (a6 rfl (dx rfl dV bK) (a6 rfl (cP rfl bK dV) (za rfl ?_)))
   refine zNR (zm rfl (a6 rfl (AJ (b:=65536) rfl rfl) ?_))
   refine a8 (a7 ?_)
   have hst:(l.take (k+1)).foldl (dP com) com=dP com ((l.take k).foldl (dP com) com) x:=by
    rw[hts,List.foldl_append]; rfl
   refine aC rfl (fun hlt=>?_) (fun hlt=>?_)
   ·refine al (zm rfl (a6 rfl (aa dw rfl me rfl rfl) ?_))
    have hlt:jk com x<65536:=hlt
    refine a6 rfl (az dV rfl rfl (hB2.c (off:=4) rfl)) ?_
    refine zm rfl (a6 rfl (qb rfl rfl) (a6 rfl (ow rfl rfl) (za rfl ?_)))
    refine a8 (aB (a7 (al (a6 rfl (aD rfl rfl (by omega)) (zm rfl ?_)))))
    refine a8 (a7 (Exists.intro (n) (And.intro (by omega) ?_)))
    refine⟨k+1,aw ?_ (aw (bB (by omega)) bF),by omega,hh⟩
    rw[hst,dP,if_pos hlt]
    exact congrArg (Value.int .u64) (max_u64 _ _)
   ·refine aA (aB (a7 (al (a6 rfl (aD rfl rfl (by omega)) (zm rfl ?_)))))
    refine a8 (a7 ?_)
    have hlt:¬jk com x<65536:=hlt
    refine Exists.intro (n) (And.intro (by omega) ?_)
    refine⟨k+1,aw ?_ (aw (bB (by omega)) bF),by omega,hh⟩
    rw[hst,dP,if_neg hlt]
    rfl
  ·refine aP (aq (aq (aE (a7 (zSR (zm rfl (a6 rfl (qb (b:=1) rfl rfl) (za rfl ?_))))))))
   refine a8 (a7 (zrf ?_))
   have hkl:k=l.length:=by omega
   subst hkl
   rw[List.take_length]
   exact⟨rfl,hc1.tr (Chg.heap hh)⟩
theorem pL(w:World)(bv:Value)(l s:List UInt8)(hb:Own w bv l)(hl:l.length≤1000000)(hs:s.length≤65535) :
  Ret Tryz.prog 126 #[bv,str s] w fun v w'=>Own w' v (l++(be 2 s.length++s))∧Chg (ar bv) w w'∧In v (ar bv) w.heap.size:=by
 refine enter [4] Tryz.func126 rfl rfl (Nat.le_of_ble_eq_true rfl) ?_
 refine zSR (za rfl (zNR (zm rfl (zm rfl (a6 rfl (jf rfl uU9) (a6 rfl (iG rfl rfl) ?_))))))
 have hmin:(min (s.length:Int) 65535).toNat=s.length:=by omega
 refine a6 rfl (bR (wF uU9 rfl rfl (by omega)) (congrArg str (by rw[hmin,List.take_length]):_=str s)) ?_
 refine za rfl (zNR (zm rfl (zm rfl (a6 rfl (jf rfl uU9) (a6 rfl (cP rfl uU3 dV) ?_)))))
 have hu:cW ((s.length:Nat):Int)=UInt64.ofNat s.length:=dX _
 have hun:(UInt64.ofNat s.length).toNat=s.length:=by rw[UInt64.toNat_ofNat']; omega
 refine ah rfl lp (fP bv l (cW ((s.length:Nat):Int)) 2 w hb (by decide) (by omega)) ?_
 rintro v1 w1 ⟨ho1,hc1,hi1⟩
 refine zm rfl ?_
 rw[hu,hun] at ho1
 have hbl:(be 2 s.length).length=2:=aI _ _
 refine bJ aR uU9 I5 (.inl rfl) rfl rfl rfl (by decide) rfl (ho1) (src_str) rfl rfl (by rw[List.length_append,hbl]; omega) ?_
 rintro v2 w2 h2
 refine za rfl (a8 (a7 (zrf ?_)))
 refine⟨?_,?_,?_⟩
 ·rw[←List.append_assoc]; exact h2.own
 ·exact hc1.trans h2.mod (fun _ h _=>h) (fun x hx hlt=>(hi1 x hx).elim id (fun h=>by omega))
 ·exact h2.inn.mono (fun q hq=>hi1 q hq) hc1.1
def nr(b:Value)(l:List UInt8)(most:Nat)(v:Value)(w:World):Prop :=
 if l.length<2∨most<cL (l.take 2)∨l.length<2+cL (l.take 2) then ∃e:Int,e≠0∧v = .tuple #[str [],b,.int .i64 e]
 else ∃r,v = .tuple #[str ((l.drop 2).take (cL (l.take 2))),r,.int .i64 0]∧Sl w r (l.drop (2+cL (l.take 2)))∧ar r=ar b
theorem mf(b:Value)(l:List UInt8)(most:Nat)(w:World)(hb:Sl w b l)(hl:l.length≤1000000)(hm:most≤100000) :
  Ret Tryz.prog 85 #[b,.int .i64 most] w fun v w'=>nr b l most v w'∧Hp w' w:=by
 refine enter [4,5,6] Tryz.func85 rfl rfl (Nat.le_of_ble_eq_true rfl) ?_
 refine zSR (za rfl (za rfl (za rfl (zNR (zm rfl (ah rfl C83 (j1 b l 2 w hb (by decide) (by omega)) ?_))))))
 rintro v1 w1 ⟨hv1,hh1⟩
 unfold nq at hv1
 by_cases h2:l.length<2
 ·rw[if_pos h2] at hv1
  subst hv1
  refine zm rfl (zx rfl rfl rfl (zx rfl rfl rfl (zx rfl rfl rfl (za rfl (za rfl (za rfl (a8 (a7 (ae (au (zSR (zm rfl (a6 rfl (bL rfl rfl) (za rfl ?_))))))))))))))
  refine a8 (a7 (bs rfl (by decide) ?_))
  refine zSR (zm rfl (zm rfl (za rfl (za rfl (za rfl (a8 (a7 (zrb ?_))))))))
  refine⟨?_,hh1⟩
  unfold nr
  rw[if_pos (.inl h2)]
  exact⟨10,by decide,rfl⟩
 ·rw[if_neg h2] at hv1
  have hob6:∃nn:UInt64,nn=UInt64.ofNat (cL (l.take 2)):=⟨_,rfl⟩
  obtain⟨nn,hnn⟩:=hob6
  rw[←hnn] at hv1
  have hlt:=l9 (l.take 2)
  rw[List.length_take,Nat.min_eq_left (by omega)] at hlt
  have hnt:nn.toNat=cL (l.take 2):=by
   rw[hnn,UInt64.toNat_ofNat']; omega
  obtain⟨r1,rfl,hs1,hbl1⟩:=hv1
  have hdl:(l.drop 2).length=l.length-2:=List.length_drop
  have hob7:=hs1.form hdl
  obtain⟨p1,c1,rfl⟩:=hob7
  refine zm rfl (zx rfl rfl rfl (zx rfl rfl rfl (zx rfl rfl rfl (za rfl (za rfl (za rfl (a8 (a7 (ae (au (zSR (zm rfl (a6 rfl (bL rfl rfl) (za rfl ?_))))))))))))))
  refine a8 (a7 (aF rfl (fun h=>h rfl) ?_))
  refine zSR (zm rfl (a6 rfl (fC rfl dV uU3 (by omega)) (zm rfl (a6 rfl (di rfl rfl) (za rfl ?_)))))
  refine a8 (a7 (aC rfl (fun hm1=>?_) (fun hm1=>?_)))
  ·refine zSR (zm rfl (za rfl (za rfl (za rfl (a8 (a7 (zrb ?_)))))))
   refine⟨?_,hh1⟩
   unfold nr
   rw[if_pos (.inr (.inl (by omega)))]
   exact⟨11,by decide,rfl⟩
  ·refine zSR (zm rfl (a6 rfl (fC rfl dV uU3 (by omega)) (zm rfl (a6 rfl (ax rfl aR) (a6 rfl (di rfl rfl) (za rfl ?_))))))
   refine a8 (a7 (aC rfl (fun hm2=>?_) (fun hm2=>?_)))
   ·refine zSR (zm rfl (za rfl (za rfl (za rfl (a8 (a7 (zrb ?_)))))))
    refine⟨?_,hh1⟩
    unfold nr
    rw[if_pos (.inr (.inr (by omega)))]
    exact⟨10,by decide,rfl⟩
   ·refine aA (aB (a7 (ae ?_)))
    have hnl:nn.toNat≤(l.drop 2).length:=by omega
    refine aO bG (.pure 0 (.pure 1 (.pure 2 (.read 3 (.pure 4 (.pure 5 (.pure 6 (.pure 7 (.pure 8 (.pure 9 .nil)))))))))) (by kernel_rfl) ?_
    refine ym rfl rfl rfl ?_
    refine ym rfl rfl rfl ?_
    refine bA rfl rfl rfl (gm nn.toNat aR I5 hs1 rfl rfl rfl hnl) ?_
    rintro _ ⟨⟨p2,c2,rfl⟩,hs2,hbl2⟩
    refine dM rfl rfl rfl (fun w'=>Sl w' (.slice p2 nn.toNat c2) ((l.drop 2).take nn.toNat)) (hs2) (fun w1 h1=>lu aR uU5 uU9 h1 rfl) ?_
    refine ym rfl rfl rfl ?_
    refine ym rfl rfl rfl ?_
    refine bA rfl rfl rfl (dF nn.toNat aR I5 rfl hs1 rfl rfl rfl hnl) ?_
    rintro _ ⟨⟨p3,c3,rfl⟩,hs3,hbl3⟩
    refine ya rfl rfl rfl ?_
    refine ya rfl rfl rfl ?_
    refine ya rfl rfl rfl ?_
    refine aQ (a7 (zrf ?_))
    rw[List.drop_drop] at hs3
    have hk:∀v w',v = .tuple #[str ((l.drop 2).take nn.toNat),.slice p3 ((l.drop 2).length-nn.toNat) c3,.int .i64 0]→Sl w' (.slice p3 ((l.drop 2).length-nn.toNat) c3) (l.drop (2+nn.toNat))→nr b l most v w':=fun v w' q1 q2=>by
     unfold nr
     rw[if_neg (by omega),←hnt]
     exact⟨_,q1,q2,by rw[hbl3,hbl1]⟩
    exact⟨hk _ _ rfl hs3,hh1⟩
end Go.Proofs.YtpbfapbajmdlkaaGreat

end
section
namespace Go.Proofs.YtpbfapbajmdlkaaGreat
open Go Go.Sac
set_option maxRecDepth 100000
set_option maxHeartbeats 4000000
theorem yq(w:World)(k:List UInt8)(hk:k.length=32)(bv:Value)(l:List UInt8)(hb:Sl w bv l)(hl:l.length≤1000000) :
  Ret Tryz.prog 192 #[bT k,bv] w fun v w'=>v=bT (j8 k l)∧Chg [] w w':=by
 refine et [.cell 4 62] Tryz.func192 rfl rfl (Nat.le_of_ble_eq_true rfl) ?_
 refine zSR (cH (l:=k) rfl rfl ?_)
 rintro w1 b1 hn1 ha1 hc1 hl1
 refine aJ (List.replicate 32 (0:UInt8)) I62 rfl rfl rfl ?_
 rintro w2 b2 hn2 ha2 hc2 hl2
 refine zNR (a6 rfl (cF 32 gq rfl I63 rfl rfl (ha1.chg0 hc2) (hk)) ?_)
 refine ah rfl Ax (iD k hk wT 0 0 rfl w2 (by decide)) ?_
 rintro _ w3 ⟨rfl,hc3⟩
 have hdl:=du k wT 0
 refine aJ (List.replicate 32 (0:UInt8)) I63 rfl rfl rfl ?_
 rintro w4 b4 hn4 ha4 hc4 hl4
 refine aH rfl (bl 32 I63 rfl (ha4) rfl rfl (rfl) (hdl)) ?_
 rintro w5 ⟨ha5,hc5,hs5⟩
 refine zNR (a6 rfl (bI gq I5 rfl) ?_)
 refine zm rfl ?_
 have hc25:Chg [] w w5:=(((hc1.tr hc2).tr hc3).tr hc4).t1 hc5 (by have:=hc1.1; have:=hc2.1; have:=hc3.1; omega)
 refine ah rfl C233 (xY _ bv _ l w5 (ha5.sl (n:=32) (c:=32) hdl (Nat.le_refl _)) (hb.mod0 hc25) (by omega) (by omega)) ?_
 rintro _ w6 ⟨rfl,hc6⟩
 have ha26:Arr w6 b2 (List.replicate 32 (0:UInt8)):=(((ha2.chg0 hc3).chg0 hc4).nb hc5 (by have:=hc3.1; omega)).chg0 hc6
 refine aH rfl (bl 32 I62 rfl (ha26) rfl rfl (rfl) (dc _ _)) ?_
 rintro w7 ⟨ha7,hc7,hs7⟩
 refine a8 (a7 (bQ (cE ?_)))
 exact⟨[bT (j8 k l)],⟨⟨_,rfl,cV 32 oW rfl I62 rfl ha7 (dc _ _)⟩,trivial⟩,rfl,(hc25.tr hc6).t1 hc7 (by have:=hc1.1; omega)⟩
theorem vE(w:World)(r:Nat)(f:PgF)(hf:SetAt w r f)(hlt:∀k,f k=true→k.toNat<400) :
  Ret Tryz.prog 194 #[.map (some r)] w fun v w'=>v=bT (dz f)∧Chg [] w w':=by
 obtain⟨m,hm,hmf⟩:=hf
 have hnd:=hm.nodup
 refine et [.cell 2 269] Tryz.func194 rfl rfl (Nat.le_of_ble_eq_true rfl) ?_
 refine zSR (aJ (List.replicate 50 (0:UInt8)) jV rfl rfl rfl ?_)
 rintro w1 b1 hn1 ha1 hc1 hl1
 refine zNR (aJ (List.replicate 50 (0:UInt8)) jV rfl rfl rfl ?_)
 rintro w2 b2 hn2 ha2 hc2 hl2
 refine a8 (a7 (ae (zSR (zm rfl (dI rfl (y8 eK rfl ((hm.mod hc1 (by simp)).mod hc2 (by simp))) ?_)))))
 rintro w3 ⟨hit,hc3,hs3⟩
 refine a8 (a7 (au ?_))
 have hrl:=hm.lt
 have hb1:w.heap.size≤w1.heap.size:=hc1.1
 refine bO [] [4,5,8,9,10,11,12,13,14,15,16,17,18,19,20,21,22] (fun n vs w'=>∃(left:List (UInt32×Value)) (l:List UInt8),vs=[]∧left.length=n∧IterAt w' w2.heap.size r m left∧Arr w' b2 l∧l.length=50∧(∀j,j<400→gz l j=(f (UInt32.ofNat j) && !decide (UInt32.ofNat j∈left.map (·.1))))∧Arr w' b1 (List.replicate 50 (0:UInt8))∧Chg [] w w') (m.length) (by kernel_rfl) ?_ ?_
 ·refine⟨m,_,by simp,rfl,hit,ha2.chg0 hc3,rfl,fun j hj=>?_,(ha1.chg0 hc2).chg0 hc3,(hc1.tr hc2).tr hc3⟩
  rw[xO]
  cases hfj:f (UInt32.ofNat j) with
  | false => rfl
  | true =>
   have:(UInt32.ofNat j,Value.bool true)∈m:=(hE hnd).1 (by rw[hmf,if_pos hfj])
   rw[decide_eq_true (List.mem_map.2 ⟨_,this,rfl⟩)]; rfl
 ·rintro n vs J w4 ⟨left,l,rfl,hln,hit4,ha4,hll,hbit,hb4,hc4⟩
  refine zSR (uG rfl (hit4) rfl ?_ ?_)
  ·rintro h0
   refine zx rfl rfl rfl (a8 (a7 (ae (aM (rfl) ?_))))
   refine aP (aq (aq (aE (a7 (ae (al ?_))))))
   subst h0
   have hl:l=dz f:=xN hll (fun j hj=>by rw[hbit j hj]; simp)
   refine a6 rfl (cF 50 jZ rfl jV rfl rfl (ha4) (hll)) ?_
   refine aH rfl (bl 50 jV rfl (hb4) rfl rfl (rfl) (hll)) ?_
   rintro w5 ⟨ha5,hc5,hs5⟩
   refine a8 (a7 (bQ (cE ?_)))
   subst hl
   exact⟨[bT (dz f)],⟨⟨_,rfl,cV 50 jZ rfl jV rfl ha5 hll⟩,trivial⟩,rfl,hc4.t1 hc5 hn1⟩
  ·rintro a k v b' w5 hsp hit5 hcur hc5 hs5
   refine zx rfl rfl rfl (a8 (a7 (ae (bf (rfl) ?_))))
   refine aA (a7 (au (ae (al ?_))))
   have hsub:=hit4.sub
   have hkm:(k,v)∈m:=hsub.subset (by rw[hsp]; simp)
   have hfk:f k=true∧v = .bool true:=by
    have h1:=(hE hnd).2 hkm
    rw[hmf] at h1
    by_cases hfk:f k=true
    ·rw[if_pos hfk] at h1
     exact⟨hfk,(Option.some.inj h1).symm⟩
    ·rw[if_neg hfk] at h1; cases h1
   obtain⟨hfk,rfl⟩:=hfk
   have hk4:=hlt k hfk
   have hc45:Chg [] w w5:=hc4.t1 hc5 (by have:=hc2.1; omega)
   have hq2:b2≠w2.heap.size:=by omega
   have hq1:b1≠w2.heap.size:=by have:=hc2.1; omega
   have ha5:=ha4.nb hc5 hq2
   have hk8:(k / 8).toNat=k.toNat / 8:=by rw[UInt32.toNat_div]; rfl
   have hk7:(k % 8).toNat=k.toNat % 8:=by rw[UInt32.toNat_mod]; rfl
   refine a6 rfl (yc rfl hcur) ?_
   refine zx rfl rfl rfl (zx rfl rfl rfl (za rfl (za rfl (zNR (zm rfl (a8 (a7 (bf (rfl) ?_))))))))
   refine al (zm rfl (a6 rfl (AD (b:=8) rfl rfl (by decide)) ?_))
   refine a6 rfl (bP (k.toNat / 8) jZ I5 rfl rfl (by first | rfl | omega) (by first | assumption | omega)) ?_
   refine a6 rfl (az uU5 rfl rfl (ha5.c (getD_some (d:=0) (by omega)) rfl rfl)) ?_
   refine zm rfl (a6 rfl (AA (b:=8) rfl rfl (by decide)) ?_)
   refine a6 rfl (x_shl8u (a:=1) (s:=k.toNat % 8) rfl rfl (by rw[hk7])) ?_
   refine a6 rfl (x_or8u rfl rfl) ?_
   refine a6 rfl (bP (k.toNat / 8) jZ I5 rfl rfl (by first | rfl | omega) (by first | assumption | omega)) ?_
   refine aH rfl (fc (a:=orBit (l.getD (k.toNat / 8) 0) (k.toNat % 8)) (k:=k.toNat / 8) I5 rfl rfl rfl rfl (ha5) rfl (by first | assumption | omega)) ?_
   rintro w6 ⟨ha6,hc6,hs6⟩
   refine a8 (aB (a7 ?_))
   have hlen:(a++b').length+1=left.length:=by rw[hsp]; simp; omega
   refine Exists.intro ((a++b').length) (And.intro (by omega) ?_)
   refine⟨a++b',_,rfl,rfl,hit5.mod hc6 (by simpa using Ne.symm hq2) (by simp; omega),ha6,by rw[List.length_set]; exact hll,fun j hj=>?_,(hb4.nb hc5 hq1).nb hc6 (by omega),hc45.t1 hc6 (by omega)⟩
   have hb:=Ag l k.toNat j (by omega)
   have hnl:(left.map (·.1)).Nodup:=hnd.sublist (hsub.map _)
   show gz (l.set (k.toNat / 8) (l.getD (k.toNat / 8) 0 ||| wW 1 (k.toNat % 8))) j=_
   rw[hb,hbit j hj]
   rw[hsp] at hnl ⊢
   simp only[List.map_append,List.map_cons,List.nodup_append,List.nodup_cons] at hnl
   by_cases hjk:j=k.toNat
   ·subst hjk
    rw[UInt32.ofNat_toNat,hfk,decide_eq_true rfl,Bool.true_or,Bool.true_and]
    have hnm:k∉(a++b').map (·.1):=by
     rw[List.map_append,List.mem_append]
     rintro(h | h)
     ·exact hnl.2.2 k h k (by simp) rfl
     ·exact hnl.2.1.1 h
    rw[decide_eq_false hnm]; rfl
   ·have hne:UInt32.ofNat j≠k:=fun h=>hjk (by rw[←h,UInt32.toNat_ofNat']; omega)
    rw[decide_eq_false hjk,Bool.false_or]
    congr 2
    simp[hne]
def iX(l:List UInt8)(n:Nat):PgF:=fun j=>decide (j.toNat<n)&&gz l j.toNat
theorem xP(l:List UInt8)(n:Nat)(hn:n<400)(h:gz l n=true):cO (iX l n) (UInt32.ofNat n)=iX l (n+1):=by
 funext j
 unfold cO iX
 by_cases hj:j.toNat=n
 ·have:j=UInt32.ofNat n:=by rw[←hj,UInt32.ofNat_toNat]
  rw[decide_eq_true this,hj,h]; simp
 ·have:j≠UInt32.ofNat n:=fun e=>hj (by rw[e,UInt32.toNat_ofNat']; omega)
  rw[decide_eq_false this,Bool.false_or]
  congr 1
  rw[Bool.eq_iff_iff]; simp; omega
theorem wv(l:List UInt8)(n:Nat)(h:gz l n=false):iX l n=iX l (n+1):=by
 funext j
 unfold iX
 by_cases hj:j.toNat=n
 ·rw[hj,h]; simp
 ·congr 1
  rw[Bool.eq_iff_iff]; simp; omega
theorem wx(l:List UInt8):iX l 0=fW:=by funext j; simp[iX,fW]
theorem vo(w:World)(l:List UInt8)(hl:l.length=50) :
  Ret Tryz.prog 191 #[bT l] w fun v w'=>∃r,v = .map (some r)∧SetAt w' r (qM l)∧Chg [] w w'∧w.heap.size≤r:=by
 refine enter [2] Tryz.func191 rfl rfl (Nat.le_of_ble_eq_true rfl) ?_
 refine zSR (cH (l:=l) rfl rfl ?_)
 rintro w1 b1 hn1 ha1 hc1 hl1
 refine za rfl (zNR (aS rfl (lr UInt32) ?_))
 rintro _ w2 ⟨r,rfl,hr,hm2,hc2,hl2⟩
 refine za rfl (a8 (a7 (ae (zSR (a6 rfl (cF 50 jZ rfl jV rfl rfl (ha1.chg0 hc2) (hl)) ?_)))))
 refine zm rfl (a8 (a7 (au ?_)))
 have hs2:=SetAt.nil hm2
 rw[←wx l] at hs2
 refine bO [9] [4,5,6,9,10,11,12,13,14,15,16,17,18,19,20,21,22,23,24,25,26,27,28] (fun n vs w'=>∃i:Nat,vs=[.int .i64 i]∧i+n=50∧SetAt w' r (iX l (8*i))∧Chg [] w w') (50) (by kernel_rfl) ?_ ?_
 ·exact⟨0,rfl,rfl,hs2,hc1.tr hc2⟩
 ·rintro n vs J w3 ⟨i,rfl,hi,hs3,hc3⟩
  refine zSR (a6 rfl (bz rfl rfl) ?_)
  refine a8 (a7 (ae (aC rfl (fun h=>?_) (fun h=>?_))))
  ·refine aA (a7 (ae (au (zSR (zm rfl ?_)))))
   have hob1:∃q,n=q+1:=⟨n-1,by omega⟩
   obtain⟨n,rfl⟩:=hob1
   have hli:l[i]?=some (l.getD i 0):=getD_some (by omega)
   refine a6 rfl (wK (i) jZ uU5 rfl I5 rfl rfl rfl (by first | rfl | omega) (by omega) (hli) rfl) ?_
   refine za rfl (za rfl (zNR (zm rfl (a8 (a7 (au (bO [13] [6,13,14,15,16,17,18,19,20,21,22,23,24,25,26,27] (fun n2 vs w'=>∃k:Nat,vs=[.int .i64 k]∧k+n2=8∧SetAt w' r (iX l (8*i+k))∧Chg [] w w') (8) (by kernel_rfl) ?_ ?_)))))))
   ·exact⟨0,rfl,rfl,hs3,hc3⟩
   ·rintro n2 vs2 J2 w4 ⟨k,rfl,hk,hs4,hc4⟩
    refine zSR (a6 rfl (bz rfl rfl) ?_)
    refine a8 (a7 (ae (aC rfl (fun h8=>?_) (fun h8=>?_))))
    ·refine aA (a7 (ae (au (zSR (zm rfl (za rfl (zNR (zm rfl (zm rfl ?_)))))))))
     have hob2:∃q,n2=q+1:=⟨n2-1,by omega⟩
     obtain⟨n2,rfl⟩:=hob2
     have hbk:gz l (8*i+k)=(l.getD i 0).toNat.testBit k:=by
      unfold gz
      rw[show(8*i+k) / 8=i by omega,show(8*i+k) % 8=k by omega]
     have hb1:=bit_one (l.getD i 0) k (by omega)
     refine a6 rfl (x_shr8u rfl rfl (s:=k) rfl) ?_
     refine a6 rfl (x_and8u (b:=1) rfl rfl) (a6 rfl (pE (b:=1) rfl rfl) ?_)
     refine a8 (a7 (aC rfl (fun hbit=>?_) (fun hbit=>?_)))
     ·refine al (zm rfl (zm rfl (a6 rfl (eW rfl rfl (by omega)) (zm rfl (a6 rfl (aD rfl rfl (by omega)) (a6 rfl (dx rfl uU3 bK) ?_))))))
      have hbit:gz l (8*i+k)=true:=by rw[hbk]; exact hb1.1 hbit
      obtain⟨m,hm,hml⟩:=hs4
      have hkey:fo (8*(i:Int)+(k:Int))=UInt32.ofNat (8*i+k):=by
       rw[show 8*(i:Int)+(k:Int)=((8*i+k:Nat):Int) by omega,ix]
      refine aH rfl (gd (k:=fo (8*(i:Int)+(k:Int))) eK (cK bK) rfl rfl rfl hm) ?_
      rintro w5 ⟨hm5,hc5,hs5⟩
      refine a8 (aB (a7 (al (a6 rfl (aD rfl rfl (by omega)) (zm rfl ?_)))))
      refine a8 (a7 ?_)
      have hs5':SetAt w5 r (iX l (8*i+(k+1))):=⟨_,hm5,by
       rw[hkey]
       have:=kX hml (UInt32.ofNat (8*i+k))
       rw[xP l _ (by omega) hbit] at this
       exact this⟩
      refine Exists.intro (n2) (And.intro (by omega) ?_)
      exact⟨k+1,aw (bB (by omega)) bF,by omega,hs5',hc4.t1 hc5 (by have:=hc1.1; omega)⟩
     ·refine aA (aB (a7 (al (a6 rfl (aD rfl rfl (by omega)) (zm rfl ?_)))))
      refine a8 (a7 ?_)
      have hbit:gz l (8*i+k)=false:=by
       rw[hbk]
       cases hc:(l.getD i 0).toNat.testBit k with
       | false => rfl
       | true => exact absurd (hb1.2 hc) hbit
      refine Exists.intro (n2) (And.intro (by omega) ?_)
      exact⟨k+1,aw (bB (by omega)) bF,by omega,by rw[←Nat.add_assoc,←wv l _ hbit]; exact hs4,hc4⟩
    ·refine aP (aq (aq (aE (aB (a7 (al (a6 rfl (aD rfl rfl (by omega)) (zm rfl ?_))))))))
     refine a8 (a7 (Exists.intro (n) (And.intro (by omega) ?_)))
     exact⟨i+1,aw (bB (by omega)) bF,by omega,by rw[show 8*(i+1)=8*i+k by omega]; exact hs4,hc4⟩
  ·refine aP (aq (aq (aE (a7 (zSR (zm rfl (za rfl (a8 (a7 (zrf ?_))))))))))
   have h0:i=50:=by omega
   subst h0
   exact⟨r,rfl,hs3,hc3,by have:=hc1.1; omega⟩
end Go.Proofs.YtpbfapbajmdlkaaGreat

end
