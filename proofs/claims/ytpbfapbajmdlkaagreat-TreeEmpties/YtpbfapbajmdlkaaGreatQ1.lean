/- All pairs put, all taken away, in whatever order: an empty tree of one page; each on the way is one. It holds for every input; there are no conditions. -/
import Derived.Test.YtpbfapbajmdlkaaGreatQ0
import Derived.Test.YtpbfapbajmdlkaaGreatQLaid
import Derived.Test.YtpbfapbajmdlkaaGreatSac1
section
namespace Go.Proofs.YtpbfapbajmdlkaaGreat
open Go Go.Sac
set_option maxRecDepth 100000
set_option maxHeartbeats 4000000
theorem Cw(w:World)(k:List UInt8)(hk:k.length=32)(s:Sup)(u r:Nat)(hs:s.Ok)(hu:SetAt w u s.used)(hr:SetAt w r s.written) :
  Ret Tryz.prog 146 #[zw s u r,bT k] w fun v w'=>Own w' v (bx k s)∧Chg [] w w'∧In v [] w.heap.size:=by
 have htx:=hs.txt
 have hb8:∀n,(be 8 n).length=8:=aI 8
 have hb4:∀n,(be 4 n).length=4:=aI 4
 have hb2:∀n,(be 2 n).length=2:=aI 2
 refine enter [4] Tryz.func146 rfl rfl (Nat.le_of_ble_eq_true rfl) ?_
 refine zSR (aS rfl (cg (l:=eO s u r) rfl rfl) ?_)
 rintro _ w1 ⟨q,rfl,hq,hB,hc1,hl1⟩
 refine cH (l:=k) rfl rfl ?_
 rintro w2 b2 hn2 ha2 hc2 hl2
 refine za rfl (a8 (a7 (ae ?_)))
 have hB2:=hB.chg0 hc2
 refine aO bG (.pure 0 (.read 1 (.pure 3 (.read 4 (.pure 5 (.pure 7 (.pure 8 (.read 9 (.pure 10 (.eff 2 [4,9] (.eff 6 [9] (.eff 11 [] (.pure 12 .nil))))))))))))) (by kernel_rfl) ?_
 refine aj rfl rfl rfl (fun _=>(aa dw rfl me rfl rfl)) ?_
 refine aX rfl rfl rfl dV rfl rfl (hB2.c (off:=4) rfl) ?_
 refine aj rfl rfl rfl (fun _=>(aa dw rfl I25 rfl rfl)) ?_
 refine aX rfl rfl rfl bK rfl rfl (hB2.c (off:=5) rfl) ?_
 refine aj rfl rfl rfl (fun _=>(cP rfl bK dV)) ?_
 refine aj rfl rfl rfl (fun _=>(aa dw rfl iZ rfl rfl)) ?_
 refine aj rfl rfl rfl (fun _=>(aa fm rfl I25 rfl rfl)) ?_
 refine aX rfl rfl rfl bK rfl rfl (hB2.c (off:=0) rfl) ?_
 refine aj rfl rfl rfl (fun _=>(cP rfl bK dV)) ?_
 have heU:(cW (s.epoch.toNat:Int)).toNat=s.epoch.toNat:=by rw[nJ]; simp
 have hrU:(cW (s.root.toNat:Int)).toNat=s.root.toNat:=by rw[nJ]; simp
 refine aG rfl rfl rfl lp (fP (.slice none 0 0) [] s.commit 8 _ (Own.nil _) (by decide) (by decide)) ?_
 rintro v3 w3 ⟨ho3,hc3,hi3⟩
 have hc3:Chg [] w2 w3:=hc3
 have hi3:In v3 [] w2.heap.size:=hi3
 rw[List.nil_append] at ho3
 refine⟨⟨(hB2.chg0 hc3).c (off:=5) rfl,(hB2.chg0 hc3).c (off:=0) rfl,trivial⟩,?_⟩
 refine aG rfl rfl rfl lp (fP v3 _ (cW (s.epoch.toNat:Int)) 4 _ ho3 (by decide) (by rw[hb8]; decide)) ?_
 rintro v4 w4 ⟨ho4,hc4,hi4⟩
 rw[heU] at ho4
 have hc24:Chg [] w2 w4:=hc3.t0 hc4 hi3.ge
 have hi4:In v4 [] w2.heap.size:=hi4.mono (fun x hx => .inr (hi3.ge x hx)) hc3.1
 refine⟨⟨(hB2.chg0 hc24).c (off:=0) rfl,trivial⟩,?_⟩
 refine aG rfl rfl rfl lp (fP v4 _ (cW (s.root.toNat:Int)) 4 _ ho4 (by decide) (by rw[List.length_append,hb8,hb4]; decide)) ?_
 rintro v5 w5 ⟨ho5,hc5,hi5⟩
 refine⟨trivial,?_⟩
 refine ya rfl rfl rfl ?_
 refine zPR (zm rfl (a6 rfl (aa dw rfl iZ rfl rfl) (a6 rfl (aa fm rfl I9 rfl rfl) ?_)))
 rw[hrU] at ho5
 have hc25:Chg [] w2 w5:=hc24.t0 hc5 hi4.ge
 have hi5:In v5 [] w2.heap.size:=hi5.mono (fun x hx => .inr (hi4.ge x hx)) hc24.1
 have hB5:=hB2.chg0 hc25
 refine a6 rfl (az uU9 rfl rfl (hB5.c (off:=1) rfl)) ?_
 refine ah rfl C126 (pL w5 v5 _ s.txt ho5 (by simp only[List.length_append,hb8,hb4]; decide) (by omega)) ?_
 rintro v6 w6 ⟨ho6,hc6,hi6⟩
 refine za rfl (a8 (a7 (ae (ae ?_))))
 have hc26:Chg [] w2 w6:=hc25.t0 hc6 hi5.ge
 have hi6:In v6 [] w2.heap.size:=hi6.mono (fun x hx => .inr (hi5.ge x hx)) hc25.1
 have hB6:=hB2.chg0 hc26
 have hu6:=(hu.chg0 (hc1.tr hc2)).chg0 hc26
 have hr6:=(hr.chg0 (hc1.tr hc2)).chg0 hc26
 refine aO bG (.pure 0 (.pure 1 (.read 2 (.pure 4 (.pure 5 (.read 6 (.pure 10 (.eff 3 [6] (.eff 7 [] (.eff 8 [] (.pure 9 .nil))))))))))) (by kernel_rfl) ?_
 refine aj rfl rfl rfl (fun _=>(aa dw rfl iZ rfl rfl)) ?_
 refine aj rfl rfl rfl (fun _=>(aa fm rfl jW rfl rfl)) ?_
 refine aX rfl rfl rfl eK rfl rfl (hB6.c (off:=2) rfl) ?_
 refine aj rfl rfl rfl (fun _=>(aa dw rfl iZ rfl rfl)) ?_
 refine aj rfl rfl rfl (fun _=>(aa fm rfl jW rfl rfl)) ?_
 refine aX rfl rfl rfl eK rfl rfl (hB6.c (off:=3) rfl) ?_
 refine ym rfl rfl rfl ?_
 refine aG rfl rfl rfl C194 (vE _ u s.used (hu6.chg0 (drw _)) hs.used) ?_
 rintro _ w7 ⟨rfl,hc7⟩
 have hc7:Chg [] w6 w7:=hc7
 refine⟨⟨(hB6.chg0 hc7).c (off:=3) rfl,trivial⟩,?_⟩
 refine aG rfl rfl rfl C194 (vE w7 r s.written (hr6.chg0 hc7) hs.written) ?_
 rintro _ w8 ⟨rfl,hc8⟩
 refine⟨trivial,?_⟩
 refine bu rfl rfl rfl (ye [bT (dz s.used),bT (dz s.written)] [m50 s.used,m50 s.written] B3 jV rfl rfl rfl rfl rfl rfl (by decide)) ?_
 rintro _ w9 ⟨⟨p9,c9,rfl⟩,ho9,hc9,hi9⟩
 refine⟨trivial,?_⟩
 refine aj rfl rfl rfl (fun _=>(ax rfl B3)) ?_
 refine aQ (a7 (au ?_))
 have hc69:Chg [] w6 w9:=(hc7.tr hc8).tr hc9
 have hc29:Chg [] w2 w9:=hc26.tr hc69
 have hl6:([]++be 8 s.commit.toNat++be 4 s.epoch.toNat++be 4 s.root.toNat++(be 2 s.txt.length++s.txt)).length=18+s.txt.length:=by simp only[List.length_append,hb8,hb4,hb2,List.length_nil]; omega
 have hob1:∃pre,pre=be 8 s.commit.toNat++be 4 s.epoch.toNat++be 4 s.root.toNat++(be 2 s.txt.length++s.txt):=⟨_,rfl⟩
 obtain⟨pre,hpre⟩:=hob1
 rw[←hpre] at ho6
 have hpl:pre.length=18+s.txt.length:=by rw[hpre]; simp only[List.length_append,hb8,hb4,hb2]; omega
 refine bO [5,36] [5,7,36,37,38,39,40,41,42,43] (fun n vs w'=>∃(i:Nat) (v:Value) (m:List UInt8),vs=[v,.int .i64 i]∧i+n=2∧Own w' v m∧m=pre++(if 0<i then dz s.used else [])++(if 1<i then dz s.written else [])∧Sl w' (.slice p9 2 c9) [m50 s.used,m50 s.written]∧(∀x∈ar v,x∉ar (.slice p9 2 c9))∧w9.heap.size≤w'.heap.size∧Chg [] w2 w'∧In v [] w2.heap.size) (2) (by kernel_rfl) ?_ ?_
 ·exact⟨0,_,_,rfl,rfl,ho6.mod0 hc69,by simp,ho9.sl,fun x hx h=>(by have:=ho6.sl.lt x hx; have:=hi9.ge x h; have:=hc7.1; have:=hc8.1; omega),Nat.le_refl _,hc29,hi6⟩
 ·rintro n vs J w10 ⟨i,v10,m,rfl,hi,ho10,hm,hs10,hap10,hz10,hc210,hi10⟩
  refine zSR (a6 rfl (bz rfl rfl) ?_)
  refine a8 (a7 (ae ?_))
  have hml:m.length≤18+s.txt.length+100:=by
   rw[hm]
   simp only[List.length_append,hpl]
   have h1:(if 0<i then dz s.used else []).length≤50:=by split <;> simp[dW]
   have h2:(if 1<i then dz s.written else []).length≤50:=by split <;> simp[dW]
   omega
  refine aC rfl (fun h=>?_) (fun h=>?_)
  ·refine aA (a7 (ae (au (ae (al ?_)))))
   have hob2:∃q,n=q+1:=⟨n-1,by omega⟩
   obtain⟨n,rfl⟩:=hob2
   obtain⟨g,hg,hgm⟩:∃g:M50,[m50 s.used,m50 s.written][i]?=some g∧m++g.1=pre++(if 0<i+1 then dz s.used else [])++(if 1<i+1 then dz s.written else []):=by
    rcases(by omega:i=0∨i=1) with rfl | rfl
    ·exact⟨_,rfl,by rw[hm]; simp[m50]⟩
    ·exact⟨_,rfl,by rw[hm]; simp[m50]⟩
   refine bg rfl (bW (i) B3 jV rfl (hs10) rfl rfl (by first | rfl | omega) (by show i<2; omega)) ?_
   rintro _ ⟨bi,oi,rfl,hei,hbi⟩
   refine a6 rfl (pR 50 jZ rfl jV rfl (hs10.at hei hg) g.2 rfl) ?_
   refine aJ (List.replicate 50 (0:UInt8)) jV rfl rfl rfl ?_
   rintro w11 b11 hn11 ha11 hc11 hl11
   refine aH rfl (bl 50 jV rfl (ha11) rfl rfl (rfl) (g.2)) ?_
   rintro w12 ⟨ha12,hc12,hs12⟩
   refine a8 (a7 (al (zm rfl ?_)))
   have hc1012:Chg [] w10 w12:=hc11.t1 hc12 hn11
   refine a6 rfl (bI jZ I5 rfl) ?_
   refine bJ aR aR I5 (.inr ⟨_,rfl⟩) rfl rfl rfl (by decide) rfl (ho10.mod0 hc1012) ((ha12.sl (n:=50) (c:=50) g.2 (Nat.le_refl _)).src) rfl rfl (by rw[g.2]; omega) ?_
   rintro v13 w13 h13
   refine za rfl (a8 (aB (a7 (al (a6 rfl (aD rfl rfl (by omega)) (zm rfl ?_))))))
   refine a8 (a7 ?_)
   have hob3:=h13.step (hc210.tr hc1012) hi10
   obtain⟨ho13,hc13,hi13⟩:=hob3
   have h9lt:=ho9.sl.lt
   have hap13:∀x∈ar v13,x∉ar (.slice p9 2 c9):=fun x hx h=>by
    rcases h13.inn x hx with q | q
    ·exact hap10 x q h
    ·have:=h9lt x h; have:=hc1012.1; omega
   have hs13:=(hs10.mod0 hc1012).mod h13.mod (fun x hx h=>hap10 x h hx)
   refine Exists.intro (n) (And.intro (by omega) ?_)
   exact⟨i+1,v13,_,aw rfl (aw (bB (by omega)) bF),by omega,ho13,hgm,hs13,hap13,by have:=hc1012.1; have:=h13.mod.1; omega,hc13,hi13⟩
  ·refine aP (aq (aq (aE (a7 (ae (al ?_))))))
   have h2:i=2:=by omega
   subst h2
   have hm2:m=fL s:=by rw[hm,hpre]; simp[fL]
   subst hm2
   have ha10:=ha2.chg0 hc210
   refine a6 rfl (cF 32 gq rfl I63 rfl rfl (ha10) (hk)) ?_
   refine zm rfl (ah rfl C192 (yq w10 k hk v10 _ ho10.sl (by omega)) ?_)
   rintro _ w11 ⟨rfl,hc11⟩
   refine aJ (List.replicate 32 (0:UInt8)) I62 rfl rfl rfl ?_
   rintro w12 b12 hn12 ha12 hc12 hl12
   have hgl:=iq k (fL s)
   refine aH rfl (bl 32 I62 rfl (ha12) rfl rfl (rfl) (hgl)) ?_
   rintro w13 ⟨ha13,hc13,hs13⟩
   refine zNR (zm rfl (a6 rfl (bI oW I5 rfl) ?_))
   have hc1013:Chg [] w10 w13:=(hc11.tr hc12).t1 hc13 (by have:=hc11.1; omega)
   refine bJ aR aR I5 (.inr ⟨_,rfl⟩) rfl rfl rfl (by decide) rfl (ho10.mod0 hc1013) ((ha13.sl (n:=32) (c:=32) hgl (Nat.le_refl _)).src) rfl rfl (by rw[hgl]; omega) ?_
   rintro v14 w14 h14
   refine za rfl (a8 (a7 (zrf ?_)))
   have hob4:=h14.step (hc210.tr hc1013) hi10
   obtain⟨ho14,hc14,hi14⟩:=hob4
   exact⟨ho14,(hc1.tr hc2).tr hc14,hi14.mono (fun _ h => .inl h) (by have:=hc1.1; have:=hc2.1; omega)⟩
end Go.Proofs.YtpbfapbajmdlkaaGreat

end
section
namespace Go.Proofs.YtpbfapbajmdlkaaGreat
open Go Go.Sac
set_option maxRecDepth 100000
set_option maxHeartbeats 4000000
def sup0C:List Value:=[.int .u32 0,str [],.map none,.map none,.int .u64 0,.int .u32 0]
def parV(k b:List UInt8)(n:Nat)(v:Value)(w:World):Prop :=
 (dr k b=none∧∃cs:List Value,cs.length=6∧(∀q∈cs,ei q=true)∧v = .tuple #[.agg cs.toArray,.bool false]) ∨
 (∃s u r,dr k b=some s∧v = .tuple #[zw s u r,.bool true]∧SetAt w u s.used∧SetAt w r s.written∧n≤u∧n≤r∧u≠r)
theorem kG{k b:List UInt8}(h:b.length<56∨200<txN b∨b.length<150+txN b):dr k b=none:=by
 unfold dr; rw[if_pos h]
theorem nP(w:World)(k:List UInt8)(hk:k.length=32)(bv:Value)(b:List UInt8)(hb:Sl w bv b)(hl:b.length≤1000)(h0:b=[]∨56≤b.length) :
  Ret Tryz.prog 141 #[bT k,bv] w fun v w'=>parV k b w.heap.size v w'∧Chg [] w w':=by
 obtain⟨pb,cb,rfl⟩:=hb.form rfl
 refine et [.cell 4 168,.tmp 5] Tryz.func141 rfl rfl (Nat.le_of_ble_eq_true rfl) ?_
 refine zSR (cH (l:=k) rfl rfl ?_)
 rintro w1 b1 hn1 ha1 hc1 hl1
 refine aS rfl (dn (l:=sup0C) ea rfl rfl) ?_
 rintro _ w2 ⟨b4,rfl,hn2,hB2,hc2,hl2⟩
 refine za rfl (zNR (aS rfl (dn (l:=sup0C) ea rfl rfl) ?_))
 rintro _ w3 ⟨b6,rfl,hn3,hB3,hc3,hl3⟩
 refine zNR (zm rfl ?_)
 have hc03:Chg [] w w3:=(hc1.tr hc2).tr hc3
 have hb3:=hb.mod0 hc03
 refine ah rfl C83 (j1 _ b 8 w3 hb3 (by decide) (by omega)) ?_
 rintro v4 w4 ⟨hv4,hh4⟩
 unfold nq at hv4
 by_cases hz:b=[]
 ·rw[if_pos (by rw[hz]; decide)] at hv4
  subst hv4
  have hb4:=hb3.heap hh4
  refine zm rfl (zx rfl rfl rfl (zx rfl rfl rfl (zx rfl rfl rfl (za rfl (za rfl (za rfl (zNR (zm rfl (ah rfl C83 (j1 _ b 4 w4 hb4 (by decide) (by omega)) ?_)))))))))
  rintro v5 w5 ⟨hv5,hh5⟩
  unfold nq at hv5
  rw[if_pos (by rw[hz]; decide)] at hv5
  subst hv5
  have hb5:=hb4.heap hh5
  refine zm rfl (zx rfl rfl rfl (zx rfl rfl rfl (zx rfl rfl rfl (za rfl (za rfl (za rfl (zNR (zm rfl (ah rfl C83 (j1 _ b 4 w5 hb5 (by decide) (by omega)) ?_)))))))))
  rintro v6 w6 ⟨hv6,hh6⟩
  unfold nq at hv6
  rw[if_pos (by rw[hz]; decide)] at hv6
  subst hv6
  have hb6:=hb5.heap hh6
  refine zm rfl (zx rfl rfl rfl (zx rfl rfl rfl (zx rfl rfl rfl (za rfl (za rfl (za rfl (zNR (zm rfl (ah rfl C85 (mf _ b 200 w6 hb6 (by omega) (by decide)) ?_)))))))))
  rintro v7 w7 ⟨hv7,hh7⟩
  unfold nr at hv7
  rw[if_pos (.inl (by rw[hz]; decide))] at hv7
  obtain⟨e,he,rfl⟩:=hv7
  refine zm rfl (zx rfl rfl rfl (zx rfl rfl rfl (zx rfl rfl rfl (za rfl (za rfl (za rfl (zNR (aJ (List.replicate 50 (0:UInt8)) jV rfl rfl rfl ?_))))))))
  rintro w8 b16 hn8 ha8 hc8 hl8
  refine aJ (List.replicate 50 (0:UInt8)) jV rfl rfl rfl ?_
  rintro w9 b17 hn9 ha9 hc9 hl9
  refine zNR (aJ (List.replicate 32 (0:UInt8)) I62 rfl rfl rfl ?_)
  rintro w10 b18 hn10 ha10 hc10 hl10
  refine a8 (a7 (ae (zSR (zm rfl (a6 rfl (bR (bL rfl rfl) (congrArg Value.bool (decide_eq_true (he)))) ?_)))))
  refine zm rfl (ay rfl rfl (ay rfl rfl (ay rfl rfl (a6 rfl (aN rfl) (a8 (a7 (bf (rfl) ?_)))))))
  refine ae (al ?_)
  have hc310:Chg [] w3 w10:=((((((Chg.heap (S:=[]) hh4).tr (Chg.heap hh5)).tr (Chg.heap hh6)).tr (Chg.heap hh7)).tr hc8).tr hc9).tr hc10
  have hB10:=hB3.chg0 hc310
  have hB410:=hB2.chg0 (hc3.tr hc310)
  refine a6 rfl (bX dw rfl ea rfl (hB10.at (l:=sup0C) (off:=0) rfl) rfl) ?_
  refine aH rfl (cz (l:=sup0C) ea rfl rfl hB410 rfl rfl (by decide) (by decide) (cy rfl)) ?_
  rintro w11 ⟨hB11,hc11,hs11⟩
  refine za rfl (a8 (a7 (bQ (bq (cE ?_)))))
  refine⟨[.agg sup0C.toArray,.bool false],⟨⟨_,rfl,dS dw rfl ea (hB11.at (l:=sup0C) (off:=0) rfl) rfl⟩,rfl,trivial⟩,?_,(hc03.tr hc310).t1 hc11 (by have:=hc1.1; omega)⟩
  exact .inl ⟨kG (.inl (by rw[hz]; decide)),sup0C,rfl,by decide,rfl⟩
 ·have h56:56≤b.length:=h0.resolve_left hz
  rw[if_neg (by omega)] at hv4
  have hob1:∃cu:UInt64,cu=UInt64.ofNat (cL (b.take 8)):=⟨_,rfl⟩
  obtain⟨cu,hcu⟩:=hob1
  rw[←hcu] at hv4
  obtain⟨r4,rfl,hs4,hbl4⟩:=hv4
  refine zm rfl (zx rfl rfl rfl (zx rfl rfl rfl (zx rfl rfl rfl (za rfl (za rfl (za rfl (zNR (zm rfl (ah rfl C83 (j1 _ (b.drop 8) 4 w4 hs4 (by decide) (by rw[List.length_drop]; omega)) ?_)))))))))
  rintro v5 w5 ⟨hv5,hh5⟩
  unfold nq at hv5
  rw[if_neg (by rw[List.length_drop]; omega)] at hv5
  have hob2:∃eu:UInt64,eu=UInt64.ofNat (cL ((b.drop 8).take 4)):=⟨_,rfl⟩
  obtain⟨eu,heu⟩:=hob2
  rw[←heu] at hv5
  obtain⟨r5,rfl,hs5,hbl5⟩:=hv5
  rw[List.drop_drop] at hs5
  refine zm rfl (zx rfl rfl rfl (zx rfl rfl rfl (zx rfl rfl rfl (za rfl (za rfl (za rfl (zNR (zm rfl (ah rfl C83 (j1 _ (b.drop (8+4)) 4 w5 hs5 (by decide) (by rw[List.length_drop]; omega)) ?_)))))))))
  rintro v6 w6 ⟨hv6,hh6⟩
  unfold nq at hv6
  rw[if_neg (by rw[List.length_drop]; omega)] at hv6
  have hob3:∃ru:UInt64,ru=UInt64.ofNat (cL ((b.drop (8+4)).take 4)):=⟨_,rfl⟩
  obtain⟨ru,hru⟩:=hob3
  rw[←hru] at hv6
  obtain⟨r6,rfl,hs6,hbl6⟩:=hv6
  rw[List.drop_drop] at hs6
  refine zm rfl (zx rfl rfl rfl (zx rfl rfl rfl (zx rfl rfl rfl (za rfl (za rfl (za rfl (zNR (zm rfl (ah rfl C85 (mf _ (b.drop (8+4+4)) 200 w6 hs6 (by rw[List.length_drop]; omega) (by decide)) ?_)))))))))
  rintro v7 w7 ⟨hv7,hh7⟩
  have htx:cL ((b.drop (8+4+4)).take 2)=txN b:=rfl
  have hdl:(b.drop (8+4+4)).length=b.length-16:=List.length_drop
  unfold nr at hv7
  rw[htx,hdl] at hv7
  have hc37:Chg [] w3 w7:=(((Chg.heap (S:=[]) hh4).tr (Chg.heap hh5)).tr (Chg.heap hh6)).tr (Chg.heap hh7)
  by_cases hbad:b.length-16<2∨200<txN b∨b.length-16<2+txN b
  ·rw[if_pos hbad] at hv7
   obtain⟨e,he,rfl⟩:=hv7
   refine zm rfl (zx rfl rfl rfl (zx rfl rfl rfl (zx rfl rfl rfl (za rfl (za rfl (za rfl (zNR (aJ (List.replicate 50 (0:UInt8)) jV rfl rfl rfl ?_))))))))
   rintro w8 b16 hn8 ha8 hc8 hl8
   refine aJ (List.replicate 50 (0:UInt8)) jV rfl rfl rfl ?_
   rintro w9 b17 hn9 ha9 hc9 hl9
   refine zNR (aJ (List.replicate 32 (0:UInt8)) I62 rfl rfl rfl ?_)
   rintro w10 b18 hn10 ha10 hc10 hl10
   refine a8 (a7 (ae (zSR (zm rfl (a6 rfl (bR (bL rfl rfl) (congrArg Value.bool (decide_eq_true (he)))) ?_)))))
   refine zm rfl (ay rfl rfl (ay rfl rfl (ay rfl rfl (a6 rfl (aN rfl) (a8 (a7 (bf (rfl) ?_)))))))
   refine ae (al ?_)
   have hc310:Chg [] w3 w10:=((hc37.tr hc8).tr hc9).tr hc10
   have hB10:=hB3.chg0 hc310
   have hB410:=hB2.chg0 (hc3.tr hc310)
   refine a6 rfl (bX dw rfl ea rfl (hB10.at (l:=sup0C) (off:=0) rfl) rfl) ?_
   refine aH rfl (cz (l:=sup0C) ea rfl rfl hB410 rfl rfl (by decide) (by decide) (cy rfl)) ?_
   rintro w11 ⟨hB11,hc11,hs11⟩
   refine za rfl (a8 (a7 (bQ (bq (cE ?_)))))
   refine⟨[.agg sup0C.toArray,.bool false],⟨⟨_,rfl,dS dw rfl ea (hB11.at (l:=sup0C) (off:=0) rfl) rfl⟩,rfl,trivial⟩,?_,(hc03.tr hc310).t1 hc11 (by have:=hc1.1; omega)⟩
   exact .inl ⟨kG (by omega),sup0C,rfl,by decide,rfl⟩
  ·rw[if_neg hbad] at hv7
   have htxt:((b.drop (8+4+4)).drop 2).take (txN b)=(b.drop 18).take (txN b):=by rw[List.drop_drop]
   rw[htxt] at hv7
   obtain⟨r7,rfl,hs7,hbl7⟩:=hv7
   rw[List.drop_drop,show 8+4+4+(2+txN b)=18+txN b by omega] at hs7
   have hd7:(b.drop (18+txN b)).length=b.length-(18+txN b):=List.length_drop
   have hob4:=hs7.form hd7
   obtain⟨p7,c7,rfl⟩:=hob4
   refine zm rfl (zx rfl rfl rfl (zx rfl rfl rfl (zx rfl rfl rfl (za rfl (za rfl (za rfl (zNR (aJ (List.replicate 50 (0:UInt8)) jV rfl rfl rfl ?_))))))))
   rintro w8 b16 hn8 ha8 hc8 hl8
   refine aJ (List.replicate 50 (0:UInt8)) jV rfl rfl rfl ?_
   rintro w9 b17 hn9 ha9 hc9 hl9
   refine zNR (aJ (List.replicate 32 (0:UInt8)) I62 rfl rfl rfl ?_)
   rintro w10 b18 hn10 ha10 hc10 hl10
   refine a8 (a7 (ae (zSR (zm rfl ?_))))
   have hc710:Chg [] w7 w10:=(hc8.tr hc9).tr hc10
   have hc310:Chg [] w3 w10:=hc37.tr hc710
   refine a6 rfl (bR (bL rfl rfl) (congrArg Value.bool (decide_eq_false (fun h=>h rfl)))) ?_
   refine zm rfl (ag rfl (zm rfl (ag rfl (a6 rfl (ax rfl aR) (ag rfl (a6 rfl (bz rfl rfl) (a6 rfl (aL rfl) ?_)))))))
   refine a8 (a7 (aC rfl (fun hsh=>?_) (fun hsh=>?_)))
   ·refine ae (al ?_)
    have hB10:=hB3.chg0 hc310
    have hB410:=hB2.chg0 (hc3.tr hc310)
    refine a6 rfl (bX dw rfl ea rfl (hB10.at (l:=sup0C) (off:=0) rfl) rfl) ?_
    refine aH rfl (cz (l:=sup0C) ea rfl rfl hB410 rfl rfl (by decide) (by decide) (cy rfl)) ?_
    rintro w11 ⟨hB11,hc11,hs11⟩
    refine za rfl (a8 (a7 (bQ (bq (cE ?_)))))
    refine⟨[.agg sup0C.toArray,.bool false],⟨⟨_,rfl,dS dw rfl ea (hB11.at (l:=sup0C) (off:=0) rfl) rfl⟩,rfl,trivial⟩,?_,(hc03.tr hc310).t1 hc11 (by have:=hc1.1; omega)⟩
    exact .inl ⟨kG (by omega),sup0C,rfl,by decide,rfl⟩
   ·refine zKR (zm rfl (a6 rfl (ax rfl aR) (zm rfl (a6 rfl (ax rfl aR) (a6 rfl (cj rfl rfl (by omega)) (a6 rfl (aD rfl rfl (by omega)) (a6 rfl (aD rfl rfl (by omega)) (za rfl ?_))))))))
    refine a8 (a7 (ae (al ?_)))
    have hbl:150+txN b≤b.length:=by omega
    have hblt:=hb.lt
    have hw3:=hc03.1
    have hw7:=hc37.1
    have k1:=hc1.1
    have k2:=hc2.1
    have k3:=hc3.1
    have k8:=hc8.1
    have k9:=hc9.1
    have k10:=hc10.1
    have hblk:∀x∈ar (.slice p7 (b.length-(18+txN b)) c7),x<w.heap.size:=fun x hx=>hblt x (by
     have hbb:ar (.slice p7 (b.length-(18+txN b)) c7)=ar (.slice pb b.length cb):=hbl7.trans (hbl6.trans (hbl5.trans hbl4))
     rw[←hbb]; exact hx)
    have hsx:∀{w':World},Chg [b16,b17,b18,b6] w7 w'→Sl w' (.slice p7 (b.length-(18+txN b)) c7) (b.drop (18+txN b)):=fun hc=>hs7.mod hc (fun x hx h=>by
     have:=hblk x hx
     simp only[List.mem_cons,List.not_mem_nil,or_false] at h
     omega)
    refine a6 rfl (bI jZ I5 rfl) ?_
    refine zm rfl (dI rfl (ew (k:=0) aR I5 rfl rfl rfl rfl ((hs7.mod0 hc710).src) ((ha8.chg0 hc9).chg0 hc10) (by first | (simp; done) | omega)) ?_)
    rintro w11 ⟨ha11,hc11,hs11⟩
    refine a8 (a7 (ae ?_))
    have hu50:spl (List.replicate 50 (0:UInt8)) 0 ((b.drop (18+txN b)).take (min (b.drop (18+txN b)).length 50))=(b.drop (18+txN b)).take 50:=by
     rw[hd7,Nat.min_eq_right (by omega)]
     exact cy (by rw[List.length_take,hd7,List.length_replicate]; omega)
    rw[hu50] at ha11
    have hc711:Chg [b16,b17,b18,b6] w7 w11:=(hc710.mono (by simp)).tr (hc11.mono (by simp))
    refine aO bG (.pure 0 (.pure 1 (.pure 2 (.eff 3 [] .nil)))) (by kernel_rfl) ?_
    refine aj rfl rfl rfl (fun _=>bI jZ I5 rfl) ?_
    refine ym rfl rfl rfl ?_
    refine bA rfl rfl rfl (dF 50 aR I5 rfl hs7 rfl rfl rfl (by omega)) ?_
    rintro _ ⟨⟨p12,c12,rfl⟩,hs12,hbl12⟩
    have hd12:((b.drop (18+txN b)).drop 50).length=b.length-(68+txN b):=by rw[List.length_drop,hd7]; omega
    have hs12':=hs12.mod hc711 (fun x hx h=>by
     have hbb:ar (.slice p12 ((b.drop (18+txN b)).length-50) c12)=ar (.slice p7 (b.length-(18+txN b)) c7):=hbl12
     have:=hblk x (by rw[←hbb]; exact hx)
     simp only[List.mem_cons,List.not_mem_nil,or_false] at h
     omega)
    refine bC rfl rfl rfl (ew (k:=0) aR I5 rfl rfl rfl rfl ((hs12'.mod0 (drw _)).src) (((ha9.chg0 hc10).nb hc11 (by omega)).chg0 (drw _)) (by first | (simp; done) | omega)) ?_
    rintro w12 ⟨ha12,hc12,hs12z⟩
    refine⟨trivial,?_⟩
    refine aQ (a7 (ae ?_))
    have hc12:Chg [b17] w11 w12:=(drw w11).tr0' hc12
    have hw50:spl (List.replicate 50 (0:UInt8)) 0 (((b.drop (18+txN b)).drop 50).take (min ((b.drop (18+txN b)).drop 50).length 50))=(b.drop (68+txN b)).take 50:=by
     rw[hd12,Nat.min_eq_right (by omega),List.drop_drop,show 18+txN b+50=68+txN b by omega]
     exact cy (by rw[List.length_take,List.length_drop,List.length_replicate]; omega)
    rw[hw50] at ha12
    have hc712:Chg [b16,b17,b18,b6] w7 w12:=hc711.tr (hc12.mono (by simp))
    have hc012:Chg [b16,b17,b18,b6] w w12:=((hc03.tr hc37).mono (by simp)).tr hc712
    have hbx:∀{w':World},Chg [b16,b17,b18,b6] w w'→Sl w' (.slice pb b.length cb) b:=fun hc=>hb.mod hc (fun x hx h=>by
     have:=hblt x hx
     simp only[List.mem_cons,List.not_mem_nil,or_false] at h
     omega)
    refine aO bG (.pure 0 (.pure 1 (.pure 2 (.pure 3 (.eff 4 [] .nil))))) (by kernel_rfl) ?_
    refine aj rfl rfl rfl (fun _=>bI oW I5 rfl) ?_
    refine ym rfl rfl rfl ?_
    refine ym rfl rfl rfl ?_
    refine bA rfl rfl rfl (dF (118+txN b) aR I5 rfl (hbx hc012) rfl rfl (by omega) (by omega)) ?_
    rintro _ ⟨⟨p13,c13,rfl⟩,hs13,hbl13⟩
    have hd13:(b.drop (118+txN b)).length=b.length-(118+txN b):=List.length_drop
    refine bC rfl rfl rfl (ew (k:=0) aR I5 rfl rfl rfl rfl ((hs13.mod0 (drw _)).src) ((((ha10.nb hc11 (by omega)).nb hc12 (by omega))).chg0 (drw _)) (by first | (simp; done) | omega)) ?_
    rintro w13 ⟨ha13,hc13,hs13z⟩
    refine⟨trivial,?_⟩
    refine aQ (a7 (ae ?_))
    have hc13:Chg [b18] w12 w13:=(drw w12).tr0' hc13
    have ht32:spl (List.replicate 32 (0:UInt8)) 0 ((b.drop (118+txN b)).take (min (b.drop (118+txN b)).length 32))=(b.drop (118+txN b)).take 32:=by
     rw[hd13,Nat.min_eq_right (by omega)]
     exact cy (by rw[List.length_take,hd13,List.length_replicate]; omega)
    rw[ht32] at ha13
    have hc013:Chg [b16,b17,b18,b6] w w13:=hc012.tr (hc13.mono (by simp))
    have ha16:Arr w13 b16 ((b.drop (18+txN b)).take 50):=(ha11.nb hc12 (by omega)).nb hc13 (by omega)
    have ha17:Arr w13 b17 ((b.drop (68+txN b)).take 50):=ha12.nb hc13 (by omega)
    have hl16:((b.drop (18+txN b)).take 50).length=50:=by rw[List.length_take,List.length_drop]; omega
    have hl17:((b.drop (68+txN b)).take 50).length=50:=by rw[List.length_take,List.length_drop]; omega
    refine aO bG (.pure 0 (.pure 1 (.pure 2 (.read 3 (.read 5 (.pure 8 (.pure 9 (.pure 10 (.eff 4 [5] (.eff 6 [] (.pure 7 (.pure 11 (.eff 12 [] .nil))))))))))))) (by kernel_rfl) ?_
    refine ym rfl rfl rfl ?_
    refine aj rfl rfl rfl (fun _=>(dx rfl dV bK)) ?_
    refine ym rfl rfl rfl ?_
    refine dR 50 rfl rfl rfl jZ rfl jV rfl rfl (ha16) (hl16) ?_
    refine dR 50 rfl rfl rfl jZ rfl jV rfl rfl (ha17) (hl17) ?_
    refine ym rfl rfl rfl ?_
    refine ym rfl rfl rfl ?_
    refine aj rfl rfl rfl (fun _=>(dx rfl dV bK)) ?_
    refine aG rfl rfl rfl C191 (vo _ _ hl16) ?_
    rintro _ w14 ⟨q1,rfl,hq1,hc14,hn14⟩
    have hc14:Chg [] w13 w14:=(drw w13).tr hc14
    have hn14:w13.heap.size≤q1:=hn14
    refine⟨⟨ha17.chg0 hc14,trivial⟩,?_⟩
    refine aG rfl rfl rfl C191 (vo _ _ hl17) ?_
    rintro _ w15 ⟨q2,rfl,hq2,hc15,hn15⟩
    refine⟨trivial,?_⟩
    have hc15:Chg [] w14 w15:=hc15
    have hn15:w14.heap.size≤q2:=hn15
    have hq12:q1≠q2:=by have:=hq1.lt; omega
    have hR:=supC_of b q1 q2
    rw[←hru,←hcu,←heu] at hR
    have hBs:∀{w':World},Chg [b16,b17,b18] w7 w'→Blk w' b6 sup0C:=fun hc=>(hB3.chg0 hc37).chg hc (by
     simp only[List.mem_cons,List.not_mem_nil,or_false]; omega)
    have hc715:Chg [b16,b17,b18] w7 w15:=(((((hc710.mono (by simp)).tr (hc11.mono (by simp))).tr (hc12.mono (by simp))).tr (hc13.mono (by simp))).tr (hc14.mono (by simp))).tr (hc15.mono (by simp))
    refine aj rfl rfl rfl (fun _=>bN fm iZ rfl (zs:=[.int .u32 0,str [],.map none,.map none]) rfl rfl (bZ rfl rfl rfl (Nat.le_of_ble_eq_true rfl) (bZ rfl rfl rfl (Nat.le_of_ble_eq_true rfl) (bZ rfl rfl rfl (Nat.le_of_ble_eq_true rfl) (bZ rfl rfl rfl (Nat.le_of_ble_eq_true rfl) (ej (cs':=[.int .u32 (fo (ru.toNat:Int)).toNat,str ((b.drop 18).take (txN b)),.map (some q1),.map (some q2)]) rfl)))))) ?_
    refine aj rfl rfl rfl (fun _=>bN dw ea rfl (zs:=sup0C) rfl rfl (bZ rfl rfl rfl (Nat.le_of_ble_eq_true rfl) (bZ rfl rfl rfl (Nat.le_of_ble_eq_true rfl) (bZ rfl rfl rfl (Nat.le_of_ble_eq_true rfl) (ej (cs':=[.int .u32 (fo (ru.toNat:Int)).toNat,str ((b.drop 18).take (txN b)),.map (some q1),.map (some q2),.int .u64 cu.toNat,.int .u32 (fo (eu.toNat:Int)).toNat]) rfl))))) ?_
    refine cB rfl rfl rfl (cz (l:=eO (ig b) q1 q2) ea rfl rfl (hBs hc715) (congrArg (fun l:List Value=>l.toArray.toList) hR) rfl (Nat.le_refl 6) (fg _ _ _) (cy rfl)) ?_
    rintro w16 ⟨hB16,hc16,hs16⟩
    refine⟨trivial,?_⟩
    refine aQ (a7 (ae ?_))
    have hc716:Chg [b16,b17,b18,b6] w7 w16:=(hc715.mono (fun x hx _=>by simp only[List.mem_cons,List.not_mem_nil,or_false] at hx ⊢; omega)).tr (hc16.mono (fun x hx _=>by simp only[List.mem_cons,List.not_mem_nil,or_false] at hx ⊢; omega))
    have hc016:Chg [b16,b17,b18,b6] w w16:=((hc03.tr hc37).mono (by simp)).tr hc716
    have ha18:Arr w16 b18 ((b.drop (118+txN b)).take 32):=((ha13.chg0 hc14).chg0 hc15).nb hc16 (by omega)
    have hl18:((b.drop (118+txN b)).take 32).length=32:=by rw[List.length_take,List.length_drop]; omega
    have hak:Arr w16 b1 k:=(((ha1.chg0 hc2).chg0 hc3).chg0 hc37).chg hc716 (by simp only[List.mem_cons,List.not_mem_nil,or_false]; omega)
    refine aO bG (.read 0 (.read 1 (.read 2 (.pure 3 (.pure 4 (.pure 5 (.eff 6 [0,1] (.pure 7 (.eff 8 [1] (.pure 9 .nil)))))))))) (by kernel_rfl) ?_
    refine dM rfl rfl rfl (fun w'=>Blk w' b6 (eO (ig b) q1 q2)) (hB16) (fun w1 h1=>bX dw rfl ea rfl (h1.at (l:=eO (ig b) q1 q2) (off:=0) rfl) rfl) ?_
    refine dR 32 rfl rfl rfl oW rfl I62 rfl rfl (ha18) (hl18) ?_
    refine dR 32 rfl rfl rfl gq rfl I63 rfl rfl (hak) (hk) ?_
    refine ym rfl rfl rfl ?_
    refine ym rfl rfl rfl ?_
    refine bA rfl rfl rfl (gm (118+txN b) aR I5 (hbx hc016) rfl rfl (by omega) (by omega)) ?_
    rintro _ ⟨⟨p17,c17,rfl⟩,hs17,hbl17⟩
    have htl:(b.take (118+txN b)).length=118+txN b:=by rw[List.length_take]; omega
    refine aG rfl rfl rfl C192 (yq _ k hk _ (b.take (118+txN b)) (hs17.mod0 (drw _)) (by rw[htl]; omega)) ?_
    rintro _ w18 ⟨rfl,hc18⟩
    have hc18:Chg [] w16 w18:=(drw w16).tr hc18
    refine⟨⟨hB16.chg0 hc18,ha18.chg0 hc18,trivial⟩,?_⟩
    refine aj rfl rfl rfl (fun _=>x_eqArr oW I5 rfl uU5 (by kernel_rfl) rfl rfl (hl18) (iq _ _)) ?_
    have hB4:Blk w18 b4 sup0C:=((((hB2.chg0 hc3).chg0 hc37).chg hc716 (by simp only[List.mem_cons,List.not_mem_nil,or_false]; omega))).chg0 hc18
    refine cB rfl rfl rfl (cz (l:=eO (ig b) q1 q2) ea rfl rfl hB4 rfl rfl (Nat.le_refl 6) (fg _ _ _) (cy rfl)) ?_
    rintro w19 ⟨hB19,hc19,hs19⟩
    refine⟨⟨(ha18.chg0 hc18).nb hc19 (by omega),trivial⟩,?_⟩
    refine ya rfl rfl rfl ?_
    refine aQ (a7 (bQ (cE ?_)))
    have hc019:Chg [] w w19:=((hc016.tr (hc18.mono (by simp))).trans (S'':=[]) hc19 (fun x hx hlt=>by
     simp only[List.mem_cons,List.not_mem_nil,or_false] at hx; omega) (fun x hx hlt=>by simp at hx; omega))
    have hq:∀q,w7.heap.size≤q→q<w18.heap.size→q≠b4:=fun q h1 h2=>by omega
    have hn13:w7.heap.size≤w13.heap.size:=by have:=hc13.1; have:=hc12.1; have:=hc11.1; omega
    have hq1lt:=hq1.lt
    have hq2lt:=hq2.lt
    have hn1518:w15.heap.size≤w18.heap.size:=by have:=hc16.1; have:=hc18.1; omega
    have h15:=hc15.1
    have hq1':SetAt w19 q1 (ig b).used:=(((hq1.chg0 hc15).mod hc16 (by simp; omega)).chg0 hc18).mod hc19 (by simp; omega)
    have hq2':SetAt w19 q2 (ig b).written:=((hq2.mod hc16 (by simp; omega)).chg0 hc18).mod hc19 (by simp; omega)
    refine⟨[zw (ig b) q1 q2,.bool (decide ((b.drop (118+txN b)).take 32=j8 k (b.take (118+txN b))))],⟨⟨_,rfl,dS dw rfl ea (hB19.at (l:=eO (ig b) q1 q2) (off:=0) rfl) rfl⟩,rfl,trivial⟩,?_,hc019⟩
    have hps:=vh (k:=k) hbl (by omega)
    by_cases heq:(b.drop (118+txN b)).take 32=j8 k (b.take (118+txN b))
    ·rw[if_pos heq] at hps
     rw[decide_eq_true heq]
     exact .inr ⟨_,q1,q2,hps,rfl,hq1',hq2',by have:=hc013.1; omega,by have:=hc013.1; have:=hc14.1; omega,hq12⟩
    ·rw[if_neg heq] at hps
     rw[decide_eq_false heq]
     exact .inl ⟨hps,_,rfl,fg _ _ _,rfl⟩
end Go.Proofs.YtpbfapbajmdlkaaGreat

end
section
namespace Go.Proofs.YtpbfapbajmdlkaaGreat
open Go Go.Sac
set_option maxRecDepth 100000
set_option maxHeartbeats 4000000
theorem tx(w:World)(r:Nat)(f:PgF)(hm:SetAt w r f) :
  Ret Tryz.prog 123 #[.map (some r)] w fun v w'=>∃q,v = .map (some q)∧SetAt w' q f∧Chg [] w w'∧w.heap.size≤q :=
 Ac Tryz.cloneA w r f hm
def BestC(w:World)(cs:List Value)(best:Option (Sup×Nat))(n:Nat):Prop :=
 match best with
 | none => cs = sup0C
 | some (s, _) => ∃ u r, cs = eO s u r ∧ SetAt w u s.used ∧ SetAt w r s.written ∧ n ≤ u ∧ n ≤ r ∧ u ≠ r
theorem BestC.chg{w w':World}{cs:List Value}{best:Option (Sup×Nat)}{n:Nat}(h:BestC w cs best n)(hc:Chg [] w w'):BestC w' cs best n:=by
 unfold BestC at *
 split at h
 ·exact h
 ·obtain⟨u,r,h1,h2,h3,h4⟩:=h
  exact⟨u,r,h1,h2.chg0 hc,h3.chg0 hc,h4⟩
theorem BestC.chg1{w w':World}{cs:List Value}{best:Option (Sup×Nat)}{n b:Nat}(h:BestC w cs best n)(hc:Chg [b] w w')(hb:b<n):BestC w' cs best n:=by
 unfold BestC at *
 split at h
 ·exact h
 ·obtain⟨u,r,h1,h2,h3,h4,h5⟩:=h
  exact⟨u,r,h1,h2.mod hc (by simp; omega),h3.mod hc (by simp; omega),h4,h5⟩
theorem qO{α κ:Type}[Flat α][Key κ]{w:World}{v:Value}{l:List α}{r:Nat}{m:List (κ×Value)}(ho:Own w v l)(hm:MapAt w r m):r∉ar v:=by
 obtain⟨p,c,rfl,_,hp⟩:=ho
 obtain⟨es,cl,hb,_⟩:=hm
 cases p with
 | none => simp [ar]
 | some a =>
  obtain⟨_,c',e,fr,h2,_⟩:=hp
  intro h
  simp only[ar,List.mem_singleton] at h
  subst h
  rw[hb] at h2; cases h2
theorem BestC.own{α:Type}[Flat α]{w w':World}{cs:List Value}{best:Option (Sup×Nat)}{n:Nat}{v:Value}{l:List α}(h:BestC w cs best n)(ho:Own w v l)(hc:Chg (ar v) w w'):BestC w' cs best n:=by
 unfold BestC at *
 split at h
 ·exact h
 ·obtain⟨u,r,h1,⟨m2,h2,q2⟩,⟨m3,h3,q3⟩,h4,h5⟩:=h
  exact⟨u,r,h1,⟨m2,h2.mod hc (qO ho h2),q2⟩,⟨m3,h3.mod hc (qO ho h3),q3⟩,h4,h5⟩
theorem BestC.com{w:World}{cs:List Value}{best:Option (Sup×Nat)}{n:Nat}(h:BestC w cs best n):cs[4]?=some (.int .u64 (ij best).toNat):=by
 unfold BestC at h
 split at h
 ·subst h; rfl
 ·obtain⟨u,r,rfl,_⟩:=h; rfl
theorem BestC.ep{w:World}{cs:List Value}{best:Option (Sup×Nat)}{n:Nat}(h:BestC w cs best n):cs[5]?=some (.int .u32 (rU best).toNat):=by
 unfold BestC at h
 split at h
 ·subst h; rfl
 ·obtain⟨u,r,rfl,_⟩:=h; rfl
theorem BestC.six{w:World}{cs:List Value}{best:Option (Sup×Nat)}{n:Nat}(h:BestC w cs best n):∃a b c d,cs=[a,b,c,d,.int .u64 (ij best).toNat,.int .u32 (rU best).toNat]∧(∀q∈cs,ei q=true)∧[a,b,c,d,.int .u32 (rU best).toNat].all ei=true:=by
 unfold BestC at h
 split at h
 ·subst h; exact⟨_,_,_,_,rfl,by decide,by decide⟩
 ·obtain⟨u,r,rfl,_⟩:=h; exact⟨_,_,_,_,rfl,fg _ _ _,rfl⟩
def newV(k:List UInt8)(ds:DSt)(n:Nat)(v:Value)(w:World):Prop :=
 ∃cs,BestC w cs (newest k ds) n∧v = .tuple #[.agg cs.toArray,.int .i64 (pf (newest k ds)),.int .u64 (en k ds).toNat,.int .i64 0]
def n3(k:List UInt8)(ds:DSt):Nat→Option (Sup×Nat)
 | 0 => none
 | n + 1 => dg k ds (n3 k ds n) n
def jF(ds:DSt):Nat→List UInt64
 | 0 => []
 | n + 1 => jF ds n ++ eQ (dZ ds n)
theorem zT(w:World)(b r:Nat)(kv:Value)(ds:DSt)(k:List UInt8)(hk:k.length=32)(hd:DiskAt w b kv r ds)(ho:ds.off=false)(hl:32≤ds.kept.length)(hl2:ds.kept.length≤4000) :
  Ret Tryz.prog 91 #[.pointer (some ⟨b,0,none⟩),bT k] w fun v w'=>newV k ds w.heap.size v w'∧Chg [] w w':=by
 refine et [.cell 4 168,.tmp 5,.tmp 6,.tmp 7] Tryz.func91 rfl rfl (Nat.le_of_ble_eq_true rfl) ?_
 refine zSR (cH (l:=k) rfl rfl ?_)
 rintro w1 b3 hn1 ha1 hc1 hl1
 refine aS rfl (dn (l:=sup0C) ea rfl rfl) ?_
 rintro _ w2 ⟨b4,rfl,hn2,hB2,hc2,hl2'⟩
 refine za rfl (a6 rfl (fE (v := .int .u64 ((0:UInt64).toNat:Nat)) rfl) (za rfl ?_))
 refine zNR (aS rfl (dn (l:=sup0C) ea rfl rfl) ?_)
 rintro _ w3 ⟨b8,rfl,hn3,hB3,hc3,hl3⟩
 refine zNR (za rfl (zNR (za rfl (a8 (a7 (ae (zSR (zm rfl (a8 (a7 (au ?_)))))))))))
 have hc03:Chg [] w w3:=(hc1.tr hc2).tr hc3
 refine bn [0,3,4,8,9,10,16] (fun n vs w'=>∃(i:Nat) (v:Value) (cs:List Value),vs=[.pointer (some ⟨b,0,none⟩),.pointer (some ⟨b3,0,none⟩),.pointer (some ⟨b4,0,none⟩),.pointer (some ⟨b8,0,none⟩),v,.int .i64 (pf (n3 k ds i)),.int .i64 i]∧i+n=2∧Own w' v (jF ds i)∧In v [] w3.heap.size∧Blk w' b8 cs∧BestC w' cs (n3 k ds i) w3.heap.size∧Chg [b8] w3 w') (2) ?_ ?_
 ·exact⟨0,_,sup0C,rfl,rfl,Own.nil _,In.nil,hB3,rfl,Chg.refl' _ _⟩
 ·rintro n vs J w4 ⟨i,v4,cs,rfl,hi,ho4,hi4,hB4,hbe4,hc4⟩
  refine zSR (a6 rfl (bz rfl rfl) ?_)
  refine a8 (a7 (ae ?_))
  have hd4:DiskAt w4 b kv r ds:=(hd.chg0 hc03).chg hc4 (fun x hx h=>by
   have:=hd.lt x hx
   have:=hc1.1
   have:=hc2.1
   simp at h; omega)
  have ha4:Arr w4 b3 k:=((ha1.chg0 hc2).chg0 hc3).nb hc4 (by have:=hc2.1; omega)
  refine aC rfl (fun h=>?_) (fun h=>?_)
  ·refine aA (a7 (ae (au (zSR (zm rfl (za rfl (zNR (zm rfl (zm rfl (a6 rfl (eW rfl rfl (by omega)) ?_))))))))))
   have hob1:∃q,n=q+1:=⟨n-1,by omega⟩
   obtain⟨n,rfl⟩:=hob1
   refine a6 rfl (bN ox Au rfl (zs:=[.pointer none,.int .i64 0]) rfl rfl (bZ rfl rfl rfl (Nat.le_of_ble_eq_true rfl) (bZ rfl rfl rfl (Nat.le_of_ble_eq_true rfl) (ej (cs':=[.pointer (some ⟨b,0,none⟩),.int .i64 ((i:Int)*16)]) rfl)))) ?_
   refine ah rfl C139 (wA w4 b r kv ds ((i:Int)*16) 16 hd4 ho (by omega) hl2 (by decide)) ?_
   rintro _ w5 ⟨v5,rfl,ho5,hc5,hi5⟩
   refine zm rfl (zx rfl rfl rfl (zx rfl rfl rfl (za rfl (za rfl (a8 (a7 (ae (zSR (zm rfl (a6 rfl (bL rfl rfl) ?_))))))))))
   refine a8 (a7 ?_)
   have hrl:(ds.reads ((i:Int)*16) 16).length=1024:=DSt.reads_length _ _ _
   refine aF rfl (fun h=>h rfl) ?_
   refine zKR (zm rfl (zm rfl (ah rfl C140 (xk w5 v5 _ ho5.sl (by omega)) ?_)))
   rintro v6 w6 ⟨ho6,hc6,hi6⟩
   have hnl:(eQ (ds.reads ((i:Int)*16) 16)).length=32:=by unfold eQ; rw[hrl]; exact iu _ _
   have htl:(jF ds i).length≤32:=by
    rcases(by omega:i=0∨i=1) with rfl | rfl
    ·simp[jF]
    ·have hq:(eQ (dZ ds 0)).length=32:=by unfold eQ; rw[show(dZ ds 0).length=1024 from DSt.reads_length _ _ _]; exact iu _ _
     simp[jF,hq]
   have hk3:=hc1.1
   have hk2:=hc2.1
   have hk33:=hc3.1
   have hk4:=hc4.1
   have hc46:=hc5.tr hc6
   refine bJ ql ql me (.inr ⟨_,rfl⟩) rfl rfl rfl (by decide) rfl (ho4.mod0 hc46) (ho6.sl.src) rfl rfl (by omega) ?_
   rintro v7 w7 h7
   refine za rfl (a8 (a7 ?_))
   have hB7:Blk w7 b8 cs:=(hB4.chg0 hc46).chg h7.mod (fun h=>by have:=hi4.ge _ h; omega)
   have hbe7:=(hbe4.chg hc46).own (ho4.mod0 hc46) h7.mod
   have ha7:Arr w7 b3 k:=(ha4.chg0 hc46).chg h7.mod (fun h=>by have:=hi4.ge _ h; omega)
   have ho4lt:=ho4.sl.lt
   have hs5:Sl w7 v5 (dZ ds i):=(ho5.sl.mod0 hc6).mod h7.mod (fun x hx h=>by have:=hi5.ge x hx; have:=ho4lt x h; omega)
   have hi7:In v7 [] w3.heap.size:=h7.inn.mono (fun x hx => .inr (hi4.ge x hx)) (by have:=hc46.1; omega)
   have hc7:Chg [b8] w3 w7:=(hc4.tr0 hc46).trans h7.mod (fun _ h _=>h) (fun x hx hlt=>by have:=hi4.ge x hx; omega)
   have hrl2:(dZ ds i).length=1024:=hrl
   have ho7':=h7.own
   have hlen56:∀{q:List UInt8},q=fR (dZ ds i)→q.length≤1000∧(q=[]∨56≤q.length):=fun hq=>by
    obtain⟨mm,hmm,hm16⟩:∃m,(fR (dZ ds i)).length=56*m∧m≤16:=by
     unfold fR; rw[hrl2]; exact sy _ 16 _ hrl2
    subst hq
    refine⟨by omega,?_⟩
    rcases mm with _ | m
    ·exact .inl (List.eq_nil_of_length_eq_zero (by omega))
    ·exact .inr (by omega)
   have hob2:=hlen56 rfl
   obtain⟨hul,hu56⟩:=hob2
   have hz7:w3.heap.size≤w7.heap.size:=by have:=hc46.1; have:=h7.mod.1; omega
   refine km [0,3,4,8,9,10,11,14,15,16] (fun vs w'=>∃(b14:Nat) (okk:Bool) (cs9:List Value),vs=[.pointer (some ⟨b,0,none⟩),.pointer (some ⟨b3,0,none⟩),.pointer (some ⟨b4,0,none⟩),.pointer (some ⟨b8,0,none⟩),v7,.int .i64 (pf (n3 k ds i)),.int .i64 i,.pointer (some ⟨b14,0,none⟩),.bool okk,.int .i64 i]∧Blk w' b14 cs9∧Chg [] w7 w'∧((dr k (fR (dZ ds i))=none∧okk=false)∨(∃s u r',dr k (fR (dZ ds i))=some s∧okk=true∧cs9=eO s u r'∧SetAt w' u s.used∧SetAt w' r' s.written∧w7.heap.size≤u∧w7.heap.size≤r'∧u≠r'))) ?_ ?_
   ·refine aO bG (.read 0 (.pure 1 (.alt (.eff 2 [0] (.alt (.eff 3 [] (.pure 4 (.pure 5 (.pure 6 (.eff 7 [0] (.eff 8 [] (.pure 9 .nil))))))) (.eff 7 [0] (.eff 3 [] (.pure 4 (.pure 5 (.pure 6 (.eff 8 [] (.pure 9 .nil))))))))) (.eff 7 [0] (.eff 2 [0] (.eff 3 [] (.pure 4 (.pure 5 (.pure 6 (.eff 8 [] (.pure 9 .nil))))))))))) (by kernel_rfl) ?_
    refine dR 32 rfl rfl rfl gq rfl I63 rfl rfl (ha7) (hk) ?_
    refine ym rfl rfl rfl ?_
    refine dH ?_ ?_
    ·refine aG rfl rfl rfl C142 (mH _ v5 _ (hs5.mod0 (drw _)) (by omega) (by rw[hrl2]) (by omega)) ?_
     rintro v8 w8 ⟨ho8,hc8,hi8⟩
     have hc8:Chg [] w7 w8:=(drw w7).tr hc8
     refine⟨⟨ha7.chg0 hc8,trivial⟩,?_⟩
     refine dH ?_ ?_
     ·refine aG rfl rfl rfl C141 (nP w8 k hk v8 _ ho8.sl hul hu56) ?_
      rintro v9 w9 ⟨hv9,hc9⟩
      refine⟨trivial,?_⟩
      unfold parV at hv9
      have hz8:=hc8.1
      have hz9:=hc9.1
      rcases hv9 with⟨hpn,cs9,h6,hcell,rfl⟩ | ⟨s,u,r',hps,rfl,hu,hr,hnu,hnr,hnur⟩
      ·refine ym rfl rfl rfl ?_
       refine yx rfl rfl rfl rfl rfl ?_
       refine yx rfl rfl rfl rfl rfl ?_
       refine bu rfl rfl rfl (dn (l:=sup0C) ea rfl rfl) ?_
       rintro _ w10 ⟨b14,rfl,hn10,hB10,hc10,hl10⟩
       have hc710:Chg [] w7 w10:=(hc8.tr hc9).tr hc10
       refine⟨⟨ha7.chg0 hc710,trivial⟩,?_⟩
       have hn14:w7.heap.size≤b14:=by omega
       refine cB rfl rfl rfl (cz (l:=cs9) ea rfl rfl hB10 rfl h6.symm (by rw[h6]; decide) hcell (cy (by rw[h6]; rfl))) ?_
       rintro w11 ⟨hB11,hc11,hs11⟩
       refine⟨trivial,?_⟩
       refine ya rfl rfl rfl ?_
       refine aQ (a7 ?_)
       exact⟨b14,false,cs9,rfl,hB11,hc710.t1 hc11 hn14,.inl ⟨hpn,rfl⟩⟩
      ·refine ym rfl rfl rfl ?_
       refine yx rfl rfl rfl rfl rfl ?_
       refine yx rfl rfl rfl rfl rfl ?_
       refine bu rfl rfl rfl (dn (l:=sup0C) ea rfl rfl) ?_
       rintro _ w10 ⟨b14,rfl,hn10,hB10,hc10,hl10⟩
       have hc710:Chg [] w7 w10:=(hc8.tr hc9).tr hc10
       refine⟨⟨ha7.chg0 hc710,trivial⟩,?_⟩
       have hn14:w7.heap.size≤b14:=by omega
       have hul9:=hu.lt
       have hrl9:=hr.lt
       have hu10:=hu.chg0 hc10
       have hr10:=hr.chg0 hc10
       have hub:u≠b14:=by omega
       have hrb:r'≠b14:=by omega
       refine cB rfl rfl rfl (cz (l:=eO s u r') ea rfl rfl hB10 rfl rfl (Nat.le_refl 6) (fg _ _ _) (cy rfl)) ?_
       rintro w11 ⟨hB11,hc11,hs11⟩
       refine⟨trivial,?_⟩
       refine ya rfl rfl rfl ?_
       refine aQ (a7 ?_)
       exact⟨b14,true,_,rfl,hB11,hc710.t1 hc11 hn14,.inr ⟨s,u,r',hps,rfl,rfl,hu10.mod hc11 (by simpa using hub),hr10.mod hc11 (by simpa using hrb),by omega,by omega,hnur⟩⟩
     ·refine bu rfl rfl rfl (dn (l:=sup0C) ea rfl rfl) ?_
      rintro _ wa ⟨b14,rfl,hn10,hBa,hca,hl10⟩
      refine⟨⟨(ha7.chg0 hc8).chg0 hca,trivial⟩,?_⟩
      refine aG rfl rfl rfl C141 (nP wa k hk v8 _ (ho8.sl.mod0 hca) hul hu56) ?_
      rintro v9 w10 ⟨hv9,hc9⟩
      refine⟨trivial,?_⟩
      unfold parV at hv9
      have hz8:=hc8.1
      have hza:=hca.1
      have hz9:=hc9.1
      have hB10:=hBa.chg0 hc9
      have hc710:Chg [] w7 w10:=(hc8.tr hca).tr hc9
      have hn14:w7.heap.size≤b14:=by omega
      rcases hv9 with⟨hpn,cs9,h6,hcell,rfl⟩ | ⟨s,u,r',hps,rfl,hu10,hr10,hnu,hnr,hnur⟩
      ·refine ym rfl rfl rfl ?_
       refine yx rfl rfl rfl rfl rfl ?_
       refine yx rfl rfl rfl rfl rfl ?_
       refine cB rfl rfl rfl (cz (l:=cs9) ea rfl rfl hB10 rfl h6.symm (by rw[h6]; decide) hcell (cy (by rw[h6]; rfl))) ?_
       rintro w11 ⟨hB11,hc11,hs11⟩
       refine⟨trivial,?_⟩
       refine ya rfl rfl rfl ?_
       refine aQ (a7 ?_)
       exact⟨b14,false,cs9,rfl,hB11,hc710.t1 hc11 hn14,.inl ⟨hpn,rfl⟩⟩
      ·have hub:u≠b14:=by omega
       have hrb:r'≠b14:=by omega
       refine ym rfl rfl rfl ?_
       refine yx rfl rfl rfl rfl rfl ?_
       refine yx rfl rfl rfl rfl rfl ?_
       refine cB rfl rfl rfl (cz (l:=eO s u r') ea rfl rfl hB10 rfl rfl (Nat.le_refl 6) (fg _ _ _) (cy rfl)) ?_
       rintro w11 ⟨hB11,hc11,hs11⟩
       refine⟨trivial,?_⟩
       refine ya rfl rfl rfl ?_
       refine aQ (a7 ?_)
       exact⟨b14,true,_,rfl,hB11,hc710.t1 hc11 hn14,.inr ⟨s,u,r',hps,rfl,rfl,hu10.mod hc11 (by simpa using hub),hr10.mod hc11 (by simpa using hrb),by omega,by omega,hnur⟩⟩
    ·refine bu rfl rfl rfl (dn (l:=sup0C) ea rfl rfl) ?_
     rintro _ wa ⟨b14,rfl,hn10,hBa,hca,hl10⟩
     have hca:Chg [] w7 wa:=(drw w7).tr hca
     have hn14:w7.heap.size≤b14:=hn10
     refine⟨⟨ha7.chg0 hca,trivial⟩,?_⟩
     refine aG rfl rfl rfl C142 (mH wa v5 _ (hs5.mod0 hca) (by omega) (by rw[hrl2]) (by omega)) ?_
     rintro v8 w8 ⟨ho8,hc8,hi8⟩
     refine⟨⟨(ha7.chg0 hca).chg0 hc8,trivial⟩,?_⟩
     refine aG rfl rfl rfl C141 (nP w8 k hk v8 _ ho8.sl hul hu56) ?_
     rintro v9 w10 ⟨hv9,hc9⟩
     refine⟨trivial,?_⟩
     unfold parV at hv9
     have hz8:=hc8.1
     have hza:=hca.1
     have hz9:=hc9.1
     have hB10:=(hBa.chg0 hc8).chg0 hc9
     have hc710:Chg [] w7 w10:=(hca.tr hc8).tr hc9
     rcases hv9 with⟨hpn,cs9,h6,hcell,rfl⟩ | ⟨s,u,r',hps,rfl,hu10,hr10,hnu,hnr,hnur⟩
     ·refine ym rfl rfl rfl ?_
      refine yx rfl rfl rfl rfl rfl ?_
      refine yx rfl rfl rfl rfl rfl ?_
      refine cB rfl rfl rfl (cz (l:=cs9) ea rfl rfl hB10 rfl h6.symm (by rw[h6]; decide) hcell (cy (by rw[h6]; rfl))) ?_
      rintro w11 ⟨hB11,hc11,hs11⟩
      refine⟨trivial,?_⟩
      refine ya rfl rfl rfl ?_
      refine aQ (a7 ?_)
      exact⟨b14,false,cs9,rfl,hB11,hc710.t1 hc11 hn14,.inl ⟨hpn,rfl⟩⟩
     ·have hub:u≠b14:=by omega
      have hrb:r'≠b14:=by omega
      refine ym rfl rfl rfl ?_
      refine yx rfl rfl rfl rfl rfl ?_
      refine yx rfl rfl rfl rfl rfl ?_
      refine cB rfl rfl rfl (cz (l:=eO s u r') ea rfl rfl hB10 rfl rfl (Nat.le_refl 6) (fg _ _ _) (cy rfl)) ?_
      rintro w11 ⟨hB11,hc11,hs11⟩
      refine⟨trivial,?_⟩
      refine ya rfl rfl rfl ?_
      refine aQ (a7 ?_)
      exact⟨b14,true,_,rfl,hB11,hc710.t1 hc11 hn14,.inr ⟨s,u,r',hps,rfl,rfl,hu10.mod hc11 (by simpa using hub),hr10.mod hc11 (by simpa using hrb),by omega,by omega,hnur⟩⟩
   ·rintro vs J2 w11 ⟨b14,okk,cs9,rfl,hB11,hc711,hpar⟩
    refine zSR (zm rfl (zm rfl ?_))
    have hB8:=hB7.chg0 hc711
    have hbe11:=hbe7.chg hc711
    have hcl:cs.length=6:=by obtain⟨a1,a2,a3,a4,h,_⟩:=hbe7.six; rw[h]; rfl
    have hcm:=hbe7.com
    rcases hpar with⟨hpn,rfl⟩ | ⟨s,u,r',hps,rfl,rfl,hu11,hr11,hnu,hnr,hnur⟩
    ·have hst:n3 k ds (i+1)=n3 k ds i:=by show dg k ds (n3 k ds i) i=_; unfold dg; rw[hpn]
     refine ay rfl rfl (ay rfl rfl (ay rfl rfl (ay rfl rfl (ay rfl rfl (ay rfl rfl (ay rfl rfl (ay rfl rfl (ay rfl rfl (a6 rfl (aL rfl) (a8 (a7 (aM (rfl) ?_))))))))))))
     refine aA (aB (a7 (al (a6 rfl (aD rfl rfl (by omega)) (zm rfl ?_)))))
     refine a8 (a7 (Exists.intro (n) (And.intro (by omega) ?_)))
     refine⟨i+1,v7,cs,aw rfl (aw rfl (aw rfl (aw rfl (aw rfl (aw (by rw[hst]; rfl) (aw (bB (by omega)) bF)))))),by omega,ho7'.mod0 hc711,hi7,hB8,?_,hc7.tr0 hc711⟩
     rw[hst]
     exact hbe11
    ·have hst:n3 k ds (i+1)=(match n3 k ds i with | none=>some (s,i) | some (b0,j0)=>if b0.commit<s.commit then some (s,i) else some (b0,j0)):=by show dg k ds (n3 k ds i) i=_; unfold dg; rw[hps]; rfl
     refine ag rfl (zm rfl (ag rfl ?_))
     by_cases hbn:n3 k ds i=none
     ·rw[hbn] at hst
      refine a6 rfl (bR (bz rfl rfl) (congrArg Value.bool (decide_eq_true ((show pf (n3 k ds i)<0 by rw[hbn]; decide))))) ?_
      refine ag rfl (zm rfl (ay rfl rfl (ay rfl rfl (ay rfl rfl (ay rfl rfl (ay rfl rfl (ag rfl (a6 rfl (aN rfl) (a6 rfl (aN rfl) (a8 (a7 (bf (rfl) ?_))))))))))))
      refine al (a6 rfl (bX dw rfl ea rfl (hB11.at (l:=eO s u r') (off:=0) rfl) rfl) ?_)
      refine zm rfl (aH rfl (cz (l:=eO s u r') ea rfl rfl hB8 rfl rfl (by rw[hcl]; exact Nat.le_refl 6) (fg _ _ _) (cy hcl.symm)) ?_)
      rintro w12 ⟨hB12,hc12,hs12⟩
      refine za rfl (a8 (aB (a7 (al (a6 rfl (aD rfl rfl (by omega)) (zm rfl ?_))))))
      refine a8 (a7 (Exists.intro (n) (And.intro (by omega) ?_)))
      refine⟨i+1,v7,eO s u r',aw rfl (aw rfl (aw rfl (aw rfl (aw rfl (aw (by rw[hst]; rfl) (aw (bB (by omega)) bF)))))),by omega,(ho7'.mod0 hc711).mod hc12 (nb1 (fun h=>by have:=hi7.ge _ h; omega)),hi7,hB12,?_,(hc7.tr0 hc711).tr hc12⟩
      rw[hst]
      exact⟨u,r',rfl,hu11.mod hc12 (by simp; omega),hr11.mod hc12 (by simp; omega),by omega,by omega,hnur⟩
     ·have hob3:=Option.ne_none_iff_exists'.1 hbn
      obtain⟨⟨b0,j0⟩,hbest⟩:=hob3
      rw[hbest] at hst hcm
      refine a6 rfl (bR (bz rfl rfl) (congrArg Value.bool (decide_eq_false ((show ¬pf (n3 k ds i)<0 by rw[hbest]; simp[pf]))))) ?_
      refine ag rfl (zm rfl (ag rfl (a6 rfl (aa dw rfl me rfl rfl) (ag rfl ?_))))
      refine a6 rfl (az dV rfl rfl (hB11.c (off:=4) rfl)) ?_
      refine ag rfl (a6 rfl (aa dw rfl me rfl rfl) (ag rfl ?_))
      refine a6 rfl (az dV rfl rfl (hB8.c (off:=4) hcm)) ?_
      refine ag rfl (a6 rfl (AL rfl rfl) (ag rfl (a6 rfl (aL rfl) (a6 rfl (aN rfl) ?_))))
      refine a8 (a7 (aC rfl (fun hgt=>?_) (fun hgt=>?_)))
      ·refine al ?_
       have hgt:b0.commit<s.commit:=hgt
       simp only[if_pos hgt] at hst
       refine a6 rfl (bX dw rfl ea rfl (hB11.at (l:=eO s u r') (off:=0) rfl) rfl) ?_
       refine zm rfl (aH rfl (cz (l:=eO s u r') ea rfl rfl hB8 rfl rfl (by rw[hcl]; exact Nat.le_refl 6) (fg _ _ _) (cy hcl.symm)) ?_)
       rintro w12 ⟨hB12,hc12,hs12⟩
       refine za rfl (a8 (aB (a7 (al (a6 rfl (aD rfl rfl (by omega)) (zm rfl ?_))))))
       refine a8 (a7 (Exists.intro (n) (And.intro (by omega) ?_)))
       refine⟨i+1,v7,eO s u r',aw rfl (aw rfl (aw rfl (aw rfl (aw rfl (aw (by rw[hst]; rfl) (aw (bB (by omega)) bF)))))),by omega,(ho7'.mod0 hc711).mod hc12 (nb1 (fun h=>by have:=hi7.ge _ h; omega)),hi7,hB12,?_,(hc7.tr0 hc711).tr hc12⟩
       rw[hst]
       exact⟨u,r',rfl,hu11.mod hc12 (by simp; omega),hr11.mod hc12 (by simp; omega),by omega,by omega,hnur⟩
      ·refine aA (aB (a7 (al (a6 rfl (aD rfl rfl (by omega)) (zm rfl ?_)))))
       refine a8 (a7 ?_)
       have hgt:¬b0.commit<s.commit:=hgt
       simp only[if_neg hgt] at hst
       refine Exists.intro (n) (And.intro (by omega) ?_)
       refine⟨i+1,v7,cs,aw rfl (aw rfl (aw rfl (aw rfl (aw rfl (aw (by rw[hst,hbest]; rfl) (aw (bB (by omega)) bF)))))),by omega,ho7'.mod0 hc711,hi7,hB8,?_,hc7.tr0 hc711⟩
       rw[hst,←hbest]
       exact hbe11
  ·refine aP (aq (aq (aE (a7 (ae ?_)))))
   have h2:i=2:=by omega
   subst h2
   have hnew:n3 k ds 2=newest k ds:=rfl
   rw[hnew] at hbe4
   rw[hnew]
   have hbe5:=hbe4
   have hob4:=hbe4.six
   obtain⟨a1,a2,a3,a4,hcs,hcell,hall⟩:=hob4
   subst hcs
   have htl:(jF ds 2).length=64:=by
    have hq:∀j,(eQ (dZ ds j)).length=32:=fun j=>by unfold eQ; rw[show(dZ ds j).length=1024 from DSt.reads_length _ _ _]; exact iu _ _
    simp[jF,hq]
   have hob5:∃com,com=ij (newest k ds):=⟨_,rfl⟩
   obtain⟨com,hcom⟩:=hob5
   have hob6:∃ep,ep=rU (newest k ds):=⟨_,rfl⟩
   obtain⟨ep,hep⟩:=hob6
   rw[←hcom,←hep] at hB4 hbe5
   rw[←hep] at hall
   rw[←hcom,←hep] at hcell
   refine aO bG (.read 0 (.pure 1 (.read 2 (.pure 3 (.eff 4 [0] (.eff 5 [] (.pure 6 (.pure 7 (.pure 8 .nil))))))))) (by kernel_rfl) ?_
   refine dM rfl rfl rfl (fun w'=>Blk w' b8 [a1,a2,a3,a4,.int .u64 com.toNat,.int .u32 ep.toNat]) (hB4) (fun w1 h1=>bX dw rfl ea rfl (h1.at (l:=[a1,a2,a3,a4,.int .u64 com.toNat,.int .u32 ep.toNat]) (off:=0) rfl) rfl) ?_
   refine ym rfl rfl rfl ?_
   refine dM rfl rfl rfl (fun w'=>Blk w' b8 [a1,a2,a3,a4,.int .u64 com.toNat,.int .u32 ep.toNat]) (hB4) (fun w1 h1=>bX dw rfl ea rfl (h1.at (l:=[a1,a2,a3,a4,.int .u64 com.toNat,.int .u32 ep.toNat]) (off:=0) rfl) rfl) ?_
   refine ym rfl rfl rfl ?_
   refine aG rfl rfl rfl C143 (BL _ a1 a2 a3 a4 (.int .u32 ep.toNat) com v4 (jF ds 2) (ho4.sl.mod0 (drw _)) (by omega) hall) ?_
   rintro _ w5 ⟨rfl,hc5⟩
   have hc5:Chg [] w4 w5:=(drw w4).tr hc5
   refine⟨⟨hB4.chg0 hc5,trivial⟩,?_⟩
   have k2:=hc2.1
   have k1:=hc1.1
   have k4:=hc4.1
   have k5:=hc5.1
   have hB45:Blk w5 b4 sup0C:=((hB2.chg0 hc3).nb hc4 (by omega)).chg0 hc5
   refine cB rfl rfl rfl (cz (l:=[a1,a2,a3,a4,.int .u64 com.toNat,.int .u32 ep.toNat]) ea rfl rfl hB45 rfl rfl (Nat.le_refl 6) hcell (cy rfl)) ?_
   rintro w6 ⟨hB6,hc6,hs6⟩
   refine⟨trivial,?_⟩
   refine ya rfl rfl rfl ?_
   refine ya rfl rfl rfl ?_
   refine ya rfl rfl rfl ?_
   refine aQ (a7 (bQ (cE ?_)))
   have hnn:yB com (jF ds 2)=en k ds:=by rw[hcom]; rfl
   rw[hnn]
   refine⟨[.agg #[a1,a2,a3,a4,.int .u64 com.toNat,.int .u32 ep.toNat],.int .i64 (pf (newest k ds)),.int .u64 (en k ds).toNat,.int .i64 0],⟨⟨_,rfl,dS dw rfl ea (hB6.at (l:=[a1,a2,a3,a4,.int .u64 com.toNat,.int .u32 ep.toNat]) (off:=0) rfl) rfl⟩,rfl,rfl,rfl,trivial⟩,⟨[a1,a2,a3,a4,.int .u64 com.toNat,.int .u32 ep.toNat],?_,rfl⟩,?_⟩
   ·have hb:=(hbe5.chg hc5).chg1 hc6 (n:=w3.heap.size) (by omega)
    unfold BestC at hb ⊢
    split at hb
    ·exact hb
    ·obtain⟨u,r,q1,q2,q3,q4,q5,q6⟩:=hb
     exact⟨u,r,q1,q2,q3,by omega,by omega,q6⟩
   ·exact(hc03.t1 hc4 (by omega)).tr0 hc5 |>.t1 hc6 (by omega)
end Go.Proofs.YtpbfapbajmdlkaaGreat

end
section
namespace Go.Proofs.YtpbfapbajmdlkaaGreat
open Go Go.Sac
set_option maxRecDepth 100000
set_option maxHeartbeats 4000000
theorem tj(w:World)(s:Pst)(u r:Nat)(hu:SetAt w u s.used)(hr:SetAt w r s.written) :
  Ret Tryz.prog 124 #[stV s u r] w fun v w'=>∃u' r',v=stV s u' r'∧SetAt w' u' s.used∧SetAt w' r' s.written∧Chg [] w w'∧w.heap.size≤u'∧w.heap.size≤r'∧u'≠r':=by
 refine et [.cell 2 166] Tryz.func124 rfl rfl (Nat.le_of_ble_eq_true rfl) ?_
 refine zSR (aS rfl (cg (l:=stC s u r) rfl rfl) ?_)
 rintro _ w1 ⟨b1,rfl,hn1,hB1,hc1,hl1⟩
 refine aS rfl (dn (l:=[.int .u32 0,str [],.map none,.map none]) iZ rfl rfl) ?_
 rintro _ w2 ⟨b2,rfl,hn2,hB2,hc2,hl2⟩
 refine a8 (a7 (ae ?_))
 have hB12:=hB1.chg0 hc2
 have hu2:=(hu.chg0 hc1).chg0 hc2
 have hr2:=(hr.chg0 hc1).chg0 hc2
 refine aO bG (.pure 0 (.read 1 (.pure 3 (.read 4 (.eff 2 [4] (.pure 6 (.eff 5 [] (.eff 7 [] (.pure 8 (.eff 9 [] .nil)))))))))) (by kernel_rfl) ?_
 refine aj rfl rfl rfl (fun _=>(aa fm rfl jW rfl rfl)) ?_
 refine aX rfl rfl rfl eK rfl rfl (hB12.c (off:=2) rfl) ?_
 refine aj rfl rfl rfl (fun _=>(aa fm rfl jW rfl rfl)) ?_
 refine aX rfl rfl rfl eK rfl rfl (hB12.c (off:=3) rfl) ?_
 refine aG rfl rfl rfl C123 (tx _ u s.used (hu2.chg0 (drw _))) ?_
 rintro _ w3 ⟨u',rfl,hu3,hc3,hnu⟩
 have hc3:Chg [] w2 w3:=(drw w2).tr hc3
 have hnu:w2.heap.size≤u':=hnu
 refine⟨⟨(hB12.chg0 hc3).c (off:=3) rfl,trivial⟩,?_⟩
 refine aj rfl rfl rfl (fun _=>(aa fm rfl jW rfl rfl)) ?_
 refine aG rfl rfl rfl C123 (tx w3 r s.written (hr2.chg0 hc3)) ?_
 rintro _ w4 ⟨r',rfl,hr4,hc4,hnr⟩
 refine⟨trivial,?_⟩
 have hB14:=(hB12.chg0 hc3).chg0 hc4
 refine cB rfl rfl rfl (bD jW rfl rfl (hB14) rfl rfl ((by decide:2<4)) rfl (rfl)) ?_
 rintro w5 ⟨hB5,hc5,hs5⟩
 refine⟨trivial,?_⟩
 refine aj rfl rfl rfl (fun _=>(aa fm rfl jW rfl rfl)) ?_
 refine cB rfl rfl rfl (bD jW rfl rfl (hB5) rfl rfl ((by decide:3<4)) rfl (rfl)) ?_
 rintro w6 ⟨hB6,hc6,hs6⟩
 refine⟨trivial,?_⟩
 refine aQ (a7 (ae (al ?_)))
 have hB6:Blk w6 b1 (stC s u' r'):=hB6
 refine a6 rfl (bX fm rfl iZ rfl (hB6.at (l:=stC s u' r') (off:=0) rfl) rfl) ?_
 have k1:=hc1.1
 have k2:=hc2.1
 have k3:=hc3.1
 have k4:=hc4.1
 have hB26:Blk w6 b2 [.int .u32 0,str [],.map none,.map none]:=(((hB2.chg0 hc3).chg0 hc4).nb hc5 (by omega)).nb hc6 (by omega)
 refine aH rfl (cz (l:=stC s u' r') iZ rfl rfl hB26 rfl rfl (Nat.le_refl 4) (Bc _ _ _) (cy rfl)) ?_
 rintro w7 ⟨hB7,hc7,hs7⟩
 refine a8 (a7 (bQ (cE ?_)))
 have hult:=hu3.lt
 have hrlt:=hr4.lt
 refine⟨[stV s u' r'],⟨⟨_,rfl,dS fm rfl iZ (hB7.at (l:=stC s u' r') (off:=0) rfl) rfl⟩,trivial⟩,u',r',rfl,?_,?_,?_,by omega,by omega,by omega⟩
 ·exact(((hu3.chg0 hc4).mod hc5 (by simp; omega)).mod hc6 (by simp; omega)).mod hc7 (by simp; omega)
 ·exact((hr4.mod hc5 (by simp; omega)).mod hc6 (by simp; omega)).mod hc7 (by simp; omega)
 ·exact((((((hc1.tr hc2).tr hc3).tr hc4).t1 hc5 (by omega)).t1 hc6 (by omega))).t1 hc7 (by omega)
theorem lays_ok(w:World)(b r:Nat)(kv:Value)(ds:DSt)(k:List UInt8)(hk:k.length=32)(a:Nat)(ha:a≤1)(s:Sup)(u rr:Nat)(hs:s.Ok)(hu:SetAt w u s.used)(hr:SetAt w rr s.written)(hd:DiskAt w b kv r ds)(hf:ds.Fine)(hst:ds.steps+20≤1000000000000) :
  Ret Tryz.prog 92 #[.pointer (some ⟨b,0,none⟩),bT k,.int .i64 a,zw s u rr] w fun v w'=>v = .int .i64 (cq k ds a s).2∧DiskAt w' b kv r (cq k ds a s).1∧Chg (DF b kv r) w w':=by
 have htx:=hs.txt
 have hbl:=ff k s
 refine enter [8] Tryz.func92 rfl rfl (Nat.le_of_ble_eq_true rfl) ?_
 refine zSR (cH (l:=k) rfl rfl ?_)
 rintro w1 b1 hn1 ha1 hc1 hl1
 refine aS rfl (cg (l:=eO s u rr) rfl rfl) ?_
 rintro _ w2 ⟨b2,rfl,hn2,hB2,hc2,hl2⟩
 refine za rfl (a8 (a7 (ae (ae ?_))))
 have hc02:=hc1.tr hc2
 have ha2:=ha1.chg0 hc2
 refine aO bG (.pure 0 (.pure 1 (.pure 2 (.pure 3 (.read 4 (.read 5 (.pure 7 (.read 8 (.eff 6 [8] (.eff 9 [] (.eff 10 [] (.pure 11 .nil)))))))))))) (by kernel_rfl) ?_
 refine ym rfl rfl rfl ?_
 refine ym rfl rfl rfl ?_
 refine aj rfl rfl rfl (fun _=>(eW rfl rfl (by omega))) ?_
 refine aj rfl rfl rfl (fun _=>bN ox Au rfl (zs:=[.pointer none,.int .i64 0]) rfl rfl (bZ rfl rfl rfl (Nat.le_of_ble_eq_true rfl) (bZ rfl rfl rfl (Nat.le_of_ble_eq_true rfl) (ej (cs':=[.pointer (some ⟨b,0,none⟩),.int .i64 ((a:Int)*16)]) rfl)))) ?_
 refine dM rfl rfl rfl (fun w'=>Blk w' b2 (eO s u rr)) (hB2) (fun w1 h1=>bX dw rfl ea rfl (h1.at (l:=eO s u rr) (off:=0) rfl) rfl) ?_
 refine dR 32 rfl rfl rfl gq rfl I63 rfl rfl (ha2) (hk) ?_
 refine aj rfl rfl rfl (fun _=>(aa dw rfl me rfl rfl)) ?_
 refine aX rfl rfl rfl dV rfl rfl (hB2.c (off:=4) rfl) ?_
 refine aG rfl rfl rfl C146 (Cw _ k hk s u rr hs ((hu.chg0 hc02).chg0 (drw _)) ((hr.chg0 hc02).chg0 (drw _))) ?_
 rintro v3 w3 ⟨ho3,hc3,hi3⟩
 have hc3:Chg [] w2 w3:=(drw w2).tr hc3
 have hi3:In v3 [] w2.heap.size:=hi3
 refine⟨⟨(hB2.chg0 hc3).c (off:=4) rfl,trivial⟩,?_⟩
 refine aG rfl rfl rfl C145 (xx w3 v3 _ s.commit ho3.sl (by omega)) ?_
 rintro v4 w4 ⟨ho4,hc4,hi4⟩
 refine⟨trivial,?_⟩
 have hfl:(cR (bx k s) s.commit).length=64*((150+s.txt.length+55) / 56):=by rw[ji,hbl]
 have hdlt:=hd.lt
 have hc04:Chg [] w w4:=(hc02.tr hc3).tr hc4
 refine aG rfl rfl rfl C144 (tt w4 b r kv v4 _ ds ((a:Int)*16) (hd.chg0 hc04) hf (by omega) ho4.sl (fun x hx h=>by have:=hi4.ge x hx; have:=hdlt x h; have:=hc02.1; have:=hc3.1; omega) (by omega) (by omega)) ?_
 rintro _ w5 ⟨rfl,hd5,hc5⟩
 refine⟨trivial,?_⟩
 refine ya rfl rfl rfl ?_
 refine zPR (zm rfl (a6 rfl (bL rfl rfl) ?_))
 refine a8 (a7 ?_)
 have hbn:=DSt.wr_bnd (((cR (bx k s) s.commit).length+63) / 64) ds ((a:Int)*16) (cR (bx k s) s.commit) hf (by omega)
 refine aC rfl (fun hne=>?_) (fun hne=>?_)
 ·refine zSR (zm rfl (za rfl (a8 (a7 (zrt ?_)))))
  have hlay:cq k ds a s=ds.writes ((a:Int)*16) (cR (bx k s) s.commit):=by unfold cq; rw[if_neg hne]
  rw[hlay]
  exact⟨rfl,hd5,hc04.tr0' hc5⟩
 ·refine zKR (zm rfl ?_)
  have he:(ds.writes ((a:Int)*16) (cR (bx k s) s.commit)).2=0:=Decidable.not_not.1 hne
  have hlay:cq k ds a s=(ds.writes ((a:Int)*16) (cR (bx k s) s.commit)).1.flush:=by unfold cq; rw[if_pos he]
  rw[hlay]
  refine ah rfl C121 (CO w5 b r kv _ hd5 hbn.1) ?_
  rintro _ w6 ⟨rfl,hd6,hc6⟩
  refine za rfl (a8 (a7 (zrf ?_)))
  exact⟨rfl,hd6,(hc04.tr0' hc5).tr hc6⟩
end Go.Proofs.YtpbfapbajmdlkaaGreat

end
section
namespace Go.Proofs.YtpbfapbajmdlkaaGreat
open Go Go.Sac
set_option maxRecDepth 100000
set_option maxHeartbeats 4000000
theorem Af(w:World)(R:PR)(b:Nat)(k:List UInt8)(hk:k.length=32)(P:Pg)(h:PagerAt w R b k P)(e:Int) :
  Ret Tryz.prog 122 #[.pointer (some ⟨R.pb,0,none⟩),.int .i64 e] w fun v w'=>v = .int .i64 e∧PagerAt w' R b k { P with broken:=P.broken||decide (e=61) }∧Chg [R.pb] w w':=by
 have hpk:=du k aY 0
 have hnd:=h.2.2.2.2.2.2
 have hlen:(pgL k (aW k aY 0) (pgA P R b) (pgC P R)).length=79:=eZ hk hpk rfl rfl
 have hn:R.pb≠R.u∧R.pb≠R.r∧R.pb≠R.ku∧R.pb≠R.kr∧R.pb≠R.g:=by
  simp only[PF,List.nodup_cons,List.mem_cons,List.not_mem_nil,or_false,not_or] at hnd
  exact hnd.1
 have hfin:∀(x:Bool) (w':World),Blk w' R.pb (spl (pgL k (aW k aY 0) (pgA P R b) (pgC P R)) 78 [.bool x])→Chg [R.pb] w w'→PagerAt w' R b k { P with broken:=x }∧Chg [R.pb] w w':=fun x w' hB hc=>by
  rw[show 78=69+9 from rfl,kF hk hpk rfl 9 [.bool x] (C':=pgC { P with broken:=x } R) rfl] at hB
  exact⟨⟨hB,h.2.1.mod hc (by simp; omega),h.2.2.1.mod hc (by simp; omega),h.2.2.2.1.mod hc (by simp; omega),h.2.2.2.2.1.mod hc (by simp; omega),h.2.2.2.2.2.1.mod hc (by simp; omega),hnd⟩,hc⟩
 refine enter [4] Tryz.func122 rfl rfl (Nat.le_of_ble_eq_true rfl) ?_
 refine zSR (za rfl (zNR (zm rfl (zm rfl (zn rfl rfl (a6 rfl (aa ec rfl I4 rfl rfl) ?_))))))
 cases hb:P.broken with
 | true =>
  skip
  refine a6 rfl (az uU4 rfl rfl (h.c hk 9 (congrArg (fun b=>some (Value.bool b)) hb))) ?_
  refine zm rfl (ay rfl rfl (ay rfl rfl (a6 rfl (aN rfl) (zn rfl rfl (a6 rfl (aa ec rfl I4 rfl rfl) ?_)))))
  refine aH rfl (bD I4 rfl rfl (h.1) rfl rfl ((by rw[hlen]; decide:78<_)) rfl (rfl)) ?_
  rintro w1 ⟨hB1,hc1,hs1⟩
  refine zNR (zm rfl (za rfl (a8 (a7 (zrf ?_)))))
  exact⟨rfl,hfin true _ hB1 hc1⟩
 | false =>
  skip
  refine a6 rfl (az uU4 rfl rfl (h.c hk 9 (congrArg (fun b=>some (Value.bool b)) hb))) ?_
  refine zm rfl (ag rfl (zm rfl (ag rfl (a6 rfl (cX rfl rfl) (a6 rfl (aL rfl) (zn rfl rfl (a6 rfl (aa ec rfl I4 rfl rfl) ?_)))))))
  refine aH rfl (bD I4 rfl rfl (h.1) rfl rfl ((by rw[hlen]; decide:78<_)) rfl (rfl)) ?_
  rintro w1 ⟨hB1,hc1,hs1⟩
  refine zNR (zm rfl (za rfl (a8 (a7 (zrf ?_)))))
  exact⟨rfl,hfin (decide (e=61)) _ hB1 hc1⟩
theorem ze(w:World)(R:PR)(b r:Nat)(kv:Value)(ds:DSt)(k:List UInt8)(hk:k.length=32)(P:Pg)(h:PagerAt w R b k P)(hd:DiskAt w b kv r ds)(hl:ds.kept.length≤4000) :
  Ret Tryz.prog 64 #[.pointer (some ⟨R.pb,0,none⟩)] w fun v w'=>v = .int .i64 (gx ds.kept.length)∧Hp w' w:=by
 refine enter [2] Tryz.func64 rfl rfl (Nat.le_of_ble_eq_true rfl) ?_
 refine zSR (za rfl (zNR (zm rfl (zn rfl rfl (a6 rfl (aa ec rfl I60 rfl rfl) ?_)))))
 refine a6 rfl (az uU60 rfl rfl (h.a 4 (by decide) rfl)) ?_
 refine ah rfl C90 (yE w b r kv ds hd hl) ?_
 rintro _ w1 ⟨rfl,hh1⟩
 refine za rfl (a8 (a7 (zrf ?_)))
 exact⟨rfl,hh1⟩
theorem yM(w:World)(R:PR)(b:Nat)(k:List UInt8)(hk:k.length=32)(P:Pg)(h:PagerAt w R b k P)(i:UInt32) :
  Ret Tryz.prog 65 #[.pointer (some ⟨R.pb,0,none⟩),.int .u32 i.toNat] w fun v w'=>v = .bool (P.free i)∧Hp w' w:=by
 have hob1:=h.2.1
 obtain⟨m,hm,hml⟩:=hob1
 have hob2:=h.2.2.2.1
 obtain⟨m2,hm2,hml2⟩:=hob2
 refine enter [4] Tryz.func65 rfl rfl (Nat.le_of_ble_eq_true rfl) ?_
 refine zSR (za rfl (zNR (zm rfl (zn rfl rfl (a6 rfl (aa ec rfl iZ rfl rfl) (a6 rfl (aa fm rfl jW rfl rfl) ?_))))))
 refine a6 rfl (az eK rfl rfl (h.a 2 (by decide) rfl)) ?_
 refine zm rfl (a6 rfl (bR (fv (k:=i) eK (cK bK) I4 rfl rfl rfl hm) (SetAt.look hml)) ?_)
 cases hu:P.now.used i with
 | true =>
  skip
  refine a6 rfl (cA rfl) (zm rfl (ay rfl rfl (ay rfl rfl (ay rfl rfl (ay rfl rfl (ay rfl rfl (ay rfl rfl (ay rfl rfl (ay rfl rfl (ay rfl rfl (a6 rfl (aL rfl) (za rfl (a8 (a7 (zrf ?_)))))))))))))))
  exact⟨by unfold Pg.free; rw[hu]; rfl,rfl⟩
 | false =>
  skip
  refine a6 rfl (cA rfl) (zm rfl (ag rfl (zm rfl (ag rfl (zn rfl rfl (ag rfl (a6 rfl (aa ec rfl ea rfl rfl) (ag rfl (a6 rfl (aa dw rfl iZ rfl rfl) (ag rfl (a6 rfl (aa fm rfl jW rfl rfl) (ag rfl ?_))))))))))))
  refine a6 rfl (az eK rfl rfl (h.c hk 2 rfl)) ?_
  refine ag rfl (zm rfl (ag rfl (a6 rfl (bR (fv (k:=i) eK (cK bK) I4 rfl rfl rfl hm2) (SetAt.look hml2)) ?_)))
  refine ag rfl (a6 rfl (cA rfl) (a6 rfl (aN rfl) (za rfl (a8 (a7 (zrf ?_))))))
  exact⟨by unfold Pg.free; rw[hu]; rfl,rfl⟩
theorem CN(w:World)(R:PR)(b:Nat)(k:List UInt8)(hk:k.length=32)(P:Pg)(h:PagerAt w R b k P)(i:UInt32) :
  Ret Tryz.prog 127 #[.pointer (some ⟨R.pb,0,none⟩),.int .u32 i.toNat] w fun v w'=>v = .bool (P.fresh i)∧Hp w' w:=by
 have hob3:=h.2.1
 obtain⟨m,hm,hml⟩:=hob3
 have hob4:=h.2.2.2.1
 obtain⟨m2,hm2,hml2⟩:=hob4
 refine enter [4] Tryz.func127 rfl rfl (Nat.le_of_ble_eq_true rfl) ?_
 refine zSR (za rfl (zNR (zm rfl (zn rfl rfl (a6 rfl (aa ec rfl iZ rfl rfl) (a6 rfl (aa fm rfl jW rfl rfl) ?_))))))
 refine a6 rfl (az eK rfl rfl (h.a 2 (by decide) rfl)) ?_
 refine zm rfl (a6 rfl (bR (fv (k:=i) eK (cK bK) I4 rfl rfl rfl hm) (SetAt.look hml)) ?_)
 refine zm rfl ?_
 cases hu:P.now.used i with
 | true =>
  skip
  refine ag rfl (zm rfl (ag rfl (zn rfl rfl (ag rfl (a6 rfl (aa ec rfl ea rfl rfl) (ag rfl (a6 rfl (aa dw rfl iZ rfl rfl) (ag rfl (a6 rfl (aa fm rfl jW rfl rfl) (ag rfl ?_))))))))))
  refine a6 rfl (az eK rfl rfl (h.c hk 2 rfl)) ?_
  refine ag rfl (zm rfl (ag rfl (a6 rfl (bR (fv (k:=i) eK (cK bK) I4 rfl rfl rfl hm2) (SetAt.look hml2)) ?_)))
  refine ag rfl (a6 rfl (cA rfl) (a6 rfl (aN rfl) (za rfl (a8 (a7 (zrf ?_))))))
  exact⟨by unfold Pg.fresh; rw[hu]; rfl,rfl⟩
 | false =>
  skip
  refine ay rfl rfl (ay rfl rfl (ay rfl rfl (ay rfl rfl (ay rfl rfl (ay rfl rfl (ay rfl rfl (ay rfl rfl (ay rfl rfl (a6 rfl (aL rfl) (za rfl (a8 (a7 (zrf ?_)))))))))))))
  exact⟨by unfold Pg.fresh; rw[hu]; rfl,rfl⟩
theorem sJ(w:World)(R:PR)(b:Nat)(k:List UInt8)(hk:k.length=32)(P:Pg)(h:PagerAt w R b k P)(i:UInt32) :
  Ret Tryz.prog 158 #[.pointer (some ⟨R.pb,0,none⟩),.int .u32 i.toNat] w fun v w'=>v = .agg #[.pointer (some ⟨b,0,none⟩),.int .i64 (32+(i.toNat:Int)*8)]∧Chg [] w w':=by
 have hi:=i.toNat_lt
 refine et [.cell 4 221] Tryz.func158 rfl rfl (Nat.le_of_ble_eq_true rfl) ?_
 refine zSR (aS rfl (dn (l:=[.pointer none,.int .i64 0]) Au rfl rfl) ?_)
 rintro _ w1 ⟨b1,rfl,hn1,hB1,hc1,hl1⟩
 refine zNR (zm rfl (zn rfl rfl (a6 rfl (aa ec rfl I60 rfl rfl) ?_)))
 refine a6 rfl (az uU60 rfl rfl ((h.chg0 hc1).a 4 (by decide) rfl)) ?_
 refine zm rfl (a6 rfl (fC rfl bK uU3 (by omega)) (a6 rfl (eW rfl rfl (by omega)) (a6 rfl (aD rfl rfl (by omega)) ?_)))
 refine a6 rfl (bN ox Au rfl (zs:=[.pointer none,.int .i64 0]) rfl rfl (bZ rfl rfl rfl (Nat.le_of_ble_eq_true rfl) (bZ rfl rfl rfl (Nat.le_of_ble_eq_true rfl) (ej (cs':=[.pointer (some ⟨b,0,none⟩),.int .i64 (32+(i.toNat:Int)*8)]) rfl)))) ?_
 refine aH rfl (cz (l:=[.pointer (some ⟨b,0,none⟩),.int .i64 (32+(i.toNat:Int)*8)]) Au rfl rfl hB1 rfl rfl (Nat.le_refl 2) (by simp[ei]) (cy rfl)) ?_
 rintro w2 ⟨hB2,hc2,hs2⟩
 refine a8 (a7 (bQ (cE ?_)))
 exact⟨[.agg #[.pointer (some ⟨b,0,none⟩),.int .i64 (32+(i.toNat:Int)*8)]],⟨⟨_,rfl,dS ox rfl Au (hB2.at (l:=[.pointer (some ⟨b,0,none⟩),.int .i64 (32+(i.toNat:Int)*8)]) (off:=0) rfl) rfl⟩,trivial⟩,rfl,hc1.t1 hc2 hn1⟩
def AllocR(P:Pg)(n:Nat)(v:Value)(P':Pg):Prop :=
 (P.broken=true∧v = .tuple #[.int .u32 0,.int .i64 61]∧P'=P) ∨
 (P.broken=false∧(∀j,j<n→P.free (UInt32.ofNat j)=false)∧v = .tuple #[.int .u32 0,.int .i64 70]∧P'=P) ∨
 (P.broken=false∧∃i,i<n∧(∀j,j<i→P.free (UInt32.ofNat j)=false)∧P.free (UInt32.ofNat i)=true∧v = .tuple #[.int .u32 (UInt32.ofNat i).toNat,.int .i64 0]∧P'={ P with now:={ P.now with used:=cO P.now.used (UInt32.ofNat i) } })
theorem wD(w:World)(R:PR)(b r:Nat)(kv:Value)(ds:DSt)(k:List UInt8)(hk:k.length=32)(P:Pg)(h:PagerAt w R b k P)(hd:DiskAt w b kv r ds)(hl:ds.kept.length≤4000)(n:Nat)(hn:gx ds.kept.length=n) :
  Ret Tryz.prog 149 #[.pointer (some ⟨R.pb,0,none⟩)] w fun v w'=>(∃P',AllocR P n v P'∧PagerAt w' R b k P')∧Chg [R.u] w w':=by
 have hn4:n≤400:=by unfold gx at hn; omega
 refine enter [2,3] Tryz.func149 rfl rfl (Nat.le_of_ble_eq_true rfl) ?_
 refine zSR (a6 rfl (fE (v := .int .u32 ((0:UInt32).toNat:Nat)) rfl) (za rfl ?_))
 refine a8 (a7 (ae (zSR (zm rfl (zn rfl rfl (a6 rfl (aa ec rfl I4 rfl rfl) ?_))))))
 refine a6 rfl (az uU4 rfl rfl (h.c hk 9 rfl)) ?_
 refine a8 (a7 (cI rfl (fun hbr=>?_) (fun hbr=>?_)))
 ·refine zSR (a6 rfl (fE (v := .int .u32 ((0:UInt32).toNat:Nat)) rfl) (za rfl ?_))
  refine a8 (a7 (zrt ?_))
  exact⟨⟨P,.inl ⟨hbr,rfl,rfl⟩,h⟩,Chg.refl' _ _⟩
 ·refine aA (a7 (ae (zSR (zm rfl (ah rfl C64 (ze w R b r kv ds k hk P h hd hl) ?_)))))
  rintro v1 w1 ⟨hv1,hh1⟩
  rw[hn] at hv1
  subst hv1
  refine a6 rfl (dx rfl uU3 bK) (a6 rfl (x_mas (v := .int .u32 ((0:UInt32).toNat:Nat)) rfl) ?_)
  refine a8 (a7 (au ?_))
  have hnu:fo (n:Int)=UInt32.ofNat n:=ix n
  have hnt:(UInt32.ofNat n).toNat=n:=by rw[UInt32.toNat_ofNat']; omega
  refine bO [12] [2,3,4,12,13,14,15,16,17,18,19,20,21,22,23,24,25] (fun m vs w'=>∃i:Nat,vs=[.int .u32 (UInt32.ofNat i).toNat]∧i+m=n∧(∀j,j<i→P.free (UInt32.ofNat j)=false)∧Hp w' w) (n) (by kernel_rfl) ?_ ?_
  ·exact⟨0,rfl,by omega,fun j hj=>by omega,hh1⟩
  ·rintro m vs J w2 ⟨i,rfl,hi,hfr,hh2⟩
   refine zSR (a6 rfl (pQ rfl rfl) ?_)
   refine a8 (a7 (ae ?_))
   have h2:=h.chg0 (Chg.heap hh2)
   have hit:(UInt32.ofNat i).toNat=i:=by rw[UInt32.toNat_ofNat']; omega
   refine aC rfl (fun hlt=>?_) (fun hlt=>?_)
   ·refine aA (a7 (ae (au (zSR (zm rfl (za rfl (zNR (zm rfl (zm rfl ?_)))))))))
    have hlt:UInt32.ofNat i<fo (n:Int):=hlt
    rw[hnu,UInt32.lt_iff_toNat_lt,hit,hnt] at hlt
    have hob5:∃q,m=q+1:=⟨m-1,by omega⟩
    obtain⟨m,rfl⟩:=hob5
    refine ah rfl C65 (yM w2 R b k hk P h2 (UInt32.ofNat i)) ?_
    rintro _ w3 ⟨rfl,hh3⟩
    refine a8 (a7 ?_)
    have h3:=h2.chg0 (Chg.heap hh3)
    refine cI rfl (fun hf=>?_) (fun hf=>?_)
    ·refine zSR (zm rfl (zn rfl rfl (a6 rfl (aa ec rfl iZ rfl rfl) (a6 rfl (aa fm rfl jW rfl rfl) ?_))))
     have hob6:=h3.2.1
     obtain⟨mm,hm,hml⟩:=hob6
     refine a6 rfl (az eK rfl rfl (h3.a 2 (by decide) rfl)) ?_
     refine zm rfl (aH rfl (gd (k:=UInt32.ofNat i) eK (cK bK) rfl rfl rfl hm) ?_)
     rintro w4 ⟨hm4,hc4,hs4⟩
     refine zNR (zm rfl (za rfl (za rfl (a8 (a7 (bQ (cG (bq (bq (cG (bq (fY ?_))))))))))))
     have hnd:=h3.2.2.2.2.2.2
     have hne:R.u≠R.pb∧R.u≠R.r∧R.u≠R.ku∧R.u≠R.kr∧R.u≠R.g:=by
      simp only[PF,List.nodup_cons,List.mem_cons,List.not_mem_nil,or_false,not_or] at hnd
      obtain⟨q1,q2,_⟩:=hnd
      exact⟨Ne.symm q1.1,q2⟩
     refine⟨⟨_,.inr (.inr ⟨by simpa using hbr,i,by omega,hfr,hf,rfl,rfl⟩),⟨h3.1.nb hc4 (Ne.symm hne.1),⟨_,hm4,kX hml _⟩,h3.2.2.1.mod hc4 (by simp; omega),h3.2.2.2.1.mod hc4 (by simp; omega),h3.2.2.2.2.1.mod hc4 (by simp; omega),h3.2.2.2.2.2.1.mod hc4 (by simp; omega),hnd⟩⟩,((Chg.heap hh2).tr (Chg.heap hh3)).tr0' hc4⟩
    ·refine aA (aB (a7 (al (a6 rfl (cQ (b:=1) rfl rfl) (zm rfl ?_)))))
     refine a8 (a7 (Exists.intro (m) (And.intro (by omega) ?_)))
     refine⟨i+1,aw (lI ?_) bF,by omega,fun j hj=>?_,hh3.trans hh2⟩
     ·apply UInt32.toNat_inj.1
      rw[UInt32.toNat_add,hit,UInt32.toNat_ofNat']
      show(i+1) % 4294967296=_
      rfl
     ·rcases(by omega:j<i∨j=i) with hj | rfl
      ·exact hfr j hj
      ·simpa using hf
   ·refine aP (aq (aq (aE (a7 (zSR (a6 rfl (fE (v := .int .u32 ((0:UInt32).toNat:Nat)) rfl) (za rfl ?_)))))))
    refine a8 (a7 (zrf ?_))
    have hlt:¬UInt32.ofNat i<fo (n:Int):=hlt
    rw[hnu,UInt32.lt_iff_toNat_lt,hit,hnt] at hlt
    have hin:i=n:=by omega
    subst hin
    exact⟨⟨P,.inr (.inl ⟨by simpa using hbr,hfr,rfl,rfl⟩),h2⟩,Chg.heap hh2⟩
end Go.Proofs.YtpbfapbajmdlkaaGreat

end
section
namespace Go.Proofs.YtpbfapbajmdlkaaGreat
open Go Go.Sac
set_option maxRecDepth 100000
set_option maxHeartbeats 4000000
theorem Room_ok(w:World)(R:PR)(b r:Nat)(kv:Value)(ds:DSt)(k:List UInt8)(hk:k.length=32)(P:Pg)(h:PagerAt w R b k P)(hd:DiskAt w b kv r ds)(hl:ds.kept.length≤4000)(n:Nat)(hn:gx ds.kept.length=n) :
  Ret Tryz.prog 26 #[.pointer (some ⟨R.pb,0,none⟩)] w fun v w'=>v = .int .i64 (dN P n)∧Hp w' w:=by
 have hn4:n≤400:=by unfold gx at hn; omega
 refine enter [2] Tryz.func26 rfl rfl (Nat.le_of_ble_eq_true rfl) ?_
 refine zSR (za rfl (zNR (za rfl (a8 (a7 (ae (zSR (zm rfl (ah rfl C64 (ze w R b r kv ds k hk P h hd hl) ?_)))))))))
 rintro v1 w1 ⟨hv1,hh1⟩
 rw[hn] at hv1
 subst hv1
 refine a6 rfl (dx rfl uU3 bK) (a6 rfl (x_mas (v := .int .u32 ((0:UInt32).toNat:Nat)) rfl) ?_)
 refine a8 (a7 (au ?_))
 have hnu:fo (n:Int)=UInt32.ofNat n:=ix n
 have hnt:(UInt32.ofNat n).toNat=n:=by rw[UInt32.toNat_ofNat']; omega
 refine bO [3,8] [3,4,8,9,10,11,12,13,14,15,16] (fun m vs w'=>∃i:Nat,vs=[.int .i64 (dN P i),.int .u32 (UInt32.ofNat i).toNat]∧i+m=n∧Hp w' w) (n) (by kernel_rfl) ?_ ?_
 ·exact⟨0,rfl,by omega,hh1⟩
 ·rintro m vs J w2 ⟨i,rfl,hi,hh2⟩
  refine zSR (a6 rfl (pQ rfl rfl) ?_)
  refine a8 (a7 (ae ?_))
  have h2:=h.chg0 (Chg.heap hh2)
  have hit:(UInt32.ofNat i).toNat=i:=by rw[UInt32.toNat_ofNat']; omega
  refine aC rfl (fun hlt=>?_) (fun hlt=>?_)
  ·refine aA (a7 (ae (au (zSR (zm rfl (za rfl (zNR (zm rfl (zm rfl ?_)))))))))
   have hlt:UInt32.ofNat i<fo (n:Int):=hlt
   rw[hnu,UInt32.lt_iff_toNat_lt,hit,hnt] at hlt
   have hob1:∃q,m=q+1:=⟨m-1,by omega⟩
   obtain⟨m,rfl⟩:=hob1
   have hnx:UInt32.ofNat i+1=UInt32.ofNat (i+1):=by
    apply UInt32.toNat_inj.1
    rw[UInt32.toNat_add,hit,UInt32.toNat_ofNat']
    show(i+1) % 4294967296=_
    rfl
   have hrs:=x5 P i
   have hrl:=Bp P i
   refine ah rfl C65 (yM w2 R b k hk P h2 (UInt32.ofNat i)) ?_
   rintro _ w3 ⟨rfl,hh3⟩
   refine a8 (a7 (cI rfl (fun hf=>?_) (fun hf=>?_)))
   ·refine al (zm rfl (a6 rfl (aD rfl rfl (by omega)) (za rfl ?_)))
    refine a8 (aB (a7 (al (a6 rfl (cQ (b:=1) rfl rfl) (zm rfl ?_)))))
    refine a8 (a7 ?_)
    rw[if_pos hf] at hrs
    refine Exists.intro (m) (And.intro (by omega) ?_)
    exact⟨i+1,aw (bB (by omega)) (aw (lI hnx) bF),by omega,hh3.trans hh2⟩
   ·refine aA (aB (a7 (al (a6 rfl (cQ (b:=1) rfl rfl) (zm rfl ?_)))))
    refine a8 (a7 ?_)
    rw[if_neg (by rw[hf]; decide)] at hrs
    refine Exists.intro (m) (And.intro (by omega) ?_)
    exact⟨i+1,aw (bB (by omega)) (aw (lI hnx) bF),by omega,hh3.trans hh2⟩
  ·refine aP (aq (aq (aE (a7 (zSR (zm rfl (za rfl (a8 (a7 (zrf ?_))))))))))
   have hlt:¬UInt32.ofNat i<fo (n:Int):=hlt
   rw[hnu,UInt32.lt_iff_toNat_lt,hit,hnt] at hlt
   have hin:i=n:=by omega
   subst hin
   exact⟨rfl,hh2⟩
def FreeR(P:Pg)(i:UInt32)(v:Value)(P':Pg):Prop :=
 (P.broken=true∧v = .int .i64 61∧P'=P)∨(P.broken=false∧P.now.used i=false∧v = .int .i64 71∧P'=P) ∨
 (P.broken=false∧P.now.used i=true∧v = .int .i64 0∧P'={ P with now:={ P.now with used:=ft P.now.used i,written:=ft P.now.written i } })
theorem Free_ok(w:World)(R:PR)(b:Nat)(k:List UInt8)(hk:k.length=32)(P:Pg)(h:PagerAt w R b k P)(i:UInt32) :
  Ret Tryz.prog 128 #[.pointer (some ⟨R.pb,0,none⟩),.int .u32 i.toNat] w fun v w'=>(∃P',FreeR P i v P'∧PagerAt w' R b k P')∧Chg [R.u,R.r] w w':=by
 have hob2:=h.2.1
 obtain⟨m,hm,hml⟩:=hob2
 refine enter [4] Tryz.func128 rfl rfl (Nat.le_of_ble_eq_true rfl) ?_
 refine zSR (za rfl (a8 (a7 (ae (au (zSR (zm rfl (zn rfl rfl (a6 rfl (aa ec rfl I4 rfl rfl) ?_)))))))))
 refine a6 rfl (az uU4 rfl rfl (h.c hk 9 rfl)) ?_
 refine za rfl (a8 (a7 (cI rfl (fun hbr=>?_) (fun hbr=>?_))))
 ·refine zSR (za rfl (a8 (a7 (zrb ?_))))
  exact⟨⟨P,.inl ⟨hbr,rfl,rfl⟩,h⟩,Chg.refl' _ _⟩
 ·refine zSR (zm rfl (zn rfl rfl (a6 rfl (aa ec rfl iZ rfl rfl) (a6 rfl (aa fm rfl jW rfl rfl) ?_))))
  have hbr:P.broken=false:=by simpa using hbr
  refine a6 rfl (az eK rfl rfl (h.a 2 (by decide) rfl)) ?_
  refine zm rfl (a6 rfl (bR (fv (k:=i) eK (cK bK) I4 rfl rfl rfl hm) (SetAt.look hml)) ?_)
  refine a6 rfl (cA rfl) (za rfl (a8 (a7 (cI rfl (fun hu=>?_) (fun hu=>?_)))))
  ·refine zSR (za rfl (a8 (a7 (zrb ?_))))
   exact⟨⟨P,.inr (.inl ⟨hbr,by simpa using hu,rfl,rfl⟩),h⟩,Chg.refl' _ _⟩
  ·refine aA (aB (a7 (zSR (zm rfl (zn rfl rfl (a6 rfl (aa ec rfl iZ rfl rfl) (a6 rfl (aa fm rfl jW rfl rfl) ?_)))))))
   have hu:P.now.used i=true:=by simpa using hu
   refine a6 rfl (az eK rfl rfl (h.a 2 (by decide) rfl)) ?_
   refine zm rfl (dI rfl (uC (k:=i) eK (cK bK) rfl rfl hm) ?_)
   rintro w1 ⟨hm1,hc1,hs1⟩
   refine zNR (zm rfl (zn rfl rfl (a6 rfl (aa ec rfl iZ rfl rfl) (a6 rfl (aa fm rfl jW rfl rfl) ?_))))
   have h1:=h.updU ⟨_,hm1,yX hml hm.nodup i⟩ hc1
   have hob3:=h1.2.2.1
   obtain⟨m2,hm2,hml2⟩:=hob3
   refine a6 rfl (az eK rfl rfl (h1.a 3 (by decide) rfl)) ?_
   refine zm rfl (dI rfl (uC (k:=i) eK (cK bK) rfl rfl hm2) ?_)
   rintro w2 ⟨hm3,hc2,hs2⟩
   refine zNR (za rfl (a8 (a7 (zrf ?_))))
   exact⟨⟨_,.inr (.inr ⟨hbr,hu,rfl,rfl⟩),h1.updW ⟨_,hm3,yX hml2 hm2.nodup i⟩ hc2⟩,(hc1.mono (by simp)).tr (hc2.mono (by simp))⟩
end Go.Proofs.YtpbfapbajmdlkaaGreat

end
section
namespace Go.Proofs.YtpbfapbajmdlkaaGreat
open Go Go.Sac
set_option maxRecDepth 100000
set_option maxHeartbeats 4000000
def CC(k:List UInt8)(P:Pg)(ds:DSt)(i:UInt32)(l:List UInt8)(v:Value)(P':Pg)(ds':DSt):Prop :=
 (P.broken=true∧v = .int .i64 61∧P'=P∧ds'=ds) ∨
 (P.broken=false∧P.fresh i=false∧v = .int .i64 71∧P'=P∧ds'=ds) ∨
 (P.broken=false∧P.fresh i=true∧480<l.length∧v = .int .i64 11∧P'=P∧ds'=ds) ∨
 (P.broken=false∧P.fresh i=true∧l.length≤480∧v = .int .i64 (ds.writes (32+(i.toNat:Int)*8) (fp (aW k aY 0) i.toNat P.gen.toNat l)).2∧ds'=(ds.writes (32+(i.toNat:Int)*8) (fp (aW k aY 0) i.toNat P.gen.toNat l)).1 ∧
  P'=if (ds.writes (32+(i.toNat:Int)*8) (fp (aW k aY 0) i.toNat P.gen.toNat l)).2=0 then { P with count:=P.count+1,now:={ P.now with written:=cO P.now.written i },gens:=qq P.gens i P.gen } else { P with count:=P.count+1,broken:=decide ((ds.writes (32+(i.toNat:Int)*8) (fp (aW k aY 0) i.toNat P.gen.toNat l)).2=61) })
theorem Al(w:World)(R:PR)(b r:Nat)(kv lv:Value)(ds:DSt)(k:List UInt8)(hk:k.length=32)(P:Pg)(h:PagerAt w R b k P)(hd:DiskAt w b kv r ds)(hf:ds.Fine)(hst:ds.steps+20≤1000000000000)(hap:∀x∈PF R,x∉DF b kv r)(i:UInt32)(hi:i.toNat≤400)(l:List UInt8)(hb:SlE w lv l)(hbb:l≠[]→∀x∈ar lv,x∉PF R∧x∉DF b kv r) :
  Ret Tryz.prog 150 #[.pointer (some ⟨R.pb,0,none⟩),.int .u32 i.toNat,lv] w fun v w'=>(∃P' ds',CC k P ds i l v P' ds'∧PagerAt w' R b k P'∧DiskAt w' b kv r ds')∧Chg (PF R++DF b kv r) w w':=by
 have hpk:=du k aY 0
 obtain⟨pb,cb,rfl⟩:=hb.form
 have hlt:=h.lt
 have hdlt:=hd.lt
 refine enter [6] Tryz.func150 rfl rfl (Nat.le_of_ble_eq_true rfl) ?_
 refine zSR (za rfl (a8 (a7 (ae (au (zSR (zm rfl (zn rfl rfl (a6 rfl (aa ec rfl I4 rfl rfl) ?_)))))))))
 refine a6 rfl (az uU4 rfl rfl (h.c hk 9 rfl)) ?_
 refine za rfl (a8 (a7 (cI rfl (fun hbr=>?_) (fun hbr=>?_))))
 ·refine zSR (za rfl (a8 (a7 (zrb ?_))))
  exact⟨⟨P,ds,.inl ⟨hbr,rfl,rfl,rfl⟩,h,hd⟩,Chg.refl' _ _⟩
 ·refine zSR (zm rfl (zm rfl ?_))
  have hbr:P.broken=false:=by simpa using hbr
  refine ah rfl C127 (CN w R b k hk P h i) ?_
  rintro _ w1 ⟨rfl,hh1⟩
  refine a6 rfl (cA rfl) (za rfl (a8 (a7 ?_)))
  have hc1:Chg [] w w1:=Chg.heap hh1
  refine cI rfl (fun hfr=>?_) (fun hfr=>?_)
  ·refine zSR (za rfl (a8 (a7 (zrb ?_))))
   exact⟨⟨P,ds,.inr (.inl ⟨hbr,by simpa using hfr,rfl,rfl,rfl⟩),h.chg0 hc1,hd.chg0 hc1⟩,Chg.heap hh1⟩
  ·refine zSR (zm rfl (a6 rfl (ax rfl aR) (a6 rfl (di rfl rfl) (za rfl ?_))))
   refine a8 (a7 ?_)
   have hfr:P.fresh i=true:=by simpa using hfr
   refine aC rfl (fun hlong=>?_) (fun hlong=>?_)
   ·refine zSR (za rfl (a8 (a7 (zrb ?_))))
    exact⟨⟨P,ds,.inr (.inr (.inl ⟨hbr,hfr,by omega,rfl,rfl,rfl⟩)),h.chg0 hc1,hd.chg0 hc1⟩,Chg.heap hh1⟩
   ·refine aA (aB (a7 (ae ?_)))
    have hl:l.length≤480:=by omega
    have h1:=h.chg0 hc1
    refine aO bG (.pure 0 (.pure 1 (.pure 2 (.pure 3 (.read 4 (.pure 5 (.pure 6 (.pure 7 (.pure 8 (.pure 9 (.read 10 (.pure 11 (.pure 12 (.pure 13 .nil)))))))))))))) (by kernel_rfl) ?_
    refine ym rfl rfl rfl ?_
    refine yn rfl rfl rfl rfl ?_
    refine aj rfl rfl rfl (fun _=>(aa ec rfl ea rfl rfl)) ?_
    refine aj rfl rfl rfl (fun _=>(aa dw rfl I25 rfl rfl)) ?_
    refine aX rfl rfl rfl bK rfl rfl (h1.c hk 5 rfl) ?_
    refine aj rfl rfl rfl (fun _=>(cP rfl bK dV)) ?_
    refine aj rfl rfl rfl (fun _=>(ux rfl rfl (s:=32) rfl)) ?_
    refine ym rfl rfl rfl ?_
    refine yn rfl rfl rfl rfl ?_
    refine aj rfl rfl rfl (fun _=>(aa ec rfl I25 rfl rfl)) ?_
    refine aX rfl rfl rfl bK rfl rfl (h1.c hk 7 rfl) ?_
    refine aj rfl rfl rfl (fun _=>(cP rfl bK dV)) ?_
    refine aj rfl rfl rfl (fun _=>(y9 rfl rfl)) ?_
    refine ya rfl rfl rfl ?_
    refine zPR (zm rfl (zn rfl rfl (a6 rfl (aa ec rfl I25 rfl rfl) ?_)))
    have hgen:cW (P.kept.epoch.toNat:Int)=cW (P.kept.epoch.toNat:Int):=rfl
    refine a6 rfl (az bK rfl rfl (h1.c hk 7 rfl)) ?_
    refine a6 rfl (cQ (b:=1) rfl rfl) (zn rfl rfl (a6 rfl (aa ec rfl I25 rfl rfl) ?_))
    have hlen:(pgL k (aW k aY 0) (pgA P R b) (pgC P R)).length=79:=eZ hk hpk rfl rfl
    refine aH rfl (bD I25 rfl rfl (h1.1) rfl rfl ((by rw[hlen]; exact Nat.le_of_ble_eq_true rfl:76<_)) rfl (kF hk hpk rfl 7 [.int .u32 (P.count+1).toNat] (C':=pgC { P with count:=P.count+1 } R) rfl)) ?_
    rintro w2 ⟨hB2,hc2,hs2⟩
    refine a8 (a7 (ae (al ?_)))
    have hob1:∃P2,P2=({ P with count:=P.count+1 }:Pg):=⟨_,rfl⟩
    obtain⟨P2,hP2⟩:=hob1
    have h2:PagerAt w2 R b k P2:=by rw[hP2]; exact h1.updC hB2 hc2 rfl rfl rfl rfl rfl
    have hd2:DiskAt w2 b kv r ds:=(hd.chg0 hc1).chg hc2 (fun x hx hh=>by simp at hh; subst hh; exact hap R.pb (by simp[PF]) hx)
    have hb2:SlE w2 (.slice pb l.length cb) l:=(hb.mod0 hc1).mod hc2 (fun hne x hx hh=>by simp at hh; subst hh; exact(hbb hne R.pb hx).1 (by simp[PF]))
    have hc02:Chg (PF R++DF b kv r) w w2:=hc1.tr0' (hc2.mono (by simp[PF]))
    refine aS rfl (pO (482) (482) ((0:UInt8)) aR I5 rfl rfl rfl (by decide) rfl rfl (by decide) (by first | rfl | omega) (by first | rfl | omega) (by omega) (by omega)) ?_
    rintro _ w3 ⟨⟨p3,c3,rfl⟩,ho3,hc3,hi3⟩
    refine za rfl (zNR (zm rfl (zm rfl (zm rfl (a6 rfl (ax rfl aR) (a6 rfl (cP rfl uU3 dV) ?_))))))
    have hlu:(cW (l.length:Int)).toNat=l.length:=by rw[dX,UInt64.toNat_ofNat']; omega
    refine ah rfl lp (fP (.slice none 0 0) [] (cW (l.length:Int)) 2 w3 (Own.nil _) (by decide) (by decide)) ?_
    rintro v4 w4 ⟨ho4,hc4,hi4⟩
    rw[List.nil_append,hlu] at ho4
    have hc4:Chg [] w3 w4:=hc4
    have hbe2:(be 2 l.length).length=2:=aI _ _
    refine dI rfl (jD aR I5 rfl (ho3.mod0 hc4) ho4.sl.src (by decide) rfl rfl) ?_
    rintro w5 ⟨ho5,hc5,hs5⟩
    have hmin:min (be 2 l.length).length (List.replicate 482 (0:UInt8)).length=2:=by rw[hbe2,List.length_replicate]; rfl
    rw[hmin,List.take_of_length_le (by omega),uO,hbe2,List.drop_replicate] at ho5
    have hr482:(be 2 l.length++List.replicate (482-2) (0:UInt8)).length=482:=by rw[List.length_append,hbe2,List.length_replicate]
    refine bg rfl (fk 2 aR I5 rfl ho5 rfl rfl (congrArg (fun n:Nat=>(n:Int)) hmin) (by rw[hr482]; decide)) ?_
    rintro v6 hsub6
    refine zm rfl ?_
    have k2:=hc02.1
    have k3:=hc3.1
    have k4:=hc4.1
    have hb5:=((hb2.mod0 hc3).mod0 hc4).mod hc5 (fun hne x hx hh=>by have:=hi3.ge x hh; have:=hb2.lt hne x hx; omega)
    refine dI rfl (cT aR I5 rfl ho5 hsub6 (by rw[hr482]; decide) hb5.src rfl rfl) ?_
    rintro w7 ⟨ho7,hc7,hs7⟩
    refine a8 (a7 (ae (al ?_)))
    have hml:min l.length ((be 2 l.length++List.replicate (482-2) (0:UInt8)).length-2)=l.length:=by rw[hr482]; omega
    rw[hml,List.take_of_length_le (Nat.le_refl _),zL l hl] at ho7
    have hc27:Chg [] w2 w7:=((hc3.tr hc4).t0 hc5 (fun x hx=>hi3.ge x hx)).t0 hc7 (fun x hx=>hi3.ge x hx)
    refine aS rfl (pO (512) (512) ((0:UInt8)) aR I5 rfl rfl rfl (by decide) rfl rfl (by decide) (by first | rfl | omega) (by first | rfl | omega) (by omega) (by omega)) ?_
    rintro _ w8 ⟨⟨p8,c8,rfl⟩,ho8,hc8,hi8⟩
    refine za rfl (a8 (a7 ?_))
    have hl7:=jg l hl
    have hnl:=jh i.toNat P.gen.toNat
    have hsl:(eL (aW k aY 0) (bY i.toNat P.gen.toNat) aY (cN l)).length=498:=by rw[fG,hl7]
    have h8:=h2.chg0 (hc27.tr hc8)
    have hlt2:=h2.lt
    have ho7':=ho7.mod0 hc8
    have hi3':∀x∈ar (.slice p3 482 c3),w2.heap.size≤x:=fun x hx=>hi3.ge x hx
    have hi8':∀x∈ar (.slice p8 512 c8),w7.heap.size≤x:=fun x hx=>hi8.ge x hx
    refine km [0,1,7,9] (fun vs w'=>vs=[.pointer (some ⟨R.pb,0,none⟩),.int .u32 i.toNat,.int .u64 P.gen.toNat,.slice p8 512 c8]∧Own w' (.slice p8 512 c8) (fp (aW k aY 0) i.toNat P.gen.toNat l)∧Chg (ar (.slice p8 512 c8)) w8 w') ?_ ?_
    ·refine aO bG (.pure 0 (.pure 1 (.pure 2 (.pure 6 (.pure 7 (.pure 8 (.read 9 (.pure 10 (.pure 11 (.pure 15 (.alt (.eff 3 [9] (.alt (.eff 4 [9] (.pure 5 (.alt (.eff 12 [9] (.eff 13 [9] (.eff 14 [9] (.eff 16 [] (.eff 17 [] .nil))))) (.eff 13 [9] (.alt (.eff 12 [9] (.eff 14 [9] (.eff 16 [] (.eff 17 [] .nil)))) (.eff 14 [9] (.eff 12 [9] (.eff 16 [] (.eff 17 [] .nil))))))))) (.eff 13 [9] (.alt (.eff 4 [9] (.pure 5 (.alt (.eff 12 [9] (.eff 14 [9] (.eff 16 [] (.eff 17 [] .nil)))) (.eff 14 [9] (.eff 12 [9] (.eff 16 [] (.eff 17 [] .nil))))))) (.eff 14 [9] (.eff 4 [9] (.pure 5 (.eff 12 [9] (.eff 16 [] (.eff 17 [] .nil)))))))))) (.eff 13 [9] (.alt (.eff 3 [9] (.alt (.eff 4 [9] (.pure 5 (.alt (.eff 12 [9] (.eff 14 [9] (.eff 16 [] (.eff 17 [] .nil)))) (.eff 14 [9] (.eff 12 [9] (.eff 16 [] (.eff 17 [] .nil))))))) (.eff 14 [9] (.eff 4 [9] (.pure 5 (.eff 12 [9] (.eff 16 [] (.eff 17 [] .nil)))))))) (.eff 14 [9] (.eff 3 [9] (.eff 4 [9] (.pure 5 (.eff 12 [9] (.eff 16 [] (.eff 17 [] .nil)))))))))))))))))))) (by kernel_rfl) ?_
     refine ym rfl rfl rfl ?_
     refine ym rfl rfl rfl ?_
     refine ym rfl rfl rfl ?_
     refine ym rfl rfl rfl ?_
     refine yn rfl rfl rfl rfl ?_
     refine aj rfl rfl rfl (fun _=>(aa ec rfl I63 rfl rfl)) ?_
     refine mD 32 rfl rfl rfl gq rfl I63 rfl (h8.atP hk) (hpk) rfl ?_
     refine ym rfl rfl rfl ?_
     refine ym rfl rfl rfl ?_
     refine ym rfl rfl rfl ?_
     have hplt:∀x∈ar (.slice p8 512 c8),x<w8.heap.size:=ho8.sl.lt
     have k27:=hc27.1
     have k8:=hc8.1
     have hPob:∀{w':World},Chg (ar (.slice p8 512 c8)) w8 w'→At w' R.pb 37 (aV (aW k aY 0)):=fun hc=>(h8.chg hc (fun x hx hh=>by have:=hlt2 x hx; have:=hi8' x hh; omega)).atP hk
     have hplain:∀{w':World},Chg (ar (.slice p8 512 c8)) w8 w'→Sl w' (.slice p3 482 c3) (cN l):=fun hc=>ho7'.sl.mod hc (fun x hx hh=>by have:=ho7.sl.lt x hx; have:=hi8' x hh; omega)
     have hcum:Chg (ar (.slice p8 512 c8)) w8 { w8 with drawn:=w8.drawn+1 }:=Chg.heap rfl
     have hop:=ho8.mod0 (drw w8)
     have hb8l:(be 8 P.gen.toNat).length=8:=aI _ _
     refine dH ?_ ?_
     ·refine aG rfl rfl rfl lp (fP (.slice none 0 0) [] P.gen 8 _ (Own.nil _) (by decide) (by decide)) ?_
      rintro v60 wq3 ⟨ho60,hc3,hi60⟩
      have hc3:Chg [] _ wq3:=hc3
      have hi60:In v60 [] _:=hi60
      have hi60':∀x∈ar v60,w8.heap.size≤x:=fun x hx=>Nat.le_trans hcum.1 (hi60.ge x hx)
      rw[List.nil_append] at ho60
      have hcum:=hcum.tr0 hc3
      have hop:=hop.mod0 hc3
      refine⟨⟨hPob hcum,trivial⟩,?_⟩
      refine dH ?_ ?_
      ·refine bC rfl rfl rfl (jD aR I5 rfl hop ho60.sl.src (by decide) rfl rfl) ?_
       rintro wq4 ⟨ho4,hc4q,hs4⟩
       have hmin8:min (be 8 P.gen.toNat).length (List.replicate 512 (0:UInt8)).length=8:=by rw[hb8l,List.length_replicate]; rfl
       rw[hmin8,List.take_of_length_le (by omega),uO,hb8l,List.drop_replicate] at ho4
       have hop:=ho4
       have hr512:(be 8 P.gen.toNat++List.replicate (512-8) (0:UInt8)).length=512:=by rw[List.length_append,hb8l,List.length_replicate]
       have hc4:=hc4q
       have hcum:=hcum.tr hc4
       have ho60:=ho60.mod hc4 (fun x hx hh=>by have:=hi60' x hx; have:=hplt x hh; omega)
       refine⟨⟨hPob hcum,trivial⟩,?_⟩
       refine bA rfl rfl rfl (fk 8 aR I5 rfl hop rfl rfl (congrArg (fun n:Nat=>(n:Int)) hmin8) (by rw[hr512]; decide)) ?_
       rintro v62 hsub62
       refine dH ?_ ?_
       ·refine aG rfl rfl rfl ou (dB i P.gen _) ?_
        rintro _ wq12 ⟨rfl,hc12⟩
        have hc12:Chg [] _ wq12:=hc12
        have hcum:=hcum.tr0 hc12
        have hop:=hop.mod0 hc12
        have ho60:=ho60.mod0 hc12
        refine⟨⟨hPob hcum,trivial⟩,?_⟩
        refine bu rfl rfl rfl (mz [.int .u8 112,.int .u8 97,.int .u8 103,.int .u8 101] aY aR I5 rfl rfl rfl rfl rfl rfl (by decide) (by decide)) ?_
        rintro _ wq13 ⟨⟨b70,o70,c70,rfl⟩,ho70,hc13,hi70x⟩
        have hi70:∀x∈ar (.slice (some ⟨b70,o70,none⟩) 4 c70),w8.heap.size≤x:=fun x hx=>Nat.le_trans hcum.1 (hi70x.ge x hx)
        have hs70:=ho70.sl
        have hcum:=hcum.tr0 hc13
        have hop:=hop.mod0 hc13
        have hne60:=fun x (hx:x∈ar v60) (hh:x∈ar (.slice (some ⟨b70,o70,none⟩) 4 c70))=>Nat.not_lt.2 (hi70x.ge x hh) (ho60.sl.lt x hx)
        have ho60:=ho60.mod0 hc13
        refine⟨⟨hPob hcum,trivial⟩,?_⟩
        refine bC rfl rfl rfl (fD aR uU5 rfl hs70) ?_
        rintro wq14 ⟨hs71,hc14q,hs14⟩
        have hc14:Chg (ar (.slice (some ⟨b70,o70,none⟩) 4 c70)) _ wq14:=hc14q
        have hcum:=hcum.trans hc14 (fun _ h _=>h) (fun x hx hlt=>by have:=hi70 x hx; omega)
        have hop:=hop.mod hc14 (fun x hx hh=>by have:=hi70 x hh; have:=hplt x hx; omega)
        have hs70:=hs71
        have ho60:=ho60.mod hc14 (fun x hx hh=>hne60 x hx hh)
        refine⟨⟨hPob hcum,trivial⟩,?_⟩
        refine aG rfl rfl rfl sf (gQ (aW k aY 0) (bY i.toNat P.gen.toNat) (.slice (some ⟨b70,o70,none⟩) 4 c70) (.slice p3 482 c3) aY (cN l) _ hpk hnl hs70 (hplain hcum) (by decide) (by omega)) ?_
        rintro v73 wq16 ⟨ho73,hc16,hi73⟩
        refine⟨trivial,?_⟩
        have hc16:Chg [] _ wq16:=hc16
        have hcum:=hcum.tr0 hc16
        have hop:=hop.mod0 hc16
        refine bC rfl rfl rfl (cT aR I5 rfl hop hsub62 (by rw[hr512]; decide) ho73.sl.src rfl rfl) ?_
        rintro wq17 ⟨ho17,hc17,hs17⟩
        refine⟨trivial,?_⟩
        refine aQ (a7 ?_)
        have hm17:min (eL (aW k aY 0) (bY i.toNat P.gen.toNat) aY (cN l)).length ((be 8 P.gen.toNat++List.replicate (512-8) (0:UInt8)).length-8)=498:=by rw[hsl,hr512]; rfl
        rw[hm17,List.take_of_length_le (by omega),fV _ _ hsl] at ho17
        exact⟨rfl,ho17,hcum.tr hc17⟩
       ·refine bu rfl rfl rfl (mz [.int .u8 112,.int .u8 97,.int .u8 103,.int .u8 101] aY aR I5 rfl rfl rfl rfl rfl rfl (by decide) (by decide)) ?_
        rintro _ wq13 ⟨⟨b70,o70,c70,rfl⟩,ho70,hc13,hi70x⟩
        have hi70:∀x∈ar (.slice (some ⟨b70,o70,none⟩) 4 c70),w8.heap.size≤x:=fun x hx=>Nat.le_trans hcum.1 (hi70x.ge x hx)
        have hs70:=ho70.sl
        have hcum:=hcum.tr0 hc13
        have hop:=hop.mod0 hc13
        have hne60:=fun x (hx:x∈ar v60) (hh:x∈ar (.slice (some ⟨b70,o70,none⟩) 4 c70))=>Nat.not_lt.2 (hi70x.ge x hh) (ho60.sl.lt x hx)
        have ho60:=ho60.mod0 hc13
        refine⟨⟨hPob hcum,trivial⟩,?_⟩
        refine dH ?_ ?_
        ·refine aG rfl rfl rfl ou (dB i P.gen _) ?_
         rintro _ wq12 ⟨rfl,hc12⟩
         have hc12:Chg [] _ wq12:=hc12
         have hcum:=hcum.tr0 hc12
         have hop:=hop.mod0 hc12
         have ho60:=ho60.mod0 hc12
         have hs70:=hs70.mod0 hc12
         refine⟨⟨hPob hcum,trivial⟩,?_⟩
         refine bC rfl rfl rfl (fD aR uU5 rfl hs70) ?_
         rintro wq14 ⟨hs71,hc14q,hs14⟩
         have hc14:Chg (ar (.slice (some ⟨b70,o70,none⟩) 4 c70)) _ wq14:=hc14q
         have hcum:=hcum.trans hc14 (fun _ h _=>h) (fun x hx hlt=>by have:=hi70 x hx; omega)
         have hop:=hop.mod hc14 (fun x hx hh=>by have:=hi70 x hh; have:=hplt x hx; omega)
         have hs70:=hs71
         have ho60:=ho60.mod hc14 (fun x hx hh=>hne60 x hx hh)
         refine⟨⟨hPob hcum,trivial⟩,?_⟩
         refine aG rfl rfl rfl sf (gQ (aW k aY 0) (bY i.toNat P.gen.toNat) (.slice (some ⟨b70,o70,none⟩) 4 c70) (.slice p3 482 c3) aY (cN l) _ hpk hnl hs70 (hplain hcum) (by decide) (by omega)) ?_
         rintro v73 wq16 ⟨ho73,hc16,hi73⟩
         refine⟨trivial,?_⟩
         have hc16:Chg [] _ wq16:=hc16
         have hcum:=hcum.tr0 hc16
         have hop:=hop.mod0 hc16
         refine bC rfl rfl rfl (cT aR I5 rfl hop hsub62 (by rw[hr512]; decide) ho73.sl.src rfl rfl) ?_
         rintro wq17 ⟨ho17,hc17,hs17⟩
         refine⟨trivial,?_⟩
         refine aQ (a7 ?_)
         have hm17:min (eL (aW k aY 0) (bY i.toNat P.gen.toNat) aY (cN l)).length ((be 8 P.gen.toNat++List.replicate (512-8) (0:UInt8)).length-8)=498:=by rw[hsl,hr512]; rfl
         rw[hm17,List.take_of_length_le (by omega),fV _ _ hsl] at ho17
         exact⟨rfl,ho17,hcum.tr hc17⟩
        ·refine bC rfl rfl rfl (fD aR uU5 rfl hs70) ?_
         rintro wq14 ⟨hs71,hc14q,hs14⟩
         have hc14:Chg (ar (.slice (some ⟨b70,o70,none⟩) 4 c70)) _ wq14:=hc14q
         have hcum:=hcum.trans hc14 (fun _ h _=>h) (fun x hx hlt=>by have:=hi70 x hx; omega)
         have hop:=hop.mod hc14 (fun x hx hh=>by have:=hi70 x hh; have:=hplt x hx; omega)
         have hs70:=hs71
         have ho60:=ho60.mod hc14 (fun x hx hh=>hne60 x hx hh)
         refine⟨⟨hPob hcum,trivial⟩,?_⟩
         refine aG rfl rfl rfl ou (dB i P.gen _) ?_
         rintro _ wq12 ⟨rfl,hc12⟩
         have hc12:Chg [] _ wq12:=hc12
         have hcum:=hcum.tr0 hc12
         have hop:=hop.mod0 hc12
         have ho60:=ho60.mod0 hc12
         have hs70:=hs70.mod0 hc12
         refine⟨⟨hPob hcum,trivial⟩,?_⟩
         refine aG rfl rfl rfl sf (gQ (aW k aY 0) (bY i.toNat P.gen.toNat) (.slice (some ⟨b70,o70,none⟩) 4 c70) (.slice p3 482 c3) aY (cN l) _ hpk hnl hs70 (hplain hcum) (by decide) (by omega)) ?_
         rintro v73 wq16 ⟨ho73,hc16,hi73⟩
         refine⟨trivial,?_⟩
         have hc16:Chg [] _ wq16:=hc16
         have hcum:=hcum.tr0 hc16
         have hop:=hop.mod0 hc16
         refine bC rfl rfl rfl (cT aR I5 rfl hop hsub62 (by rw[hr512]; decide) ho73.sl.src rfl rfl) ?_
         rintro wq17 ⟨ho17,hc17,hs17⟩
         refine⟨trivial,?_⟩
         refine aQ (a7 ?_)
         have hm17:min (eL (aW k aY 0) (bY i.toNat P.gen.toNat) aY (cN l)).length ((be 8 P.gen.toNat++List.replicate (512-8) (0:UInt8)).length-8)=498:=by rw[hsl,hr512]; rfl
         rw[hm17,List.take_of_length_le (by omega),fV _ _ hsl] at ho17
         exact⟨rfl,ho17,hcum.tr hc17⟩
      ·refine bu rfl rfl rfl (mz [.int .u8 112,.int .u8 97,.int .u8 103,.int .u8 101] aY aR I5 rfl rfl rfl rfl rfl rfl (by decide) (by decide)) ?_
       rintro _ wq13 ⟨⟨b70,o70,c70,rfl⟩,ho70,hc13,hi70x⟩
       have hi70:∀x∈ar (.slice (some ⟨b70,o70,none⟩) 4 c70),w8.heap.size≤x:=fun x hx=>Nat.le_trans hcum.1 (hi70x.ge x hx)
       have hs70:=ho70.sl
       have hcum:=hcum.tr0 hc13
       have hop:=hop.mod0 hc13
       have hne60:=fun x (hx:x∈ar v60) (hh:x∈ar (.slice (some ⟨b70,o70,none⟩) 4 c70))=>Nat.not_lt.2 (hi70x.ge x hh) (ho60.sl.lt x hx)
       have ho60:=ho60.mod0 hc13
       refine⟨⟨hPob hcum,trivial⟩,?_⟩
       refine dH ?_ ?_
       ·refine bC rfl rfl rfl (jD aR I5 rfl hop ho60.sl.src (by decide) rfl rfl) ?_
        rintro wq4 ⟨ho4,hc4q,hs4⟩
        have hmin8:min (be 8 P.gen.toNat).length (List.replicate 512 (0:UInt8)).length=8:=by rw[hb8l,List.length_replicate]; rfl
        rw[hmin8,List.take_of_length_le (by omega),uO,hb8l,List.drop_replicate] at ho4
        have hop:=ho4
        have hr512:(be 8 P.gen.toNat++List.replicate (512-8) (0:UInt8)).length=512:=by rw[List.length_append,hb8l,List.length_replicate]
        have hc4:=hc4q
        have hcum:=hcum.tr hc4
        have ho60:=ho60.mod hc4 (fun x hx hh=>by have:=hi60' x hx; have:=hplt x hh; omega)
        have hs70:=hs70.mod hc4 (fun x hx hh=>by have:=hi70 x hx; have:=hplt x hh; omega)
        refine⟨⟨hPob hcum,trivial⟩,?_⟩
        refine bA rfl rfl rfl (fk 8 aR I5 rfl hop rfl rfl (congrArg (fun n:Nat=>(n:Int)) hmin8) (by rw[hr512]; decide)) ?_
        rintro v62 hsub62
        refine dH ?_ ?_
        ·refine aG rfl rfl rfl ou (dB i P.gen _) ?_
         rintro _ wq12 ⟨rfl,hc12⟩
         have hc12:Chg [] _ wq12:=hc12
         have hcum:=hcum.tr0 hc12
         have hop:=hop.mod0 hc12
         have ho60:=ho60.mod0 hc12
         have hs70:=hs70.mod0 hc12
         refine⟨⟨hPob hcum,trivial⟩,?_⟩
         refine bC rfl rfl rfl (fD aR uU5 rfl hs70) ?_
         rintro wq14 ⟨hs71,hc14q,hs14⟩
         have hc14:Chg (ar (.slice (some ⟨b70,o70,none⟩) 4 c70)) _ wq14:=hc14q
         have hcum:=hcum.trans hc14 (fun _ h _=>h) (fun x hx hlt=>by have:=hi70 x hx; omega)
         have hop:=hop.mod hc14 (fun x hx hh=>by have:=hi70 x hh; have:=hplt x hx; omega)
         have hs70:=hs71
         have ho60:=ho60.mod hc14 (fun x hx hh=>hne60 x hx hh)
         refine⟨⟨hPob hcum,trivial⟩,?_⟩
         refine aG rfl rfl rfl sf (gQ (aW k aY 0) (bY i.toNat P.gen.toNat) (.slice (some ⟨b70,o70,none⟩) 4 c70) (.slice p3 482 c3) aY (cN l) _ hpk hnl hs70 (hplain hcum) (by decide) (by omega)) ?_
         rintro v73 wq16 ⟨ho73,hc16,hi73⟩
         refine⟨trivial,?_⟩
         have hc16:Chg [] _ wq16:=hc16
         have hcum:=hcum.tr0 hc16
         have hop:=hop.mod0 hc16
         refine bC rfl rfl rfl (cT aR I5 rfl hop hsub62 (by rw[hr512]; decide) ho73.sl.src rfl rfl) ?_
         rintro wq17 ⟨ho17,hc17,hs17⟩
         refine⟨trivial,?_⟩
         refine aQ (a7 ?_)
         have hm17:min (eL (aW k aY 0) (bY i.toNat P.gen.toNat) aY (cN l)).length ((be 8 P.gen.toNat++List.replicate (512-8) (0:UInt8)).length-8)=498:=by rw[hsl,hr512]; rfl
         rw[hm17,List.take_of_length_le (by omega),fV _ _ hsl] at ho17
         exact⟨rfl,ho17,hcum.tr hc17⟩
        ·refine bC rfl rfl rfl (fD aR uU5 rfl hs70) ?_
         rintro wq14 ⟨hs71,hc14q,hs14⟩
         have hc14:Chg (ar (.slice (some ⟨b70,o70,none⟩) 4 c70)) _ wq14:=hc14q
         have hcum:=hcum.trans hc14 (fun _ h _=>h) (fun x hx hlt=>by have:=hi70 x hx; omega)
         have hop:=hop.mod hc14 (fun x hx hh=>by have:=hi70 x hh; have:=hplt x hx; omega)
         have hs70:=hs71
         have ho60:=ho60.mod hc14 (fun x hx hh=>hne60 x hx hh)
         refine⟨⟨hPob hcum,trivial⟩,?_⟩
         refine aG rfl rfl rfl ou (dB i P.gen _) ?_
         rintro _ wq12 ⟨rfl,hc12⟩
         have hc12:Chg [] _ wq12:=hc12
         have hcum:=hcum.tr0 hc12
         have hop:=hop.mod0 hc12
         have ho60:=ho60.mod0 hc12
         have hs70:=hs70.mod0 hc12
         refine⟨⟨hPob hcum,trivial⟩,?_⟩
         refine aG rfl rfl rfl sf (gQ (aW k aY 0) (bY i.toNat P.gen.toNat) (.slice (some ⟨b70,o70,none⟩) 4 c70) (.slice p3 482 c3) aY (cN l) _ hpk hnl hs70 (hplain hcum) (by decide) (by omega)) ?_
         rintro v73 wq16 ⟨ho73,hc16,hi73⟩
         refine⟨trivial,?_⟩
         have hc16:Chg [] _ wq16:=hc16
         have hcum:=hcum.tr0 hc16
         have hop:=hop.mod0 hc16
         refine bC rfl rfl rfl (cT aR I5 rfl hop hsub62 (by rw[hr512]; decide) ho73.sl.src rfl rfl) ?_
         rintro wq17 ⟨ho17,hc17,hs17⟩
         refine⟨trivial,?_⟩
         refine aQ (a7 ?_)
         have hm17:min (eL (aW k aY 0) (bY i.toNat P.gen.toNat) aY (cN l)).length ((be 8 P.gen.toNat++List.replicate (512-8) (0:UInt8)).length-8)=498:=by rw[hsl,hr512]; rfl
         rw[hm17,List.take_of_length_le (by omega),fV _ _ hsl] at ho17
         exact⟨rfl,ho17,hcum.tr hc17⟩
       ·refine bC rfl rfl rfl (fD aR uU5 rfl hs70) ?_
        rintro wq14 ⟨hs71,hc14q,hs14⟩
        have hc14:Chg (ar (.slice (some ⟨b70,o70,none⟩) 4 c70)) _ wq14:=hc14q
        have hcum:=hcum.trans hc14 (fun _ h _=>h) (fun x hx hlt=>by have:=hi70 x hx; omega)
        have hop:=hop.mod hc14 (fun x hx hh=>by have:=hi70 x hh; have:=hplt x hx; omega)
        have hs70:=hs71
        have ho60:=ho60.mod hc14 (fun x hx hh=>hne60 x hx hh)
        refine⟨⟨hPob hcum,trivial⟩,?_⟩
        refine bC rfl rfl rfl (jD aR I5 rfl hop ho60.sl.src (by decide) rfl rfl) ?_
        rintro wq4 ⟨ho4,hc4q,hs4⟩
        have hmin8:min (be 8 P.gen.toNat).length (List.replicate 512 (0:UInt8)).length=8:=by rw[hb8l,List.length_replicate]; rfl
        rw[hmin8,List.take_of_length_le (by omega),uO,hb8l,List.drop_replicate] at ho4
        have hop:=ho4
        have hr512:(be 8 P.gen.toNat++List.replicate (512-8) (0:UInt8)).length=512:=by rw[List.length_append,hb8l,List.length_replicate]
        have hc4:=hc4q
        have hcum:=hcum.tr hc4
        have ho60:=ho60.mod hc4 (fun x hx hh=>by have:=hi60' x hx; have:=hplt x hh; omega)
        have hs70:=hs70.mod hc4 (fun x hx hh=>by have:=hi70 x hx; have:=hplt x hh; omega)
        refine⟨⟨hPob hcum,trivial⟩,?_⟩
        refine bA rfl rfl rfl (fk 8 aR I5 rfl hop rfl rfl (congrArg (fun n:Nat=>(n:Int)) hmin8) (by rw[hr512]; decide)) ?_
        rintro v62 hsub62
        refine aG rfl rfl rfl ou (dB i P.gen _) ?_
        rintro _ wq12 ⟨rfl,hc12⟩
        have hc12:Chg [] _ wq12:=hc12
        have hcum:=hcum.tr0 hc12
        have hop:=hop.mod0 hc12
        have ho60:=ho60.mod0 hc12
        have hs70:=hs70.mod0 hc12
        refine⟨⟨hPob hcum,trivial⟩,?_⟩
        refine aG rfl rfl rfl sf (gQ (aW k aY 0) (bY i.toNat P.gen.toNat) (.slice (some ⟨b70,o70,none⟩) 4 c70) (.slice p3 482 c3) aY (cN l) _ hpk hnl hs70 (hplain hcum) (by decide) (by omega)) ?_
        rintro v73 wq16 ⟨ho73,hc16,hi73⟩
        refine⟨trivial,?_⟩
        have hc16:Chg [] _ wq16:=hc16
        have hcum:=hcum.tr0 hc16
        have hop:=hop.mod0 hc16
        refine bC rfl rfl rfl (cT aR I5 rfl hop hsub62 (by rw[hr512]; decide) ho73.sl.src rfl rfl) ?_
        rintro wq17 ⟨ho17,hc17,hs17⟩
        refine⟨trivial,?_⟩
        refine aQ (a7 ?_)
        have hm17:min (eL (aW k aY 0) (bY i.toNat P.gen.toNat) aY (cN l)).length ((be 8 P.gen.toNat++List.replicate (512-8) (0:UInt8)).length-8)=498:=by rw[hsl,hr512]; rfl
        rw[hm17,List.take_of_length_le (by omega),fV _ _ hsl] at ho17
        exact⟨rfl,ho17,hcum.tr hc17⟩
     ·refine bu rfl rfl rfl (mz [.int .u8 112,.int .u8 97,.int .u8 103,.int .u8 101] aY aR I5 rfl rfl rfl rfl rfl rfl (by decide) (by decide)) ?_
      rintro _ wq13 ⟨⟨b70,o70,c70,rfl⟩,ho70,hc13,hi70x⟩
      have hi70:∀x∈ar (.slice (some ⟨b70,o70,none⟩) 4 c70),w8.heap.size≤x:=fun x hx=>Nat.le_trans hcum.1 (hi70x.ge x hx)
      have hs70:=ho70.sl
      have hcum:=hcum.tr0 hc13
      have hop:=hop.mod0 hc13
      refine⟨⟨hPob hcum,trivial⟩,?_⟩
      refine dH ?_ ?_
      ·refine aG rfl rfl rfl lp (fP (.slice none 0 0) [] P.gen 8 _ (Own.nil _) (by decide) (by decide)) ?_
       rintro v60 wq3 ⟨ho60,hc3,hi60⟩
       have hc3:Chg [] _ wq3:=hc3
       have hi60:In v60 [] _:=hi60
       have hi60':∀x∈ar v60,w8.heap.size≤x:=fun x hx=>Nat.le_trans hcum.1 (hi60.ge x hx)
       rw[List.nil_append] at ho60
       have hcum:=hcum.tr0 hc3
       have hop:=hop.mod0 hc3
       have hne60:=fun x (hx:x∈ar v60) (hh:x∈ar (.slice (some ⟨b70,o70,none⟩) 4 c70))=>Nat.not_lt.2 (hi60.ge x hx) (hs70.lt x hh)
       have hs70:=hs70.mod0 hc3
       refine⟨⟨hPob hcum,trivial⟩,?_⟩
       refine dH ?_ ?_
       ·refine bC rfl rfl rfl (jD aR I5 rfl hop ho60.sl.src (by decide) rfl rfl) ?_
        rintro wq4 ⟨ho4,hc4q,hs4⟩
        have hmin8:min (be 8 P.gen.toNat).length (List.replicate 512 (0:UInt8)).length=8:=by rw[hb8l,List.length_replicate]; rfl
        rw[hmin8,List.take_of_length_le (by omega),uO,hb8l,List.drop_replicate] at ho4
        have hop:=ho4
        have hr512:(be 8 P.gen.toNat++List.replicate (512-8) (0:UInt8)).length=512:=by rw[List.length_append,hb8l,List.length_replicate]
        have hc4:=hc4q
        have hcum:=hcum.tr hc4
        have hs70:=hs70.mod hc4 (fun x hx hh=>by have:=hi70 x hx; have:=hplt x hh; omega)
        have ho60:=ho60.mod hc4 (fun x hx hh=>by have:=hi60' x hx; have:=hplt x hh; omega)
        refine⟨⟨hPob hcum,trivial⟩,?_⟩
        refine bA rfl rfl rfl (fk 8 aR I5 rfl hop rfl rfl (congrArg (fun n:Nat=>(n:Int)) hmin8) (by rw[hr512]; decide)) ?_
        rintro v62 hsub62
        refine dH ?_ ?_
        ·refine aG rfl rfl rfl ou (dB i P.gen _) ?_
         rintro _ wq12 ⟨rfl,hc12⟩
         have hc12:Chg [] _ wq12:=hc12
         have hcum:=hcum.tr0 hc12
         have hop:=hop.mod0 hc12
         have hs70:=hs70.mod0 hc12
         have ho60:=ho60.mod0 hc12
         refine⟨⟨hPob hcum,trivial⟩,?_⟩
         refine bC rfl rfl rfl (fD aR uU5 rfl hs70) ?_
         rintro wq14 ⟨hs71,hc14q,hs14⟩
         have hc14:Chg (ar (.slice (some ⟨b70,o70,none⟩) 4 c70)) _ wq14:=hc14q
         have hcum:=hcum.trans hc14 (fun _ h _=>h) (fun x hx hlt=>by have:=hi70 x hx; omega)
         have hop:=hop.mod hc14 (fun x hx hh=>by have:=hi70 x hh; have:=hplt x hx; omega)
         have hs70:=hs71
         have ho60:=ho60.mod hc14 (fun x hx hh=>hne60 x hx hh)
         refine⟨⟨hPob hcum,trivial⟩,?_⟩
         refine aG rfl rfl rfl sf (gQ (aW k aY 0) (bY i.toNat P.gen.toNat) (.slice (some ⟨b70,o70,none⟩) 4 c70) (.slice p3 482 c3) aY (cN l) _ hpk hnl hs70 (hplain hcum) (by decide) (by omega)) ?_
         rintro v73 wq16 ⟨ho73,hc16,hi73⟩
         refine⟨trivial,?_⟩
         have hc16:Chg [] _ wq16:=hc16
         have hcum:=hcum.tr0 hc16
         have hop:=hop.mod0 hc16
         refine bC rfl rfl rfl (cT aR I5 rfl hop hsub62 (by rw[hr512]; decide) ho73.sl.src rfl rfl) ?_
         rintro wq17 ⟨ho17,hc17,hs17⟩
         refine⟨trivial,?_⟩
         refine aQ (a7 ?_)
         have hm17:min (eL (aW k aY 0) (bY i.toNat P.gen.toNat) aY (cN l)).length ((be 8 P.gen.toNat++List.replicate (512-8) (0:UInt8)).length-8)=498:=by rw[hsl,hr512]; rfl
         rw[hm17,List.take_of_length_le (by omega),fV _ _ hsl] at ho17
         exact⟨rfl,ho17,hcum.tr hc17⟩
        ·refine bC rfl rfl rfl (fD aR uU5 rfl hs70) ?_
         rintro wq14 ⟨hs71,hc14q,hs14⟩
         have hc14:Chg (ar (.slice (some ⟨b70,o70,none⟩) 4 c70)) _ wq14:=hc14q
         have hcum:=hcum.trans hc14 (fun _ h _=>h) (fun x hx hlt=>by have:=hi70 x hx; omega)
         have hop:=hop.mod hc14 (fun x hx hh=>by have:=hi70 x hh; have:=hplt x hx; omega)
         have hs70:=hs71
         have ho60:=ho60.mod hc14 (fun x hx hh=>hne60 x hx hh)
         refine⟨⟨hPob hcum,trivial⟩,?_⟩
         refine aG rfl rfl rfl ou (dB i P.gen _) ?_
         rintro _ wq12 ⟨rfl,hc12⟩
         have hc12:Chg [] _ wq12:=hc12
         have hcum:=hcum.tr0 hc12
         have hop:=hop.mod0 hc12
         have hs70:=hs70.mod0 hc12
         have ho60:=ho60.mod0 hc12
         refine⟨⟨hPob hcum,trivial⟩,?_⟩
         refine aG rfl rfl rfl sf (gQ (aW k aY 0) (bY i.toNat P.gen.toNat) (.slice (some ⟨b70,o70,none⟩) 4 c70) (.slice p3 482 c3) aY (cN l) _ hpk hnl hs70 (hplain hcum) (by decide) (by omega)) ?_
         rintro v73 wq16 ⟨ho73,hc16,hi73⟩
         refine⟨trivial,?_⟩
         have hc16:Chg [] _ wq16:=hc16
         have hcum:=hcum.tr0 hc16
         have hop:=hop.mod0 hc16
         refine bC rfl rfl rfl (cT aR I5 rfl hop hsub62 (by rw[hr512]; decide) ho73.sl.src rfl rfl) ?_
         rintro wq17 ⟨ho17,hc17,hs17⟩
         refine⟨trivial,?_⟩
         refine aQ (a7 ?_)
         have hm17:min (eL (aW k aY 0) (bY i.toNat P.gen.toNat) aY (cN l)).length ((be 8 P.gen.toNat++List.replicate (512-8) (0:UInt8)).length-8)=498:=by rw[hsl,hr512]; rfl
         rw[hm17,List.take_of_length_le (by omega),fV _ _ hsl] at ho17
         exact⟨rfl,ho17,hcum.tr hc17⟩
       ·refine bC rfl rfl rfl (fD aR uU5 rfl hs70) ?_
        rintro wq14 ⟨hs71,hc14q,hs14⟩
        have hc14:Chg (ar (.slice (some ⟨b70,o70,none⟩) 4 c70)) _ wq14:=hc14q
        have hcum:=hcum.trans hc14 (fun _ h _=>h) (fun x hx hlt=>by have:=hi70 x hx; omega)
        have hop:=hop.mod hc14 (fun x hx hh=>by have:=hi70 x hh; have:=hplt x hx; omega)
        have hs70:=hs71
        have ho60:=ho60.mod hc14 (fun x hx hh=>hne60 x hx hh)
        refine⟨⟨hPob hcum,trivial⟩,?_⟩
        refine bC rfl rfl rfl (jD aR I5 rfl hop ho60.sl.src (by decide) rfl rfl) ?_
        rintro wq4 ⟨ho4,hc4q,hs4⟩
        have hmin8:min (be 8 P.gen.toNat).length (List.replicate 512 (0:UInt8)).length=8:=by rw[hb8l,List.length_replicate]; rfl
        rw[hmin8,List.take_of_length_le (by omega),uO,hb8l,List.drop_replicate] at ho4
        have hop:=ho4
        have hr512:(be 8 P.gen.toNat++List.replicate (512-8) (0:UInt8)).length=512:=by rw[List.length_append,hb8l,List.length_replicate]
        have hc4:=hc4q
        have hcum:=hcum.tr hc4
        have hs70:=hs70.mod hc4 (fun x hx hh=>by have:=hi70 x hx; have:=hplt x hh; omega)
        have ho60:=ho60.mod hc4 (fun x hx hh=>by have:=hi60' x hx; have:=hplt x hh; omega)
        refine⟨⟨hPob hcum,trivial⟩,?_⟩
        refine bA rfl rfl rfl (fk 8 aR I5 rfl hop rfl rfl (congrArg (fun n:Nat=>(n:Int)) hmin8) (by rw[hr512]; decide)) ?_
        rintro v62 hsub62
        refine aG rfl rfl rfl ou (dB i P.gen _) ?_
        rintro _ wq12 ⟨rfl,hc12⟩
        have hc12:Chg [] _ wq12:=hc12
        have hcum:=hcum.tr0 hc12
        have hop:=hop.mod0 hc12
        have hs70:=hs70.mod0 hc12
        have ho60:=ho60.mod0 hc12
        refine⟨⟨hPob hcum,trivial⟩,?_⟩
        refine aG rfl rfl rfl sf (gQ (aW k aY 0) (bY i.toNat P.gen.toNat) (.slice (some ⟨b70,o70,none⟩) 4 c70) (.slice p3 482 c3) aY (cN l) _ hpk hnl hs70 (hplain hcum) (by decide) (by omega)) ?_
        rintro v73 wq16 ⟨ho73,hc16,hi73⟩
        refine⟨trivial,?_⟩
        have hc16:Chg [] _ wq16:=hc16
        have hcum:=hcum.tr0 hc16
        have hop:=hop.mod0 hc16
        refine bC rfl rfl rfl (cT aR I5 rfl hop hsub62 (by rw[hr512]; decide) ho73.sl.src rfl rfl) ?_
        rintro wq17 ⟨ho17,hc17,hs17⟩
        refine⟨trivial,?_⟩
        refine aQ (a7 ?_)
        have hm17:min (eL (aW k aY 0) (bY i.toNat P.gen.toNat) aY (cN l)).length ((be 8 P.gen.toNat++List.replicate (512-8) (0:UInt8)).length-8)=498:=by rw[hsl,hr512]; rfl
        rw[hm17,List.take_of_length_le (by omega),fV _ _ hsl] at ho17
        exact⟨rfl,ho17,hcum.tr hc17⟩
      ·refine bC rfl rfl rfl (fD aR uU5 rfl hs70) ?_
       rintro wq14 ⟨hs71,hc14q,hs14⟩
       have hc14:Chg (ar (.slice (some ⟨b70,o70,none⟩) 4 c70)) _ wq14:=hc14q
       have hcum:=hcum.trans hc14 (fun _ h _=>h) (fun x hx hlt=>by have:=hi70 x hx; omega)
       have hop:=hop.mod hc14 (fun x hx hh=>by have:=hi70 x hh; have:=hplt x hx; omega)
       have hs70:=hs71
       refine⟨⟨hPob hcum,trivial⟩,?_⟩
       refine aG rfl rfl rfl lp (fP (.slice none 0 0) [] P.gen 8 _ (Own.nil _) (by decide) (by decide)) ?_
       rintro v60 wq3 ⟨ho60,hc3,hi60⟩
       have hc3:Chg [] _ wq3:=hc3
       have hi60:In v60 [] _:=hi60
       have hi60':∀x∈ar v60,w8.heap.size≤x:=fun x hx=>Nat.le_trans hcum.1 (hi60.ge x hx)
       rw[List.nil_append] at ho60
       have hcum:=hcum.tr0 hc3
       have hop:=hop.mod0 hc3
       have hne60:=fun x (hx:x∈ar v60) (hh:x∈ar (.slice (some ⟨b70,o70,none⟩) 4 c70))=>Nat.not_lt.2 (hi60.ge x hx) (hs70.lt x hh)
       have hs70:=hs70.mod0 hc3
       refine⟨⟨hPob hcum,trivial⟩,?_⟩
       refine bC rfl rfl rfl (jD aR I5 rfl hop ho60.sl.src (by decide) rfl rfl) ?_
       rintro wq4 ⟨ho4,hc4q,hs4⟩
       have hmin8:min (be 8 P.gen.toNat).length (List.replicate 512 (0:UInt8)).length=8:=by rw[hb8l,List.length_replicate]; rfl
       rw[hmin8,List.take_of_length_le (by omega),uO,hb8l,List.drop_replicate] at ho4
       have hop:=ho4
       have hr512:(be 8 P.gen.toNat++List.replicate (512-8) (0:UInt8)).length=512:=by rw[List.length_append,hb8l,List.length_replicate]
       have hc4:=hc4q
       have hcum:=hcum.tr hc4
       have hs70:=hs70.mod hc4 (fun x hx hh=>by have:=hi70 x hx; have:=hplt x hh; omega)
       have ho60:=ho60.mod hc4 (fun x hx hh=>by have:=hi60' x hx; have:=hplt x hh; omega)
       refine⟨⟨hPob hcum,trivial⟩,?_⟩
       refine bA rfl rfl rfl (fk 8 aR I5 rfl hop rfl rfl (congrArg (fun n:Nat=>(n:Int)) hmin8) (by rw[hr512]; decide)) ?_
       rintro v62 hsub62
       refine aG rfl rfl rfl ou (dB i P.gen _) ?_
       rintro _ wq12 ⟨rfl,hc12⟩
       have hc12:Chg [] _ wq12:=hc12
       have hcum:=hcum.tr0 hc12
       have hop:=hop.mod0 hc12
       have hs70:=hs70.mod0 hc12
       have ho60:=ho60.mod0 hc12
       refine⟨⟨hPob hcum,trivial⟩,?_⟩
       refine aG rfl rfl rfl sf (gQ (aW k aY 0) (bY i.toNat P.gen.toNat) (.slice (some ⟨b70,o70,none⟩) 4 c70) (.slice p3 482 c3) aY (cN l) _ hpk hnl hs70 (hplain hcum) (by decide) (by omega)) ?_
       rintro v73 wq16 ⟨ho73,hc16,hi73⟩
       refine⟨trivial,?_⟩
       have hc16:Chg [] _ wq16:=hc16
       have hcum:=hcum.tr0 hc16
       have hop:=hop.mod0 hc16
       refine bC rfl rfl rfl (cT aR I5 rfl hop hsub62 (by rw[hr512]; decide) ho73.sl.src rfl rfl) ?_
       rintro wq17 ⟨ho17,hc17,hs17⟩
       refine⟨trivial,?_⟩
       refine aQ (a7 ?_)
       have hm17:min (eL (aW k aY 0) (bY i.toNat P.gen.toNat) aY (cN l)).length ((be 8 P.gen.toNat++List.replicate (512-8) (0:UInt8)).length-8)=498:=by rw[hsl,hr512]; rfl
       rw[hm17,List.take_of_length_le (by omega),fV _ _ hsl] at ho17
       exact⟨rfl,ho17,hcum.tr hc17⟩
    ·rintro vs J w9 ⟨rfl,ho9,hc9⟩
     refine ae (zSR (zm rfl (zm rfl ?_)))
     have k27:=hc27.1
     have k8:=hc8.1
     have hpl:=jJ (aW k aY 0) i.toNat P.gen.toNat l hl
     have hob2:∃page,page=fp (aW k aY 0) i.toNat P.gen.toNat l:=⟨_,rfl⟩
     obtain⟨page,hpage⟩:=hob2
     rw[←hpage] at ho9 hpl
     have h9:PagerAt w9 R b k P2:=h8.chg hc9 (fun x hx hh=>by have:=hlt2 x hx; have:=hi8' x hh; omega)
     have hd9:DiskAt w9 b kv r ds:=((hd2.chg0 hc27).chg0 hc8).chg hc9 (fun x hx hh=>by have:=hdlt x hx; have:=hi8' x hh; omega)
     have hc09:Chg (PF R++DF b kv r) w w9:=((hc02.tr0 hc27).tr0 hc8).trans hc9 (fun _ h _=>h) (fun x hx hlt=>by have:=hi8' x hx; omega)
     refine ah rfl C158 (sJ w9 R b k hk P2 h9 i) ?_
     rintro _ w10 ⟨rfl,hc10⟩
     refine zm rfl (ah rfl C144 (tt w10 b r kv _ page ds (32+(i.toNat:Int)*8) (hd9.chg0 hc10) hf (by omega) (ho9.mod0 hc10).sl (fun x hx hh=>by have:=hdlt x hh; have:=hi8' x hx; omega) (by omega) (by omega)) ?_)
     rintro _ w11 ⟨rfl,hd11,hc11⟩
     refine za rfl (zNR (zm rfl (a6 rfl (bL rfl rfl) ?_)))
     refine a8 (a7 ?_)
     have h11:PagerAt w11 R b k P2:=(h9.chg0 hc10).chg hc11 hap
     have hc011:Chg (PF R++DF b kv r) w w11:=(hc09.tr0 hc10).tr (hc11.mono (fun x hx _=>List.mem_append_right _ hx))
     have hWR:∀P',P'=(if (ds.writes (32+(i.toNat:Int)*8) page).2=0 then { P with count:=P.count+1,now:={ P.now with written:=cO P.now.written i },gens:=qq P.gens i P.gen } else { P with count:=P.count+1,broken:=decide ((ds.writes (32+(i.toNat:Int)*8) page).2=61) })→CC k P ds i l (.int .i64 (ds.writes (32+(i.toNat:Int)*8) page).2) P' (ds.writes (32+(i.toNat:Int)*8) page).1:=fun P' hP'=>by
      rw[hpage] at hP' ⊢
      exact .inr (.inr (.inr ⟨hbr,hfr,hl,rfl,rfl,hP'⟩))
     refine aC rfl (fun hne=>?_) (fun hne=>?_)
     ·refine zSR (zm rfl (zm rfl (ah rfl C122 (Af w11 R b k hk P2 h11 _) ?_)))
      rintro _ w12 ⟨rfl,h12,hc12⟩
      refine za rfl (a8 (a7 (zrt ?_)))
      have hne:¬(ds.writes (32+(i.toNat:Int)*8) page).2=0:=hne
      refine⟨⟨_,_,hWR _ ?_,h12,hd11.chg hc12 (fun x hx hh=>by simp at hh; subst hh; exact hap R.pb (by simp[PF]) hx)⟩,hc011.tr (hc12.mono (by simp[PF]))⟩
      rw[if_neg hne,hP2]
      simp only[hbr,Bool.false_or]
     ·refine aA (a7 (ae ?_))
      have he:(ds.writes (32+(i.toNat:Int)*8) page).2=0:=Decidable.not_not.1 hne
      have hob3:=h11.2.2.1
      obtain⟨m1,hm1,hml1⟩:=hob3
      refine aO bG (.pure 0 (.pure 1 (.pure 2 (.pure 3 (.read 4 (.pure 5 (.pure 6 (.pure 7 (.pure 8 (.read 9 (.pure 10 (.pure 11 (.eff 12 [] (.pure 13 (.eff 14 [] (.eff 15 [] (.pure 16 (.eff 17 [] .nil)))))))))))))))))) (by kernel_rfl) ?_
      refine ym rfl rfl rfl ?_
      refine yn rfl rfl rfl rfl ?_
      refine aj rfl rfl rfl (fun _=>(aa ec rfl iZ rfl rfl)) ?_
      refine aj rfl rfl rfl (fun _=>(aa fm rfl jW rfl rfl)) ?_
      refine aX rfl rfl rfl eK rfl rfl (h11.a 3 (by decide) rfl) ?_
      refine ym rfl rfl rfl ?_
      refine ym rfl rfl rfl ?_
      refine yn rfl rfl rfl rfl ?_
      refine aj rfl rfl rfl (fun _=>(aa ec rfl I194 rfl rfl)) ?_
      refine aX rfl rfl rfl yg rfl rfl (h11.c hk 8 rfl) ?_
      refine ym rfl rfl rfl ?_
      refine ym rfl rfl rfl ?_
      refine bu rfl rfl rfl (pP (k:=i) eK (cK bK) I4 rfl rfl rfl (hm1.mod (drw _) (by simp))) ?_
      rintro _ w12 ⟨born1,u1,rfl,he12,hc12,hs12⟩
      refine⟨trivial,?_⟩
      refine yx rfl rfl rfl rfl rfl ?_
      have hc12:Chg [R.r] w11 w12:=(drw w11).tr0' hc12
      refine cB rfl rfl rfl (mn (v := .bool true) rfl rfl rfl he12) ?_
      rintro w13 ⟨hm13,hc13,hs13⟩
      refine⟨trivial,?_⟩
      have h13:=h11.updW ⟨_,hm13,kX hml1 i⟩ (hc12.tr hc13)
      have hob4:=h13.2.2.2.2.2.1
      obtain⟨m2,hm2,hml2⟩:=hob4
      refine bu rfl rfl rfl (pP (k:=i) yg (cK bK) me rfl rfl rfl hm2) ?_
      rintro _ w14 ⟨born2,u2,rfl,he14,hc14,hs14⟩
      refine⟨trivial,?_⟩
      refine yx rfl rfl rfl rfl rfl ?_
      refine cB rfl rfl rfl (mn (v := .int .u64 P.gen.toNat) rfl rfl rfl he14) ?_
      rintro w15 ⟨hm15,hc15,hs15⟩
      refine⟨trivial,?_⟩
      refine zPR (za rfl (a8 (a7 (zrf ?_))))
      have h15:=h13.updG ⟨_,hm15,gen_law hml2 i P.gen⟩ (hc14.tr hc15)
      have hce:Chg (PF R) w11 w15:=((hc12.tr hc13).mono (by simp[PF])).tr ((hc14.tr hc15).mono (by simp[PF]))
      refine⟨⟨_,_,?_,h15,hd11.chg hce (fun x hx hh=>hap x hh hx)⟩,hc011.tr (hce.mono (fun x hx _=>List.mem_append_left _ hx))⟩
      have:=hWR _ rfl
      rw[he,if_pos rfl] at this
      rw[hP2]
      exact this
end Go.Proofs.YtpbfapbajmdlkaaGreat

end
section
namespace Go.Proofs.YtpbfapbajmdlkaaGreat
open Go Go.Sac
set_option maxRecDepth 100000
set_option maxHeartbeats 4000000
theorem lM{k nonce aad b:List UInt8}{v:Value}{w:World}(h:oG k nonce aad b v w):∃v1 e,v = .tuple #[v1,.int .i64 e]:=by
 unfold oG at h
 split at h
 ·exact⟨_,_,h⟩
 ·split at h
  ·obtain⟨r,h,_⟩:=h; exact⟨_,_,h⟩
  ·exact⟨_,_,h⟩
def ReadR(k:List UInt8)(P:Pg)(ds:DSt)(i:UInt32)(v:Value)(w:World):Prop :=
 (P.broken=true∧v = .tuple #[.slice none 0 0,.int .i64 61]) ∨
 (P.broken=false∧(P.now.used i=false∨P.now.written i=false)∧v = .tuple #[.slice none 0 0,.int .i64 71]) ∨
 (P.broken=false∧P.now.used i=true∧P.now.written i=true∧(UInt64.ofNat (cL ((ds.reads (32+(i.toNat:Int)*8) 8).take 8))≠(P.gens i).getD 0∨qP (aW k aY 0) i.toNat (ds.reads (32+(i.toNat:Int)*8) 8)=none)∧v = .tuple #[.slice none 0 0,.int .i64 50]) ∨
 (P.broken=false∧P.now.used i=true∧P.now.written i=true∧UInt64.ofNat (cL ((ds.reads (32+(i.toNat:Int)*8) 8).take 8))=(P.gens i).getD 0∧∃l r,qP (aW k aY 0) i.toNat (ds.reads (32+(i.toNat:Int)*8) 8)=some l∧v = .tuple #[r,.int .i64 0]∧Sl w r l)
theorem CF(w:World)(R:PR)(b r:Nat)(kv:Value)(ds:DSt)(k:List UInt8)(hk:k.length=32)(P:Pg)(h:PagerAt w R b k P)(hd:DiskAt w b kv r ds)(ho:P.broken=false→ds.off=false)(hl:ds.kept.length≤4000)(i:UInt32)(hi:P.now.used i=true→40+i.toNat*8≤ds.kept.length) :
  Ret Tryz.prog 102 #[.pointer (some ⟨R.pb,0,none⟩),.int .u32 i.toNat] w fun v w'=>ReadR k P ds i v w'∧Chg [] w w':=by
 have hpk:=du k aY 0
 have hi32:=i.toNat_lt
 obtain⟨mu,hmu,hmul⟩:=h.2.1
 obtain⟨mw,hmw,hmwl⟩:=h.2.2.1
 refine enter [4,5] Tryz.func102 rfl rfl (Nat.le_of_ble_eq_true rfl) ?_
 refine zSR (za rfl (za rfl (a8 (a7 (ae (au (zSR (zm rfl (zn rfl rfl (a6 rfl (aa ec rfl I4 rfl rfl) ?_))))))))))
 refine a6 rfl (az uU4 rfl rfl (h.c hk 9 rfl)) ?_
 refine za rfl (a8 (a7 (cI rfl (fun hbr=>?_) (fun hbr=>?_))))
 ·refine zSR (za rfl (za rfl (a8 (a7 (zrb ?_)))))
  exact⟨.inl ⟨hbr,rfl⟩,Chg.refl _⟩
 ·refine zSR (zm rfl (zn rfl rfl (a6 rfl (aa ec rfl iZ rfl rfl) (a6 rfl (aa fm rfl jW rfl rfl) ?_))))
  have hbr:P.broken=false:=by simpa using hbr
  have ho:=ho hbr
  refine a6 rfl (az eK rfl rfl (h.a 2 (by decide) rfl)) ?_
  refine zm rfl (a6 rfl (bR (fv (k:=i) eK (cK bK) I4 rfl rfl rfl hmu) (SetAt.look hmul)) ?_)
  cases hu:P.now.used i with
  | false =>
   skip
   refine a6 rfl (cA rfl) (zm rfl (ay rfl rfl (ay rfl rfl (ay rfl rfl (ay rfl rfl (ay rfl rfl (ay rfl rfl (ay rfl rfl (ay rfl rfl (a6 rfl (aN rfl) (za rfl (a8 (a7 (bf (rfl) ?_))))))))))))))
   refine zSR (za rfl (za rfl (a8 (a7 (zrb ?_)))))
   exact⟨.inr (.inl ⟨hbr,.inl hu,rfl⟩),Chg.refl _⟩
  | true =>
   skip
   have hi:=hi hu
   refine a6 rfl (cA rfl) (zm rfl (ag rfl (zm rfl (ag rfl (zn rfl rfl (ag rfl (a6 rfl (aa ec rfl iZ rfl rfl) (ag rfl (a6 rfl (aa fm rfl jW rfl rfl) (ag rfl ?_))))))))))
   refine a6 rfl (az eK rfl rfl (h.a 3 (by decide) rfl)) ?_
   refine ag rfl (zm rfl (ag rfl (a6 rfl (bR (fv (k:=i) eK (cK bK) I4 rfl rfl rfl hmw) (SetAt.look hmwl)) ?_)))
   refine ag rfl (a6 rfl (cA rfl) (a6 rfl (aL rfl) (za rfl (a8 (a7 (cI rfl (fun hw=>?_) (fun hw=>?_)))))))
   ·refine zSR (za rfl (za rfl (a8 (a7 (zrb ?_)))))
    exact⟨.inr (.inl ⟨hbr,.inr (by simpa using hw),rfl⟩),Chg.refl _⟩
   ·refine aA (aB (a7 (zSR (zm rfl (zm rfl ?_)))))
    have hw:P.now.written i=true:=by simpa using hw
    refine ah rfl C158 (sJ w R b k hk P h i) ?_
    rintro _ w1 ⟨rfl,hc1⟩
    refine ah rfl C139 (wA w1 b r kv ds (32+(i.toNat:Int)*8) 8 (hd.chg0 hc1) ho (by omega) hl (by decide)) ?_
    rintro _ w2 ⟨v2,rfl,ho2,hc2,hi2⟩
    refine zm rfl (zx rfl rfl rfl (zx rfl rfl rfl (za rfl (za rfl (a8 (a7 (ae (zSR (zm rfl (a6 rfl (bL rfl rfl) ?_))))))))))
    refine a8 (a7 ?_)
    have htl:(ds.reads (32+(i.toNat:Int)*8) 8).length=512:=DSt.reads_length _ _ _
    have hob1:∃t,t=ds.reads (32+(i.toNat:Int)*8) 8:=⟨_,rfl⟩
    obtain⟨t,ht⟩:=hob1
    rw[←ht] at ho2 htl
    refine aF rfl (fun h=>h rfl) ?_
    refine zKR (zm rfl (ah rfl C83 (j1 v2 t 8 w2 ho2.sl (by decide) (by omega)) ?_))
    rintro v3 w3 ⟨hv3,hh3⟩
    unfold nq at hv3
    rw[if_neg (by omega)] at hv3
    have hob2:∃g:UInt64,g=UInt64.ofNat (cL (t.take 8)):=⟨_,rfl⟩
    obtain⟨g,hg⟩:=hob2
    rw[←hg] at hv3
    obtain⟨r3,rfl,hs3,hbl3⟩:=hv3
    refine zm rfl (zx rfl rfl rfl (zx rfl rfl rfl (zx rfl rfl rfl (za rfl (za rfl (za rfl (a8 (a7 (ae (zSR (zm rfl (zm rfl (zn rfl rfl (a6 rfl (aa ec rfl I194 rfl rfl) ?_))))))))))))))
    have h3:=(h.chg0 (hc1.tr hc2)).chg0 (Chg.heap hh3)
    have hob3:=h3.2.2.2.2.2.1
    obtain⟨mg,hmg,hmgl⟩:=hob3
    have hlook:=Ce hmgl i
    refine a6 rfl (az yg rfl rfl (h3.c hk 8 rfl)) ?_
    refine zm rfl (a6 rfl (bR (fv (k:=i) yg (cK bK) me rfl rfl rfl hmg) hlook) ?_)
    refine a6 rfl (AE rfl rfl) ?_
    refine a8 (a7 ?_)
    have hc03:Chg [] w w3:=(hc1.tr hc2).tr (Chg.heap hh3)
    refine aC rfl (fun hgne=>?_) (fun hgne=>?_)
    ·refine zSR (za rfl (za rfl (a8 (a7 (zrt ?_)))))
     exact⟨.inr (.inr (.inl ⟨hbr,hu,hw,.inl (by rw[←ht,←hg]; exact hgne),rfl⟩)),hc03⟩
    ·refine aA (a7 ?_)
     have hgeq:g=(P.gens i).getD 0:=Decidable.not_not.1 hgne
     have hnl:=jh i.toNat g.toNat
     have hdl3:(t.drop 8).length=504:=by rw[List.length_drop]; omega
     have hcl:((t.drop 8).take 498).length=498:=by rw[List.length_take]; omega
     refine km [7,11] (fun vs w'=>∃(v11:Value) (e7:Int),vs=[.int .i64 e7,v11]∧Chg [] w3 w'∧oG (aW k aY 0) (bY i.toNat g.toNat) aY ((t.drop 8).take 498) (.tuple #[v11,.int .i64 e7]) w') ?_ ?_
     ·refine aO bG (.pure 0 (.pure 1 (.pure 2 (.read 3 (.pure 4 (.pure 5 (.pure 9 (.pure 10 (.alt (.eff 6 [3] (.eff 7 [3] (.eff 8 [3] (.eff 11 [] (.pure 12 (.pure 13 (.pure 14 (.pure 15 (.pure 16 .nil))))))))) (.eff 7 [3] (.alt (.eff 6 [3] (.eff 8 [3] (.eff 11 [] (.pure 12 (.pure 13 (.pure 14 (.pure 15 (.pure 16 .nil)))))))) (.eff 8 [3] (.eff 6 [3] (.eff 11 [] (.pure 12 (.pure 13 (.pure 14 (.pure 15 (.pure 16 .nil))))))))))))))))))) (by kernel_rfl) ?_
      refine ym rfl rfl rfl ?_
      refine yn rfl rfl rfl rfl ?_
      refine aj rfl rfl rfl (fun _=>(aa ec rfl I63 rfl rfl)) ?_
      refine mD 32 rfl rfl rfl gq rfl I63 rfl (h3.atP hk) (hpk) rfl ?_
      refine ym rfl rfl rfl ?_
      refine ym rfl rfl rfl ?_
      refine ym rfl rfl rfl ?_
      refine bA rfl rfl rfl (gm 498 aR I5 hs3 rfl rfl rfl (by omega)) ?_
      rintro _ ⟨⟨p10,c10,rfl⟩,hs10,hbl10⟩
      have hPob:∀{w':World},Chg [] w3 w'→At w' R.pb 37 (aV (aW k aY 0)):=fun hc=>(h3.chg0 hc).atP hk
      have hcum:Chg [] w3 { w3 with drawn:=w3.drawn+1 }:=Chg.heap rfl
      refine dH ?_ ?_
      ·refine aG rfl rfl rfl ou (dB i g _) ?_
       rintro _ wq6 ⟨rfl,hc6⟩
       have hc6:Chg [] _ wq6:=hc6
       have hcum:=hcum.tr0 hc6
       refine⟨⟨hPob hcum,trivial⟩,?_⟩
       refine bu rfl rfl rfl (mz [.int .u8 112,.int .u8 97,.int .u8 103,.int .u8 101] aY aR I5 rfl rfl rfl rfl rfl rfl (by decide) (by decide)) ?_
       rintro _ wq7 ⟨⟨b70,o70,c70,rfl⟩,ho70,hc7,hi70x⟩
       have hi70:∀x∈ar (.slice (some ⟨b70,o70,none⟩) 4 c70),w3.heap.size≤x:=fun x hx=>Nat.le_trans hcum.1 (hi70x.ge x hx)
       have hs70:=ho70.sl
       have hcum:=hcum.tr0 hc7
       refine⟨⟨hPob hcum,trivial⟩,?_⟩
       refine bC rfl rfl rfl (fD aR uU5 rfl hs70) ?_
       rintro wq8 ⟨hs71,hc8q,hs8⟩
       have hc8:Chg (ar (.slice (some ⟨b70,o70,none⟩) 4 c70)) _ wq8:=hc8q
       have hcum:=hcum.t0 hc8 hi70
       have hs70:=hs71
       refine⟨⟨hPob hcum,trivial⟩,?_⟩
       refine aG rfl rfl rfl C159 (uo (aW k aY 0) (bY i.toNat g.toNat) (.slice (some ⟨b70,o70,none⟩) 4 c70) (.slice p10 498 c10) aY ((t.drop 8).take 498) _ hpk hnl hs70 (hs10.mod0 hcum) (by decide) (by omega)) ?_
       rintro v76 wq11 ⟨hv76,hc11⟩
       refine⟨trivial,?_⟩
       have hob4:=lM hv76
       obtain⟨v11,e7,hform⟩:=hob4
       subst hform
       refine ym rfl rfl rfl ?_
       refine yx rfl rfl rfl rfl rfl ?_
       refine yx rfl rfl rfl rfl rfl ?_
       refine ya rfl rfl rfl ?_
       refine ya rfl rfl rfl ?_
       refine aQ (a7 ?_)
       exact⟨v11,e7,rfl,hcum.tr hc11,hv76⟩
      ·refine bu rfl rfl rfl (mz [.int .u8 112,.int .u8 97,.int .u8 103,.int .u8 101] aY aR I5 rfl rfl rfl rfl rfl rfl (by decide) (by decide)) ?_
       rintro _ wq7 ⟨⟨b70,o70,c70,rfl⟩,ho70,hc7,hi70x⟩
       have hi70:∀x∈ar (.slice (some ⟨b70,o70,none⟩) 4 c70),w3.heap.size≤x:=fun x hx=>Nat.le_trans hcum.1 (hi70x.ge x hx)
       have hs70:=ho70.sl
       have hcum:=hcum.tr0 hc7
       refine⟨⟨hPob hcum,trivial⟩,?_⟩
       refine dH ?_ ?_
       ·refine aG rfl rfl rfl ou (dB i g _) ?_
        rintro _ wq6 ⟨rfl,hc6⟩
        have hc6:Chg [] _ wq6:=hc6
        have hcum:=hcum.tr0 hc6
        have hs70:=hs70.mod0 hc6
        refine⟨⟨hPob hcum,trivial⟩,?_⟩
        refine bC rfl rfl rfl (fD aR uU5 rfl hs70) ?_
        rintro wq8 ⟨hs71,hc8q,hs8⟩
        have hc8:Chg (ar (.slice (some ⟨b70,o70,none⟩) 4 c70)) _ wq8:=hc8q
        have hcum:=hcum.t0 hc8 hi70
        have hs70:=hs71
        refine⟨⟨hPob hcum,trivial⟩,?_⟩
        refine aG rfl rfl rfl C159 (uo (aW k aY 0) (bY i.toNat g.toNat) (.slice (some ⟨b70,o70,none⟩) 4 c70) (.slice p10 498 c10) aY ((t.drop 8).take 498) _ hpk hnl hs70 (hs10.mod0 hcum) (by decide) (by omega)) ?_
        rintro v76 wq11 ⟨hv76,hc11⟩
        refine⟨trivial,?_⟩
        have hob5:=lM hv76
        obtain⟨v11,e7,hform⟩:=hob5
        subst hform
        refine ym rfl rfl rfl ?_
        refine yx rfl rfl rfl rfl rfl ?_
        refine yx rfl rfl rfl rfl rfl ?_
        refine ya rfl rfl rfl ?_
        refine ya rfl rfl rfl ?_
        refine aQ (a7 ?_)
        exact⟨v11,e7,rfl,hcum.tr hc11,hv76⟩
       ·refine bC rfl rfl rfl (fD aR uU5 rfl hs70) ?_
        rintro wq8 ⟨hs71,hc8q,hs8⟩
        have hc8:Chg (ar (.slice (some ⟨b70,o70,none⟩) 4 c70)) _ wq8:=hc8q
        have hcum:=hcum.t0 hc8 hi70
        have hs70:=hs71
        refine⟨⟨hPob hcum,trivial⟩,?_⟩
        refine aG rfl rfl rfl ou (dB i g _) ?_
        rintro _ wq6 ⟨rfl,hc6⟩
        have hc6:Chg [] _ wq6:=hc6
        have hcum:=hcum.tr0 hc6
        have hs70:=hs70.mod0 hc6
        refine⟨⟨hPob hcum,trivial⟩,?_⟩
        refine aG rfl rfl rfl C159 (uo (aW k aY 0) (bY i.toNat g.toNat) (.slice (some ⟨b70,o70,none⟩) 4 c70) (.slice p10 498 c10) aY ((t.drop 8).take 498) _ hpk hnl hs70 (hs10.mod0 hcum) (by decide) (by omega)) ?_
        rintro v76 wq11 ⟨hv76,hc11⟩
        refine⟨trivial,?_⟩
        have hob6:=lM hv76
        obtain⟨v11,e7,hform⟩:=hob6
        subst hform
        refine ym rfl rfl rfl ?_
        refine yx rfl rfl rfl rfl rfl ?_
        refine yx rfl rfl rfl rfl rfl ?_
        refine ya rfl rfl rfl ?_
        refine ya rfl rfl rfl ?_
        refine aQ (a7 ?_)
        exact⟨v11,e7,rfl,hcum.tr hc11,hv76⟩
     ·rintro vs J w4 ⟨v11,e7,rfl,hc4,hop⟩
      refine ae (zSR (zm rfl (a6 rfl (bL rfl rfl) ?_)))
      refine a8 (a7 ?_)
      unfold oG at hop
      rw[if_neg (by omega),hcl] at hop
      have htt:((t.drop 8).take 498).take (498-16)=(t.drop 8).take 482:=by rw[List.take_take]; rfl
      rw[htt] at hop
      have hc04:=hc03.tr hc4
      by_cases hfit:lA (aW k aY 0) (bY i.toNat g.toNat) aY ((t.drop 8).take 498)
      ·rw[if_pos hfit] at hop
       obtain⟨r11,heq,ho11⟩:=hop
       simp only[Value.tuple.injEq,Array.mk.injEq,List.cons.injEq,Value.int.injEq,true_and,and_true] at heq
       obtain⟨rfl,rfl⟩:=heq
       have hob7:∃pl,pl=fb (aW k aY 0) (bY i.toNat g.toNat) ((t.drop 8).take 482):=⟨_,rfl⟩
       obtain⟨pl,hpl⟩:=hob7
       have hpll:pl.length=482:=by rw[hpl,fj,List.length_take]; omega
       rw[←hpl] at ho11
       refine aF rfl (fun h=>h rfl) ?_
       refine zKR (zm rfl (ah rfl C83 (j1 v11 pl 2 w4 ho11.sl (by decide) (by omega)) ?_))
       rintro v5 w5 ⟨hv5,hh5⟩
       unfold nq at hv5
       rw[if_neg (by omega)] at hv5
       have hob8:∃nn:UInt64,nn=UInt64.ofNat (cL (pl.take 2)):=⟨_,rfl⟩
       obtain⟨nn,hnn⟩:=hob8
       rw[←hnn] at hv5
       have hlt2:=l9 (pl.take 2)
       rw[List.length_take,Nat.min_eq_left (by omega)] at hlt2
       have hnt:nn.toNat=cL (pl.take 2):=by rw[hnn,UInt64.toNat_ofNat']; omega
       obtain⟨r5,rfl,hs5,hbl5⟩:=hv5
       have hd2:(pl.drop 2).length=480:=by rw[List.length_drop]; omega
       have hob9:=hs5.form hd2
       obtain⟨p5,c5,rfl⟩:=hob9
       refine zm rfl (zx rfl rfl rfl (zx rfl rfl rfl (zx rfl rfl rfl (za rfl (za rfl (za rfl (zNR (zm rfl (zm rfl (a6 rfl (fC rfl dV uU3 (by omega)) (zm rfl (a6 rfl (ax rfl aR) (a6 rfl (iG rfl rfl) ?_)))))))))))))
       refine bg rfl (gm (min nn.toNat 480) aR I5 hs5 rfl rfl (by omega) (by omega)) ?_
       rintro _ ⟨⟨p6,c6,rfl⟩,hs6,hbl6⟩
       refine za rfl (za rfl (a8 (a7 (zrf ?_))))
       refine⟨.inr (.inr (.inr ⟨hbr,hu,hw,by rw[←ht,←hg]; exact hgeq,_,_,?_,rfl,hs6⟩)),hc04.tr (Chg.heap hh5)⟩
       unfold qP
       rw[←ht,←hg,if_pos hfit,←hpl,hnt]
      ·rw[if_neg hfit] at hop
       simp only[Value.tuple.injEq,Array.mk.injEq,List.cons.injEq,Value.int.injEq,true_and,and_true] at hop
       obtain⟨rfl,rfl⟩:=hop
       refine bs rfl (by decide) ?_
       refine zSR (za rfl (za rfl (a8 (a7 (zrt ?_)))))
       refine⟨.inr (.inr (.inl ⟨hbr,hu,hw,.inr ?_,rfl⟩)),hc04⟩
       unfold qP
       rw[←ht,←hg,if_neg hfit]
end Go.Proofs.YtpbfapbajmdlkaaGreat

end
section
namespace Go.Proofs.YtpbfapbajmdlkaaGreat
open Go Go.Sac
set_option maxRecDepth 100000
set_option maxHeartbeats 4000000
end Go.Proofs.YtpbfapbajmdlkaaGreat

end
section
namespace Go.Proofs.YtpbfapbajmdlkaaGreat
open Go Go.Sac
set_option maxRecDepth 100000
set_option maxHeartbeats 4000000
theorem of_ok(w:World)(b:Nat)(k:List UInt8)(hk:k.length=32)(a:Nat)(s:Sup)(u rr:Nat)(hu:SetAt w u s.used)(hr:SetAt w rr s.written)(hne:u≠rr) :
  Ret Tryz.prog 93 #[.pointer (some ⟨b,0,none⟩),bT k,.int .i64 a,zw s u rr] w fun v w'=>∃R:PR,v = .pointer (some ⟨R.pb,0,none⟩)∧(∀x∈PF R,x=u∨x=rr∨w.heap.size≤x)∧PagerAt w' R b k ⟨s.st,s,a,0,fun _=>none,false⟩∧Chg [] w w':=by
 have hpk:=du k aY 0
 refine enter [8] Tryz.func93 rfl rfl (Nat.le_of_ble_eq_true rfl) ?_
 refine zSR (cH (l:=k) rfl rfl ?_)
 rintro w1 b1 hn1 ha1 hc1 hl1
 refine aS rfl (cg (l:=eO s u rr) rfl rfl) ?_
 rintro _ w2 ⟨b2,rfl,hn2,hB2,hc2,hl2⟩
 refine za rfl (a8 (a7 (ae ?_)))
 have ha2:=ha1.chg0 hc2
 have hc02:=hc1.tr hc2
 have hu2:=hu.chg0 hc02
 have hr2:=hr.chg0 hc02
 refine aO bG (.pure 0 (.read 1 (.pure 3 (.read 4 (.read 5 (.read 7 (.pure 8 (.alt (.eff 2 [4,5,7] (.alt (.eff 6 [4,7] (.eff 9 [1,4,5,7] (.pure 10 (.eff 11 [] (.pure 12 .nil))))) (.eff 9 [1,4,5,7] (.eff 6 [4,7] (.pure 10 (.eff 11 [] (.pure 12 .nil))))))) (.eff 9 [1,4,5,7] (.eff 2 [4,5,7] (.eff 6 [4,7] (.pure 10 (.eff 11 [] (.pure 12 .nil)))))))))))))) (by kernel_rfl) ?_
 refine aj rfl rfl rfl (fun _=>(aa dw rfl iZ rfl rfl)) ?_
 refine dM rfl rfl rfl (fun w'=>Blk w' b2 (eO s u rr)) (hB2) (fun w1 h1=>bX fm rfl iZ rfl (h1.at (l:=stC s.st u rr) (off:=0) rfl) rfl) ?_
 refine ym rfl rfl rfl ?_
 refine dR 32 rfl rfl rfl gq rfl I63 rfl rfl (ha2) (hk) ?_
 refine dR 32 rfl rfl rfl gq rfl I63 rfl rfl (ha2) (hk) ?_
 refine dM rfl rfl rfl (fun w'=>Blk w' b2 (eO s u rr)) (hB2) (fun w1 h1=>bX dw rfl ea rfl (h1.at (l:=eO s u rr) (off:=0) rfl) rfl) ?_
 refine ym rfl rfl rfl ?_
 have hcum:Chg [] w2 { w2 with drawn:=w2.drawn+1 }:=Chg.heap rfl
 have hBo:∀{w':World},Chg [] w2 w'→Blk w' b2 (eO s u rr):=fun hc=>hB2.chg0 hc
 have hao:∀{w':World},Chg [] w2 w'→Arr w' b1 k:=fun hc=>ha2.chg0 hc
 refine dH ?_ ?_
 ·refine aG rfl rfl rfl C124 (tj _ s.st u rr (hu2.chg0 hcum) (hr2.chg0 hcum)) ?_
  rintro _ wq2 ⟨u',r',rfl,hu',hr',hcq2,hnu,hnr,hnur⟩
  have hnu2:w2.heap.size≤u':=Nat.le_trans hcum.1 hnu
  have hnr2:w2.heap.size≤r':=Nat.le_trans hcum.1 hnr
  have hc2:=hcq2
  have hcum:=hcum.tr hc2
  refine⟨⟨hao hcum,hao hcum,hBo hcum,trivial⟩,?_⟩
  refine dH ?_ ?_
  ·refine aG rfl rfl rfl Ax (iD k hk aY 0 0 rfl _ (by decide)) ?_
   rintro _ wq6 ⟨rfl,hc6⟩
   have hcum:=hcum.tr hc6
   have hu':=hu'.chg0 hc6
   have hr':=hr'.chg0 hc6
   refine⟨⟨hao hcum,hBo hcum,trivial⟩,?_⟩
   refine bu rfl rfl rfl (lr UInt32) ?_
   rintro _ wq9 ⟨g,rfl,hg,hm9,hc9,hl9⟩
   have hng:w2.heap.size≤g:=Nat.le_trans hcum.1 hg
   have hcum:=hcum.tr hc9
   have hgu:u'≠g:=by have:=hu'.lt; omega
   have hgr:r'≠g:=by have:=hr'.lt; omega
   have hu':=hu'.chg0 hc9
   have hr':=hr'.chg0 hc9
   refine⟨⟨hBo hcum,hao hcum,hao hcum,hBo hcum,trivial⟩,?_⟩
   refine aj rfl rfl rfl (fun _=>bN ec I196 rfl (zs:=pgL z32 z32 pgA0 pgC0) rfl rfl (lL hk hpk s s.st b u' r' u rr g a rfl rfl rfl rfl rfl rfl rfl)) ?_
   refine bu rfl rfl rfl (cg (l:=pgL k (aW k aY 0) (pgA ⟨s.st,s,a,0,fun _=>none,false⟩ ⟨0,u',r',u,rr,g⟩ b) (pgC ⟨s.st,s,a,0,fun _=>none,false⟩ ⟨0,u',r',u,rr,g⟩)) rfl rfl) ?_
   rintro _ wqx ⟨pb,rfl,hnp,hBp,hcx,hlx⟩
   refine⟨trivial,?_⟩
   refine ya rfl rfl rfl ?_
   refine aQ (a7 (zrf ?_))
   have k1:=hcum.1
   have q1:=hu.lt
   have q2:=hr.lt
   have q3:=hu'.lt
   have q4:=hr'.lt
   have q5:=hm9.lt
   have q6:=hc02.1
   refine⟨⟨pb,u',r',u,rr,g⟩,rfl,?_,⟨hBp,hu'.chg0 hcx,hr'.chg0 hcx,(hu2.chg0 hcum).chg0 hcx,(hr2.chg0 hcum).chg0 hcx,⟨[],hm9.mod hcx (by simp),fun _=>rfl⟩,?_⟩,(hc02.tr hcum).tr hcx⟩
   ·intro x hx
    simp only[PF,List.mem_cons,List.not_mem_nil,or_false] at hx
    rcases hx with rfl | rfl | rfl | rfl | rfl | rfl <;> omega
   ·simp only[PF,List.nodup_cons,List.mem_cons,List.not_mem_nil,or_false,not_or,List.nodup_nil,and_true,not_false_eq_true]
    omega
  ·refine bu rfl rfl rfl (lr UInt32) ?_
   rintro _ wq9 ⟨g,rfl,hg,hm9,hc9,hl9⟩
   have hng:w2.heap.size≤g:=Nat.le_trans hcum.1 hg
   have hcum:=hcum.tr hc9
   have hgu:u'≠g:=by have:=hu'.lt; omega
   have hgr:r'≠g:=by have:=hr'.lt; omega
   have hu':=hu'.chg0 hc9
   have hr':=hr'.chg0 hc9
   refine⟨⟨hBo hcum,hao hcum,hao hcum,hBo hcum,trivial⟩,?_⟩
   refine aG rfl rfl rfl Ax (iD k hk aY 0 0 rfl _ (by decide)) ?_
   rintro _ wq6 ⟨rfl,hc6⟩
   have hcum:=hcum.tr hc6
   have hu':=hu'.chg0 hc6
   have hr':=hr'.chg0 hc6
   have hm9:=hm9.mod hc6 (by simp)
   refine⟨⟨hao hcum,hBo hcum,trivial⟩,?_⟩
   refine aj rfl rfl rfl (fun _=>bN ec I196 rfl (zs:=pgL z32 z32 pgA0 pgC0) rfl rfl (lL hk hpk s s.st b u' r' u rr g a rfl rfl rfl rfl rfl rfl rfl)) ?_
   refine bu rfl rfl rfl (cg (l:=pgL k (aW k aY 0) (pgA ⟨s.st,s,a,0,fun _=>none,false⟩ ⟨0,u',r',u,rr,g⟩ b) (pgC ⟨s.st,s,a,0,fun _=>none,false⟩ ⟨0,u',r',u,rr,g⟩)) rfl rfl) ?_
   rintro _ wqx ⟨pb,rfl,hnp,hBp,hcx,hlx⟩
   refine⟨trivial,?_⟩
   refine ya rfl rfl rfl ?_
   refine aQ (a7 (zrf ?_))
   have k1:=hcum.1
   have q1:=hu.lt
   have q2:=hr.lt
   have q3:=hu'.lt
   have q4:=hr'.lt
   have q5:=hm9.lt
   have q6:=hc02.1
   refine⟨⟨pb,u',r',u,rr,g⟩,rfl,?_,⟨hBp,hu'.chg0 hcx,hr'.chg0 hcx,(hu2.chg0 hcum).chg0 hcx,(hr2.chg0 hcum).chg0 hcx,⟨[],hm9.mod hcx (by simp),fun _=>rfl⟩,?_⟩,(hc02.tr hcum).tr hcx⟩
   ·intro x hx
    simp only[PF,List.mem_cons,List.not_mem_nil,or_false] at hx
    rcases hx with rfl | rfl | rfl | rfl | rfl | rfl <;> omega
   ·simp only[PF,List.nodup_cons,List.mem_cons,List.not_mem_nil,or_false,not_or,List.nodup_nil,and_true,not_false_eq_true]
    omega
 ·refine bu rfl rfl rfl (lr UInt32) ?_
  rintro _ wq9 ⟨g,rfl,hg,hm9,hc9,hl9⟩
  have hng:w2.heap.size≤g:=Nat.le_trans hcum.1 hg
  have hcum:=hcum.tr hc9
  refine⟨⟨hBo hcum,hao hcum,hao hcum,hBo hcum,trivial⟩,?_⟩
  refine aG rfl rfl rfl C124 (tj _ s.st u rr (hu2.chg0 hcum) (hr2.chg0 hcum)) ?_
  rintro _ wq2 ⟨u',r',rfl,hu',hr',hcq2,hnu,hnr,hnur⟩
  have hnu2:w2.heap.size≤u':=Nat.le_trans hcum.1 hnu
  have hnr2:w2.heap.size≤r':=Nat.le_trans hcum.1 hnr
  have hc2:=hcq2
  have hcum:=hcum.tr hc2
  have hgu:u'≠g:=by have:=hm9.lt; omega
  have hgr:r'≠g:=by have:=hm9.lt; omega
  have hm9:=hm9.mod hc2 (by simp)
  refine⟨⟨hao hcum,hao hcum,hBo hcum,trivial⟩,?_⟩
  refine aG rfl rfl rfl Ax (iD k hk aY 0 0 rfl _ (by decide)) ?_
  rintro _ wq6 ⟨rfl,hc6⟩
  have hcum:=hcum.tr hc6
  have hm9:=hm9.mod hc6 (by simp)
  have hu':=hu'.chg0 hc6
  have hr':=hr'.chg0 hc6
  refine⟨⟨hao hcum,hBo hcum,trivial⟩,?_⟩
  refine aj rfl rfl rfl (fun _=>bN ec I196 rfl (zs:=pgL z32 z32 pgA0 pgC0) rfl rfl (lL hk hpk s s.st b u' r' u rr g a rfl rfl rfl rfl rfl rfl rfl)) ?_
  refine bu rfl rfl rfl (cg (l:=pgL k (aW k aY 0) (pgA ⟨s.st,s,a,0,fun _=>none,false⟩ ⟨0,u',r',u,rr,g⟩ b) (pgC ⟨s.st,s,a,0,fun _=>none,false⟩ ⟨0,u',r',u,rr,g⟩)) rfl rfl) ?_
  rintro _ wqx ⟨pb,rfl,hnp,hBp,hcx,hlx⟩
  refine⟨trivial,?_⟩
  refine ya rfl rfl rfl ?_
  refine aQ (a7 (zrf ?_))
  have k1:=hcum.1
  have q1:=hu.lt
  have q2:=hr.lt
  have q3:=hu'.lt
  have q4:=hr'.lt
  have q5:=hm9.lt
  have q6:=hc02.1
  refine⟨⟨pb,u',r',u,rr,g⟩,rfl,?_,⟨hBp,hu'.chg0 hcx,hr'.chg0 hcx,(hu2.chg0 hcum).chg0 hcx,(hr2.chg0 hcum).chg0 hcx,⟨[],hm9.mod hcx (by simp),fun _=>rfl⟩,?_⟩,(hc02.tr hcum).tr hcx⟩
  ·intro x hx
   simp only[PF,List.mem_cons,List.not_mem_nil,or_false] at hx
   rcases hx with rfl | rfl | rfl | rfl | rfl | rfl <;> omega
  ·simp only[PF,List.nodup_cons,List.mem_cons,List.not_mem_nil,or_false,not_or,List.nodup_nil,and_true,not_false_eq_true]
   omega
end Go.Proofs.YtpbfapbajmdlkaaGreat

end
section
namespace Go.Proofs.YtpbfapbajmdlkaaGreat
open Go Go.Sac
set_option maxRecDepth 100000
set_option maxHeartbeats 4000000
end Go.Proofs.YtpbfapbajmdlkaaGreat

end
section
namespace Go.Proofs.YtpbfapbajmdlkaaGreat
open Go Go.Sac
set_option maxRecDepth 100000
set_option maxHeartbeats 4000000
def CommitR(k:List UInt8)(P:Pg)(ds:DSt)(root:UInt32)(txt:List UInt8)(e:Int)(P':Pg)(ds':DSt):Prop :=
 (P.broken=true∧e=61∧P'=P∧ds'=ds) ∨
 (P.broken=false∧200<txt.length∧e=11∧P'=P∧ds'=ds) ∨
 (P.broken=false∧txt.length≤200∧(∃i,P.fresh i=true∧P.now.written i=false)∧e=71∧P'=P∧ds'=ds) ∨
 (P.broken=false∧txt.length≤200∧(¬∃i,P.fresh i=true∧P.now.written i=false) ∧
  ((ds.flush.2≠0∧e=ds.flush.2∧P'={ P with broken:=decide (ds.flush.2=61) }∧ds'=ds.flush.1) ∨
   (ds.flush.2=0∧(cq k ds.flush.1 ((P.at_+1) % 2) (hU P root txt)).2≠0∧e=(cq k ds.flush.1 ((P.at_+1) % 2) (hU P root txt)).2∧P'={ P with broken:=decide ((cq k ds.flush.1 ((P.at_+1) % 2) (hU P root txt)).2=61) }∧ds'=(cq k ds.flush.1 ((P.at_+1) % 2) (hU P root txt)).1) ∨
   (ds.flush.2=0∧(cq k ds.flush.1 ((P.at_+1) % 2) (hU P root txt)).2=0∧e=0∧P'={ P with now:=(hU P root txt).st,kept:=hU P root txt,at_:=(P.at_+1) % 2 }∧ds'=(cq k ds.flush.1 ((P.at_+1) % 2) (hU P root txt)).1)))
end Go.Proofs.YtpbfapbajmdlkaaGreat

end
section
namespace Go.Proofs.YtpbfapbajmdlkaaGreat
open Go Go.Sac
set_option maxRecDepth 100000
set_option maxHeartbeats 4000000
def FormatR(k:List UInt8)(ds:DSt)(e:Int)(P:Option Pg)(ds':DSt):Prop :=
 (gx ds.kept.length<4∧e=70∧P=none∧ds'=ds) ∨
 (4≤gx ds.kept.length∧∃i,i≤1∧(∀j,j≤i→(g9 k ds j).2=0)∧(g9 k ds (i+1)).2≠0∧e=(g9 k ds (i+1)).2∧P=none∧ds'=(g9 k ds (i+1)).1) ∨
 (4≤gx ds.kept.length∧(∀j,j≤2→(g9 k ds j).2=0)∧e=0∧P=some ⟨(eH k ds 1).st,eH k ds 1,fN k ds 1,0,fun _=>none,false⟩∧ds'=(g9 k ds 2).1)
theorem Av(w:World)(b r:Nat)(kv:Value)(ds:DSt)(k:List UInt8)(hk:k.length=32)(hd:DiskAt w b kv r ds)(hf:ds.Fine)(ho:ds.off=false)(hl2:ds.kept.length≤4000)(hst:ds.steps+60≤1000000000000) :
  Ret Tryz.prog 55 #[.pointer (some ⟨b,0,none⟩),bT k] w fun v w'=>(∃e P ds',FormatR k ds e P ds'∧DiskAt w' b kv r ds'∧((P=none∧v = .tuple #[.pointer none,.int .i64 e])∨(∃P' R,P=some P'∧v = .tuple #[.pointer (some ⟨R.pb,0,none⟩),.int .i64 e]∧PagerAt w' R b k P'∧∀x∈PF R,w.heap.size≤x)))∧Chg (DF b kv r) w w':=by
 refine enter [4,5] Tryz.func55 rfl rfl (Nat.le_of_ble_eq_true rfl) ?_
 refine zSR (cH (l:=k) rfl rfl ?_)
 rintro w1 b3 hn1 ha1 hc1 hl1
 refine za rfl (za rfl (a8 (a7 (ae (zSR (zm rfl (ah rfl C90 (yE w1 b r kv ds (hd.chg0 hc1) hl2) ?_)))))))
 rintro _ w2 ⟨rfl,hh2⟩
 refine a6 rfl (bz rfl rfl) ?_
 refine a8 (a7 ?_)
 have hc2:Chg [] w w2:=hc1.tr (Chg.heap hh2)
 refine aC rfl (fun hm=>?_) (fun hm=>?_)
 ·refine zSR (za rfl (za rfl (a8 (a7 (zrt ?_)))))
  exact⟨⟨70,none,ds,.inl ⟨hm,rfl,rfl,rfl⟩,hd.chg0 hc2,.inl ⟨rfl,rfl⟩⟩,hc2.mono (by simp)⟩
 ·refine zKR (zm rfl ?_)
  have hm4:4≤gx ds.kept.length:=by omega
  have hlen:64≤ds.kept.length:=by unfold gx at hm4; omega
  have hd2:=hd.chg0 hc2
  have ha2:=ha1.chg0 (Chg.heap hh2)
  refine a6 rfl (cF 32 gq rfl I63 rfl rfl (ha2) (hk)) ?_
  refine ah rfl C91 (zT w2 b r kv ds k hk hd2 ho (by omega) hl2) ?_
  rintro _ w3 ⟨⟨cs,hbe,rfl⟩,hc3⟩
  refine zm rfl (zx rfl rfl rfl (zx rfl rfl rfl (zx rfl rfl rfl (zx rfl rfl rfl ?_))))
  have hob1:=hbe.six
  obtain⟨a1,a2,a3,a4,hcs,hcell,hall⟩:=hob1
  subst hcs
  refine aS rfl (dn (l:=sup0C) ea rfl rfl) ?_
  rintro _ w4 ⟨b6,rfl,hn4,hB4,hc4,hl4⟩
  refine aH rfl (cz (l:=[a1,a2,a3,a4,.int .u64 (ij (newest k ds)).toNat,.int .u32 (rU (newest k ds)).toNat]) ea rfl rfl hB4 rfl rfl (Nat.le_refl 6) hcell (cy rfl)) ?_
  rintro w5 ⟨hB5,hc5,hs5⟩
  refine za rfl (za rfl (za rfl (a8 (a7 (ae (zSR (zm rfl (a6 rfl (bL rfl rfl) ?_))))))))
  refine a8 (a7 (aF rfl (fun h=>h rfl) ?_))
  refine aA (a7 ?_)
  have hob2:∃com,com=ij (newest k ds):=⟨_,rfl⟩
  obtain⟨com,hcom⟩:=hob2
  have hob3:∃ep,ep=rU (newest k ds):=⟨_,rfl⟩
  obtain⟨ep,hep⟩:=hob3
  rw[←hcom,←hep] at hB5
  refine km [0,3,7,8,10] (fun vs w'=>∃(b10 u r':Nat),vs=[.pointer (some ⟨b,0,none⟩),.pointer (some ⟨b3,0,none⟩),.int .i64 (pf (newest k ds)),.int .u64 (en k ds).toNat,.pointer (some ⟨b10,0,none⟩)]∧Blk w' b10 (eO (eH k ds 0) u r')∧SetAt w' u fW∧SetAt w' r' fW∧u≠r'∧w5.heap.size≤u∧w5.heap.size≤r'∧w5.heap.size≤b10∧b10≠u∧b10≠r'∧Chg [] w5 w') ?_ ?_
  ·refine al (aS rfl (lr UInt32) ?_)
   rintro _ w6 ⟨u,rfl,hgu,hmu,hc6,hl6⟩
   refine aS rfl (lr UInt32) ?_
   rintro _ w7 ⟨r',rfl,hgr,hmr,hc7,hl7⟩
   refine a6 rfl (bN fm iZ rfl (zs:=[.int .u32 0,str [],.map none,.map none]) rfl rfl (bZ rfl rfl rfl (Nat.le_of_ble_eq_true rfl) (bZ rfl rfl rfl (Nat.le_of_ble_eq_true rfl) (ej (cs':=stC (eH k ds 0).st u r') rfl)))) ?_
   refine zm rfl (a6 rfl (aa dw rfl I25 rfl rfl) ?_)
   refine a6 rfl (az bK rfl rfl (((hB5.chg0 hc6).chg0 hc7).c (off:=5) rfl)) ?_
   refine a6 rfl (cQ (b:=1) rfl rfl) ?_
   refine a6 rfl (bN dw ea rfl (zs:=sup0C) rfl rfl (bZ rfl rfl rfl (Nat.le_of_ble_eq_true rfl) (bZ rfl rfl rfl (Nat.le_of_ble_eq_true rfl) (bZ rfl rfl rfl (Nat.le_of_ble_eq_true rfl) (ej (cs':=eO (eH k ds 0) u r') (xC k ds u r' hep).symm))))) ?_
   refine aS rfl (dn (l:=sup0C) ea rfl rfl) ?_
   rintro _ w8 ⟨b10,rfl,hn8,hB8,hc8,hl8⟩
   refine aH rfl (cz (l:=eO (eH k ds 0) u r') ea rfl rfl hB8 rfl rfl (Nat.le_refl 6) (fg _ _ _) (cy rfl)) ?_
   rintro w9 ⟨hB9,hc9,hs9⟩
   refine a8 (a7 ?_)
   have q1:=hmu.lt
   have q2:=hmr.lt
   have q3:=hc6.1
   have q4:=hc7.1
   have q5:=hc8.1
   refine⟨b10,u,r',rfl,hB9,(SetAt.nil (((hmu.mod hc7 (by simp)).mod hc8 (by simp)))).mod hc9 (by simp; omega),(SetAt.nil (hmr.mod hc8 (by simp))).mod hc9 (by simp; omega),by omega,by omega,by omega,by omega,by omega,by omega,((hc6.tr hc7).tr hc8).t1 hc9 (by omega)⟩
  ·rintro vs J w6 ⟨b10,u,r',rfl,hB6,hu6,hr6,hne,hnu,hnr,hnb,hbu,hbr,hc6⟩
   refine ae (zSR (zm rfl (a8 (a7 (au ?_)))))
   have hat:=sS k ds
   have hc06:Chg [] w w6:=((hc2.tr hc3).tr hc4).t1 hc5 (by have:=hc2.1; have:=hc3.1; omega) |>.tr hc6
   have ha6:Arr w6 b3 k:=((ha2.chg0 hc3).chg0 hc4).nb hc5 (by have:=ha2.lt; have:=hc3.1; omega) |>.chg0 hc6
   have hdlt:=hd.lt
   have hk5:w.heap.size≤w5.heap.size:=by have:=hc2.1; have:=hc3.1; have:=hc4.1; have:=hc5.1; omega
   have hb3lt:b3<w5.heap.size:=by have:=ha2.lt; have:=hc3.1; have:=hc4.1; have:=hc5.1; omega
   refine bn [0,3,7,8,10,35] (fun n vs w'=>∃(i:Nat) (z:Int) (com:UInt64),vs=[.pointer (some ⟨b,0,none⟩),.pointer (some ⟨b3,0,none⟩),.int .i64 z,.int .u64 (en k ds).toNat,.pointer (some ⟨b10,0,none⟩),.int .i64 i]∧i+n=2 ∧ -1≤z∧z≤1∧(i<2→(z+1) % 2=(fN k ds i:Int))∧(i=2→z=(fN k ds 1:Int)∧com=(eH k ds 1).commit)∧(∀j,j≤i→(g9 k ds j).2=0)∧Blk w' b10 (eO { eH k ds 0 with commit:=com } u r')∧DiskAt w' b kv r (g9 k ds i).1∧Chg (b10::DF b kv r) w6 w') (2) ?_ ?_
   ·refine⟨0,_,(eH k ds 0).commit,rfl,rfl,by omega,by omega,fun _=>?_,fun h=>by omega,fun j hj=>?_,hB6,hd.chg0 hc06,Chg.refl' _ _⟩
    ·unfold fN; omega
    ·rw[show j=0 by omega]; rfl
   ·rintro n vs J w7 ⟨i,z,com,rfl,hi,hz1,hz2,hza,hz3,hok,hB7,hd7,hc7⟩
    refine zSR (a6 rfl (bz rfl rfl) ?_)
    refine a8 (a7 (ae ?_))
    have hnu7:u∉b10::DF b kv r:=fun h=>by
     rcases List.mem_cons.1 h with h | h
     ·exact hbu h.symm
     ·have:=hdlt u h; omega
    have hnr7:r'∉b10::DF b kv r:=fun h=>by
     rcases List.mem_cons.1 h with h | h
     ·exact hbr h.symm
     ·have:=hdlt r' h; omega
    have hu7:=hu6.mod hc7 hnu7
    have hr7:=hr6.mod hc7 hnr7
    have ha7:Arr w7 b3 k:=ha6.chg hc7 (fun h=>by
     rcases List.mem_cons.1 h with h | h
     ·omega
     ·have:=hdlt b3 h; have:=ha1.lt; have:=hc1.1; omega)
    refine aC rfl (fun hlt=>?_) (fun hlt=>?_)
    ·refine aA (a7 (ae (au (zSR (zm rfl (za rfl (zNR (zm rfl (a6 rfl (aD rfl rfl (by omega)) (a6 rfl (gK rfl rfl (by omega)) (za rfl ?_)))))))))))
     refine zNR (zm rfl (zm rfl (a6 rfl (cP rfl uU3 dV) (a6 rfl (qb rfl rfl) (a6 rfl (aa dw rfl me rfl rfl) ?_)))))
     have hob4:∃q,n=q+1:=⟨n-1,by omega⟩
     obtain⟨n,rfl⟩:=hob4
     have hb3:=vO k ds hf hst i (by omega)
     have hle:=yO k ds i
     refine aH rfl (bD me rfl rfl (hB7) rfl rfl ((by decide:4<6)) rfl (rfl)) ?_
     rintro w8 ⟨hB8,hc8,hs8⟩
     refine zNR (zm rfl ?_)
     have hB8:Blk w8 b10 (eO (eH k ds i) u r'):=hB8
     have ha8:=ha7.nb hc8 (by omega)
     have hu8:=hu7.mod hc8 (by simpa using Ne.symm hbu)
     have hr8:=hr7.mod hc8 (by simpa using Ne.symm hbr)
     have hd8:DiskAt w8 b kv r (g9 k ds i).1:=hd7.chg hc8 (fun x hx hh=>by simp at hh; subst hh; have:=hdlt _ hx; omega)
     refine a6 rfl (cF 32 gq rfl I63 rfl rfl (ha8) (hk)) ?_
     refine zm rfl (a6 rfl (bX dw rfl ea rfl (hB8.at (l:=eO (eH k ds i) u r') (off:=0) rfl) rfl) ?_)
     have hz:=hza (by omega)
     have hla:=lays_ok w8 b r kv (g9 k ds i).1 k hk (fN k ds i) hle (eH k ds i) u r' (fmtS_ok k ds i) hu8 hr8 hd8 hb3.1 (by omega)
     rw[←hz] at hla
     refine ah rfl C92 (hla) ?_
     rintro _ w9 ⟨rfl,hd9,hc9⟩
     refine za rfl (zNR (zm rfl (a6 rfl (bL rfl rfl) ?_)))
     refine a8 (a7 ?_)
     have hc69:Chg (b10::DF b kv r) w6 w9:=(hc7.tr (hc8.mono (by simp))).tr (hc9.mono (fun x hx _=>List.mem_cons_of_mem _ hx))
     have hc09:Chg (DF b kv r) w w9:=hc06.trans hc69 (by simp) (fun x hx hlt=>by
      rcases List.mem_cons.1 hx with rfl | h
      ·omega
      ·exact h)
     refine aC rfl (fun he=>?_) (fun he=>?_)
     ·refine zSR (zm rfl (za rfl (za rfl (a8 (a7 (bQ (cG (bq (bq (cG (bq (fY ?_))))))))))))
      exact⟨⟨_,none,_,.inr (.inl ⟨hm4,i,by omega,hok,he,rfl,rfl,rfl⟩),hd9,.inl ⟨rfl,rfl⟩⟩,hc09⟩
     ·refine aA (aB (a7 (al (a6 rfl (aD rfl rfl (by omega)) (zm rfl ?_)))))
      refine a8 (a7 ?_)
      have he:(cq k (g9 k ds i).1 (fN k ds i) (eH k ds i)).2=0:=Decidable.not_not.1 he
      have hB9:Blk w9 b10 (eO (eH k ds i) u r'):=hB8.chg hc9 (fun h=>by have:=hdlt _ h; omega)
      refine Exists.intro (n) (And.intro (by omega) ?_)
      refine⟨i+1,_,(eH k ds i).commit,by first | rfl | (rw[Int.natCast_add]; rfl),by omega,by omega,by omega,fun h=>?_,fun h=>?_,fun j hj=>?_,hB9,hd9,hc69⟩
      ·rw[hz]; unfold fN; omega
      ·rw[hz,show i=1 by omega]; exact⟨rfl,rfl⟩
      ·rcases(by omega:j≤i∨j=i+1) with h | h
       ·exact hok j h
       ·rw[h]; exact he
    ·refine aP (aq (aq (aE (a7 (zSR (zm rfl ?_))))))
     have hi2:i=2:=by omega
     subst hi2
     have hob5:=hz3 rfl
     obtain⟨rfl,rfl⟩:=hob5
     have hB7':Blk w7 b10 (eO (eH k ds 1) u r'):=hB7
     refine a6 rfl (cF 32 gq rfl I63 rfl rfl (ha7) (hk)) ?_
     refine zm rfl (a6 rfl (bX dw rfl ea rfl (hB7'.at (l:=eO (eH k ds 1) u r') (off:=0) rfl) rfl) ?_)
     refine ah rfl C93 (of_ok w7 b k hk (fN k ds 1) (eH k ds 1) u r' hu7 hr7 hne) ?_
     rintro _ w8 ⟨R,rfl,hR,hP8,hc8⟩
     refine za rfl (za rfl (a8 (a7 (zrf ?_))))
     refine⟨⟨0,_,_,.inr (.inr ⟨hm4,fun j hj=>hok j hj,rfl,rfl,rfl⟩),hd7.chg0 hc8,.inr ⟨_,R,rfl,rfl,hP8,fun x hx=>?_⟩⟩,?_⟩
     ·have:=hc06.1
      have:=hc7.1
      rcases hR x hx with h | h | h <;> omega
     ·refine Chg.tr0 (hc06.trans hc7 (by simp) (fun x hx hlt=>?_)) hc8
      rcases List.mem_cons.1 hx with rfl | h
      ·omega
      ·exact h
end Go.Proofs.YtpbfapbajmdlkaaGreat

end
section
namespace Go.Proofs.YtpbfapbajmdlkaaGreat
open Go Go.Sac
set_option maxRecDepth 100000
set_option maxHeartbeats 4000000
def OpenR(k:List UInt8)(ds:DSt)(e:Int)(P:Option Pg)(ds':DSt):Prop :=
 (gx ds.kept.length<4∧e=72∧P=none∧ds'=ds) ∨
 (4≤gx ds.kept.length∧newest k ds=none∧e=72∧P=none∧ds'=ds) ∨
 (4≤gx ds.kept.length∧∃s a,newest k ds=some (s,a) ∧
  (((cq k ds ((a+1) % 2) (opS k ds s)).2≠0∧e=(cq k ds ((a+1) % 2) (opS k ds s)).2∧P=none∧ds'=(cq k ds ((a+1) % 2) (opS k ds s)).1) ∨
   ((cq k ds ((a+1) % 2) (opS k ds s)).2=0∧e=0∧ds'=(cq k ds ((a+1) % 2) (opS k ds s)).1∧∃f,(∀i,s.written i=true→f i=some (genD ds' i))∧P=some ⟨s.st,opS k ds s,(a+1) % 2,0,f,false⟩)))
end Go.Proofs.YtpbfapbajmdlkaaGreat

end
section
namespace Go.Proofs.YtpbfapbajmdlkaaGreat
open Go Go.Sac
set_option maxRecDepth 100000
set_option maxHeartbeats 4000000
def PS(w0 w:World)(b:Nat)(kv:Value)(r:Nat)(R:PR)(n k:Nat)(key:List UInt8)(ds:DSt)(P:Pg)(V:UInt32→List UInt8):Prop :=
 RunD w0 w b kv r ds∧PagerAt w R b key P∧(∀x∈PF R,w0.heap.size≤x∧x∉DF b kv r)∧PInv n k key ds P V∧key.length=32
section
variable {w0 w:World}{b r n k:Nat}{kv:Value}{R:PR}{key:List UInt8}{ds:DSt}{P:Pg}{V:UInt32→List UInt8}
theorem PS.ge(h:PS w0 w b kv r R n k key ds P V):∀x∈PF R++DF b kv r,w0.heap.size≤x:=by
 intro x hx
 rcases List.mem_append.1 hx with hx | hx
 ·exact(h.2.2.1 x hx).1
 ·exact h.1.2.2 x hx
theorem PS.lt(h:PS w0 w b kv r R n k key ds P V):∀x∈PF R++DF b kv r,x<w.heap.size:=by
 intro x hx
 rcases List.mem_append.1 hx with hx | hx
 ·exact h.2.1.lt x hx
 ·exact h.1.1.lt x hx
theorem PS.chg{w':World}{S:List Nat}(h:PS w0 w b kv r R n k key ds P V)(hm:Chg S w w')(hn:∀x∈PF R++DF b kv r,x∉S)(hs:∀x∈S,w0.heap.size≤x):PS w0 w' b kv r R n k key ds P V:=by
 obtain⟨hd,h2,h3,h4,h5⟩:=h
 exact⟨⟨hd.1.chg hm (fun x hx=>hn x (List.mem_append_right _ hx)),hd.2.1.t0 hm hs,hd.2.2⟩,h2.chg hm (fun x hx=>hn x (List.mem_append_left _ hx)),h3,h4,h5⟩
theorem PS.chg0{w':World}(h:PS w0 w b kv r R n k key ds P V)(hm:Chg [] w w'):PS w0 w' b kv r R n k key ds P V:=h.chg hm (by simp) (by simp)
theorem PS.now(h:PS w0 w b kv r R n k key ds P V):Chg [] w0 w:=h.1.2.1
theorem PS.many(h:PS w0 w b kv r R n k key ds P V):gx ds.kept.length=n:=h.2.2.2.1.ok.many
theorem PS.small(h:PS w0 w b kv r R n k key ds P V):ds.kept.length≤4000:=h.2.2.2.1.ok.small
theorem PS.apart(h:PS w0 w b kv r R n k key ds P V):∀x∈PF R,x∉DF b kv r:=fun x hx=>(h.2.2.1 x hx).2
theorem PS.st(h:PS w0 w b kv r R n k key ds P V):ds.steps+100≤1000000000000:=by
 have h1:=h.2.2.2.1.ok.steps
 have h2:=h.2.2.2.1.few
 omega
theorem BM(w0 w:World)(n:Nat)(hn:n≤4000)(h0:Chg [] w0 w) :
  Ret Tryz.prog 37 #[.int .i64 n] w fun v w'=>∃b kv r,v = .pointer (some ⟨b,0,none⟩)∧RunD w0 w' b kv r (dsN n)∧Chg [] w w'∧∀x∈DF b kv r,w.heap.size≤x:=by
 refine(SNew_ok w n hn).mono ?_
 rintro v w' ⟨b,kv,r,rfl,hd,hc,hF⟩
 exact⟨b,kv,r,rfl,⟨hd,h0.tr hc,fun x hx=>Nat.le_trans h0.1 (hF x hx)⟩,hc,hF⟩
theorem xA(V:UInt32→List UInt8)(hd:RunD w0 w b kv r (dsN (32+8*n)))(hn:4≤n∧n≤400)(hk:key.length=32) :
  Ret Tryz.prog 55 #[.pointer (some ⟨b,0,none⟩),bT key] w fun v w'=>∃R a ds,v = .tuple #[.pointer (some ⟨R.pb,0,none⟩),.int .i64 0]∧PS w0 w' b kv r R n 1 key ds (pgZ a) V∧Chg (DF b kv r) w w'∧∀x∈PF R,w.heap.size≤x:=by
 obtain⟨z1,z2,z3⟩:=PInv.zero key n hn V
 have hkl:(dsN (32+8*n)).kept.length=32+8*n:=List.length_replicate
 have hlt:=hd.1.lt
 have k1:=hd.2.1.1
 refine(Av w b r kv (dsN (32+8*n)) key hk hd.1 (vZ _ (by omega)) rfl (by omega) (by show 0+60≤_; omega)).mono ?_
 rintro v w' ⟨⟨e,P,ds',hF,hd',hv⟩,hc⟩
 rcases hF with⟨q,_⟩ | ⟨_,i,hi,_,q,_⟩ | ⟨_,_,rfl,rfl,rfl⟩
 ·exfalso; rw[vF hkl hn.2] at q; omega
 ·exact absurd (z1 (i+1) (by omega)) q
 ·rcases hv with⟨q,_⟩ | ⟨P',R,hP',rfl,hP,hR⟩
  ·cases q
  ·cases hP'
   rw[z2] at hP
   exact⟨R,_,_,rfl,⟨⟨hd',hd.2.1.t0 hc hd.2.2,hd.2.2⟩,hP,fun x hx=>⟨by have:=hR x hx; omega,fun hh=>by have:=hR x hx; have:=hlt x hh; omega⟩,z3,hk⟩,hc,hR⟩
theorem Bo(h:PS w0 w b kv r R n k key ds P V) :
  Ret Tryz.prog 26 #[.pointer (some ⟨R.pb,0,none⟩)] w fun v w'=>v = .int .i64 (dN P n)∧PS w0 w' b kv r R n k key ds P V∧Chg [] w w':=by
 refine(Room_ok w R b r kv ds key h.2.2.2.2 P h.2.1 h.1.1 h.small n h.many).mono ?_
 rintro v w' ⟨rfl,hh⟩
 exact⟨rfl,h.chg0 (Chg.heap hh),Chg.heap hh⟩
theorem PS.same{w':World}(h:PS w0 w b kv r R n k key ds P V)(hd:DiskAt w' b kv r ds)(hc:Chg (DF b kv r) w w'):PS w0 w' b kv r R n k key ds P V :=
 ⟨⟨hd,h.1.2.1.t0 hc h.1.2.2,h.1.2.2⟩,h.2.1.chg hc h.apart,h.2.2⟩
theorem xn{S:List Nat}(R:PR)(b:Nat)(kv:Value)(r:Nat){w w':World}(hc:Chg S w w')(hS:∀x∈S,x∈PF R):Chg (PF R++DF b kv r) w w':=hc.mono (fun x hx _=>List.mem_append_left _ (hS x hx))
theorem PS.step{w':World}{P':Pg}{k':Nat}{ds':DSt}{V':UInt32→List UInt8}(h:PS w0 w b kv r R n k key ds P V)(hd:DiskAt w' b kv r ds')(hP:PagerAt w' R b key P')(hI:PInv n k' key ds' P' V')(hc:Chg (PF R++DF b kv r) w w'):PS w0 w' b kv r R n k' key ds' P' V' :=
 ⟨⟨hd,h.1.2.1.t0 hc h.ge,h.1.2.2⟩,hP,h.2.2.1,hI,h.2.2.2.2⟩
theorem CB(h:PS w0 w b kv r R n k key ds P V)(i:Nat)(hi:i<n)(h0:∀j,j<i→P.free (UInt32.ofNat j)=false)(h1:P.free (UInt32.ofNat i)=true) :
  Ret Tryz.prog 149 #[.pointer (some ⟨R.pb,0,none⟩)] w fun v w'=>v = .tuple #[.int .u32 (UInt32.ofNat i).toNat,.int .i64 0]∧PS w0 w' b kv r R n k key ds { P with now:={ P.now with used:=cO P.now.used (UInt32.ofNat i) } } V∧Chg (PF R++DF b kv r) w w':=by
 have hn:=h.2.2.2.1.ok.size
 have hap:=h.apart
 refine(wD w R b r kv ds key h.2.2.2.2 P h.2.1 h.1.1 h.small n h.many).mono ?_
 rintro v w' ⟨⟨P',hA,hP⟩,hc⟩
 have hd:=h.1.1.chg hc (fun x hx hh=>by simp at hh; subst hh; exact hap R.u (by simp[PF]) hx)
 have hc2:=xn R b kv r hc (by simp[PF])
 rcases hA with⟨q,_⟩ | ⟨_,q,_⟩ | ⟨_,i',hi',q0,q1,rfl,rfl⟩
 ·rw[h.2.2.2.1.ok.broken] at q; cases q
 ·rw[q i hi] at h1; cases h1
 ·have:i'=i:=by
   rcases Nat.lt_trichotomy i' i with hh | hh | hh
   ·rw[h0 i' hh] at q1; cases q1
   ·exact hh
   ·rw[q0 i hh] at h1; cases h1
  subst this
  have hI:=h.2.2.2.1.alloc (UInt32.ofNat i') (by rw[UInt32.toNat_ofNat']; omega)
  exact⟨rfl,h.step hd hP hI hc2,hc2⟩
theorem xR(h:PS w0 w b kv r R n k key ds P V)(h0:∀j,j<n→P.free (UInt32.ofNat j)=false) :
  Ret Tryz.prog 149 #[.pointer (some ⟨R.pb,0,none⟩)] w fun v w'=>v = .tuple #[.int .u32 0,.int .i64 70]∧PS w0 w' b kv r R n k key ds P V∧Chg (PF R++DF b kv r) w w':=by
 have hap:=h.apart
 refine(wD w R b r kv ds key h.2.2.2.2 P h.2.1 h.1.1 h.small n h.many).mono ?_
 rintro v w' ⟨⟨P',hA,hP⟩,hc⟩
 have hd:=h.1.1.chg hc (fun x hx hh=>by simp at hh; subst hh; exact hap R.u (by simp[PF]) hx)
 have hc2:=xn R b kv r hc (by simp[PF])
 rcases hA with⟨q,_⟩ | ⟨_,q,rfl,rfl⟩ | ⟨_,i',hi',q0,q1,_⟩
 ·rw[h.2.2.2.1.ok.broken] at q; cases q
 ·exact⟨rfl,h.step hd hP h.2.2.2.1 hc2,hc2⟩
 ·rw[h0 i' hi'] at q1; cases q1
theorem zl(h:PS w0 w b kv r R n k key ds P V)(hk:k+1≤40000)(i:UInt32)(hi:P.fresh i=true)(lv:Value)(l:List UInt8)(hl:l.length≤480)(hb:SlE w lv l)(hbb:l≠[]→∀x∈ar lv,x∉PF R++DF b kv r) :
  Ret Tryz.prog 150 #[.pointer (some ⟨R.pb,0,none⟩),.int .u32 i.toNat,lv] w fun v w'=>v = .int .i64 0∧(∃ds',PS w0 w' b kv r R n (k+1) key ds' { P with count:=P.count+1,now:={ P.now with written:=cO P.now.written i },gens:=qq P.gens i P.gen } (rG V i l))∧Chg (PF R++DF b kv r) w w':=by
 have hst:=h.st
 have hin:=h.2.2.2.1.ok.used i (fresh_iff.1 hi).1
 have hsz:=h.2.2.2.1.ok.size
 obtain⟨e0,hI⟩:=h.2.2.2.1.write hk i hi l hl
 refine(Al w R b r kv lv ds key h.2.2.2.2 P h.2.1 h.1.1 h.2.2.2.1.ok.fine (by omega) h.apart i (by omega) l hb (fun hne x hx=>⟨fun hh=>hbb hne x hx (List.mem_append_left _ hh),fun hh=>hbb hne x hx (List.mem_append_right _ hh)⟩)).mono ?_
 rintro v w' ⟨⟨P',ds',hW,hP,hd⟩,hc⟩
 rcases hW with⟨q,_⟩ | ⟨_,q,_⟩ | ⟨_,_,q,_⟩ | ⟨_,_,_,rfl,rfl,rfl⟩
 ·rw[h.2.2.2.1.ok.broken] at q; cases q
 ·rw[hi] at q; cases q
 ·omega
 ·rw[if_pos e0] at hP
  exact⟨congrArg (Value.int .i64) e0,⟨_,h.step hd hP hI hc⟩,hc⟩
theorem Br(h:PS w0 w b kv r R n k key ds P V)(i:UInt32)(hi:P.now.written i=true) :
  Ret Tryz.prog 102 #[.pointer (some ⟨R.pb,0,none⟩),.int .u32 i.toNat] w fun v w'=>(∃rv,v = .tuple #[rv,.int .i64 0]∧Sl w' rv (V i))∧PS w0 w' b kv r R n k key ds P V∧Chg [] w w':=by
 have hu:=h.2.2.2.1.ok.written i hi
 obtain⟨e1,e2⟩:=h.2.2.2.1.ok.read hi
 refine(CF w R b r kv ds key h.2.2.2.2 P h.2.1 h.1.1 (fun _=>h.2.2.2.1.ok.offF) h.small i (fun q=>h.2.2.2.1.ok.inn q)).mono ?_
 rintro v w' ⟨hR,hc⟩
 rcases hR with⟨q,_⟩ | ⟨_,q,_⟩ | ⟨_,_,_,q,_⟩ | ⟨_,_,_,_,l,rv,q,rfl,hs⟩
 ·rw[h.2.2.2.1.ok.broken] at q; cases q
 ·rw[hu,hi] at q; rcases q with q | q <;> cases q
 ·rcases q with q | q
  ·exact absurd e1 q
  ·rw[e2] at q; cases q
 ·rw[e2] at q; cases q
  exact⟨⟨rv,rfl,hs⟩,h.chg0 hc,hc⟩
theorem Cf(h:PS w0 w b kv r R n k key ds P V)(i:UInt32)(hi:P.now.used i=true) :
  Ret Tryz.prog 128 #[.pointer (some ⟨R.pb,0,none⟩),.int .u32 i.toNat] w fun v w'=>v = .int .i64 0∧PS w0 w' b kv r R n k key ds { P with now:={ P.now with used:=ft P.now.used i,written:=ft P.now.written i } } V∧Chg (PF R++DF b kv r) w w':=by
 have hap:=h.apart
 refine(Free_ok w R b key h.2.2.2.2 P h.2.1 i).mono ?_
 rintro v w' ⟨⟨P',hA,hP⟩,hc⟩
 have hd:=h.1.1.chg hc (fun x hx hh=>by
  simp at hh
  rcases hh with rfl | rfl
  ·exact hap R.u (by simp[PF]) hx
  ·exact hap R.r (by simp[PF]) hx)
 have hc2:=xn R b kv r hc (by simp[PF])
 rcases hA with⟨q,_⟩ | ⟨_,q,_⟩ | ⟨_,_,rfl,rfl⟩
 ·rw[h.2.2.2.1.ok.broken] at q; cases q
 ·rw[hi] at q; cases q
 ·exact⟨rfl,h.step hd hP (h.2.2.2.1.free i) hc2,hc2⟩
end
end Go.Proofs.YtpbfapbajmdlkaaGreat

end
section
namespace Go.Proofs.YtpbfapbajmdlkaaGreat
open Go Go.Sac
set_option maxRecDepth 100000
set_option maxHeartbeats 4000000
theorem C1(s:Bs)(w:World):Ret Tryz.prog 151 #[str s] w fun v w'=>v = .bool (decide (jv s))∧w=w':=by
 refine enter [2] Tryz.func151 rfl rfl (Nat.le_of_ble_eq_true rfl) ?_
 refine zSR (za rfl (zNR (zm rfl (a6 rfl (jf rfl uU9) ?_))))
 by_cases h1:1≤s.length
 ·refine a6 rfl (bR (j5 rfl rfl) (congrArg Value.bool (decide_eq_true (by omega)))) ?_
  refine zm rfl (ag rfl (zm rfl (ag rfl (a6 rfl (jf rfl uU9) (ag rfl (a6 rfl (ml rfl rfl) (a6 rfl (aN rfl) (za rfl ?_))))))))
  refine a8 (a7 (zrf ?_))
  refine⟨congrArg Value.bool ?_,rfl⟩
  rw[decide_eq_decide]; unfold jv; omega
 ·refine a6 rfl (bR (j5 rfl rfl) (congrArg Value.bool (decide_eq_false (by omega)))) ?_
  refine zm rfl (ay rfl rfl (ay rfl rfl (ay rfl rfl (a6 rfl (aL rfl) (za rfl (a8 (a7 (zrf ?_))))))))
  refine⟨congrArg Value.bool (decide_eq_false ?_).symm,rfl⟩
  unfold jv; omega
theorem u5(s:Bs)(b:Bool)(h:decide (jv s)=b)(w:World):Ret Tryz.prog 151 #[str s] w fun v w'=>v = .bool b∧w=w':=by
 subst h; exact C1 s w
theorem BU{l:List Pr}{i:Nat}{a:Pr}(h:l[i]?=some a):bM (l.take (i+1))=bM (l.take i)+(a.1.length+a.2.length+4)∧bM (l.take (i+1))≤bM l:=by
 have hob1:=List.getElem?_eq_some_iff.1 h
 obtain⟨hi,rfl⟩:=hob1
 refine⟨lV hi,?_⟩
 have:=gi l (i+1)
 have h3:3≤bM (l.drop (i+1)):=by unfold bM; omega
 omega
theorem zc(w:World)(v:Value)(l:List Pr)(hs:Sl w v l)(hz:bM l≤100000) :
  Ret Tryz.prog 152 #[v] w fun r w'=>r = .int .i64 (bM l)∧Chg [] w w':=by
 have hll:=iA l
 have hob2:=hs.form rfl
 obtain⟨p,cp,rfl⟩:=hob2
 refine enter [2] Tryz.func152 rfl rfl (Nat.le_of_ble_eq_true rfl) ?_
 refine zSR (za rfl (zNR (za rfl (a8 (a7 (ae (zSR (zm rfl (a6 rfl (ax rfl cn) (zm rfl ?_))))))))))
 refine a8 (a7 (au (bn [3,6,7,8] (fun m vs w'=>∃i:Nat,vs=[.int .i64 (bM (l.take i)),.slice p l.length cp,.int .i64 l.length,.int .i64 i]∧i+m=l.length∧Chg [] w w') (l.length) ?_ ?_)))
 ·exact⟨0,rfl,by omega,Chg.refl _⟩
 ·rintro m vs J w1 ⟨i,rfl,hi,hc1⟩
  refine zSR (a6 rfl (bz rfl rfl) ?_)
  refine a8 (a7 (ae (aC rfl (fun hlt=>?_) (fun hlt=>?_))))
  ·refine aA (a7 (ae (au (ae (al ?_)))))
   have hob3:∃q,m=q+1:=⟨m-1,by omega⟩
   obtain⟨m,rfl⟩:=hob3
   have hob4:∃a,l[i]?=some a:=⟨_,List.getElem?_eq_getElem (by omega)⟩
   obtain⟨a,ha⟩:=hob4
   have hob5:=BU ha
   obtain⟨hz1,hz2⟩:=hob5
   have hs1:=hs.mod0 hc1
   refine bg rfl (bW (i) cn I49 rfl (hs1) rfl rfl (by first | rfl | omega) (by omega)) ?_
   rintro _ ⟨bi,oi,rfl,hei,hbi⟩
   refine a6 rfl (bX fZ rfl I49 rfl (hs1.at hei ha) rfl) ?_
   refine aS rfl (dn (l:=[str [],str []]) I49 rfl rfl) ?_
   rintro _ w2 ⟨b2,rfl,hn2,hB2,hc2,hl2⟩
   refine aH rfl (cz (l:=[str a.1,str a.2]) I49 rfl rfl hB2 rfl rfl (Nat.le_refl 2) (by simp[ei]) (cy rfl)) ?_
   rintro w3 ⟨hB3,hc3,hs3⟩
   refine a8 (a7 (ae (zSR (zm rfl (a6 rfl (di rfl rfl) ?_)))))
   refine a8 (a7 ?_)
   have hc13:=hc1.tr (hc2.t1 hc3 hn2)
   refine aF rfl (by omega) ?_
   refine aA (a7 (al (zm rfl (a6 rfl (aa fZ rfl I9 rfl rfl) ?_))))
   refine a6 rfl (az uU9 rfl rfl (hB3.c rfl)) ?_
   refine a6 rfl (jf rfl uU9) (a6 rfl (iG rfl rfl) (a6 rfl (aa fZ rfl I9 rfl rfl) ?_))
   refine a6 rfl (az uU9 rfl rfl (hB3.c rfl)) ?_
   refine a6 rfl (jf rfl uU9) (a6 rfl (iG rfl rfl) (a6 rfl (aD rfl rfl (by omega)) (a6 rfl (aD rfl rfl (by omega)) (a6 rfl (aD rfl rfl (by omega)) (za rfl ?_)))))
   refine a8 (aB (a7 (al (a6 rfl (aD rfl rfl (by omega)) (zm rfl ?_)))))
   refine a8 (a7 (Exists.intro (m) (And.intro (by omega) ?_)))
   refine⟨i+1,aw (bB ?_) (aw rfl (aw rfl (aw rfl bF))),by omega,hc13⟩
   omega
  ·refine aP (aq (aq (aE (a7 (zSR (zm rfl (a6 rfl (iG rfl rfl) (za rfl ?_))))))))
   refine a8 (a7 (zrf ?_))
   have hil:i=l.length:=by omega
   subst hil
   rw[List.take_length]
   exact⟨bB (by omega),hc1⟩
def LeafR(w:World)(l:List Pr)(r:Value)(w':World):Prop :=
 Chg [] w w'∧((¬eM l∧r = .tuple #[.slice none 0 0,.int .i64 90])∨(eM l∧480<bM l∧r = .tuple #[.slice none 0 0,.int .i64 11])∨(leafOk l∧∃bv,r = .tuple #[bv,.int .i64 0]∧Own w' bv (ni l)∧In bv [] w.heap.size))
theorem vj{l:List Pr}{i:Nat}{a:Pr}(ha:l[i]?=some a)(h:eM (l.take i))(hp:mU a)(hk:∀j b,j+1=i→l[j]?=some b→ltB b.1 a.1=true):eM (l.take (i+1)):=by
 have hob6:=List.getElem?_eq_some_iff.1 ha
 obtain⟨hi,rfl⟩:=hob6
 rw[←List.take_append_getElem hi]
 refine⟨fun q hq=>?_,zA h.2 (fun hl=>?_)⟩
 ·rcases List.mem_append.1 hq with hq | hq
  ·exact h.1 q hq
  ·rw[List.mem_singleton] at hq; subst hq; exact hp
 ·rw[List.length_take,Nat.min_eq_left (by omega)] at hl
  simp only[List.length_take,Nat.min_eq_left (Nat.le_of_lt hi),List.getElem_take]
  exact hk (i-1) _ (by omega) (List.getElem?_eq_getElem (by omega))
theorem uq(w:World)(v:Value)(l:List Pr)(hs:Sl w v l)(hl:l.length≤400) :
  Ret Tryz.prog 96 #[v] w (LeafR w l):=by
 have hob7:=hs.form rfl
 obtain⟨p,cp,rfl⟩:=hob7
 refine enter [2,3] Tryz.func96 rfl rfl (Nat.le_of_ble_eq_true rfl) ?_
 refine zSR (za rfl (za rfl (a8 (a7 (ae (zSR (zm rfl (a6 rfl (ax rfl cn) (zm rfl ?_)))))))))
 refine a8 (a7 (au (bn [0,9,10,11] (fun m vs w'=>∃i:Nat,vs=[.slice p l.length cp,.slice p l.length cp,.int .i64 l.length,.int .i64 i]∧i+m=l.length∧Chg [] w w'∧eM (l.take i)) (l.length) ?_ ?_)))
 ·exact⟨0,rfl,by omega,Chg.refl _,fun _ h=>by simp at h,List.Pairwise.nil⟩
 ·rintro m vs J w1 ⟨i,rfl,hi,hc1,hok⟩
  refine zSR (a6 rfl (bz rfl rfl) ?_)
  refine a8 (a7 (ae (aC rfl (fun hlt=>?_) (fun hlt=>?_))))
  ·refine aA (a7 (ae (au (zSR (zm rfl ?_)))))
   have hob8:∃q,m=q+1:=⟨m-1,by omega⟩
   obtain⟨m,rfl⟩:=hob8
   have hob9:∃a,l[i]?=some a:=⟨_,List.getElem?_eq_getElem (by omega)⟩
   obtain⟨a,ha⟩:=hob9
   have hmem:a∈l:=List.mem_of_getElem? ha
   have hs1:=hs.mod0 hc1
   refine bg rfl (bW (i) cn I49 rfl (hs1) rfl rfl (by first | rfl | omega) (by omega)) ?_
   rintro _ ⟨bi,oi,rfl,hei,hbi⟩
   refine a6 rfl (bX fZ rfl I49 rfl (hs1.at hei ha) rfl) ?_
   refine aS rfl (dn (l:=[str [],str []]) I49 rfl rfl) ?_
   rintro _ w2 ⟨b2,rfl,hn2,hB2,hc2,hl2⟩
   refine za rfl (aH rfl (cz (l:=[str a.1,str a.2]) I49 rfl rfl hB2 rfl rfl (Nat.le_refl 2) (by simp[ei]) (cy rfl)) ?_)
   rintro w3 ⟨hB3,hc3,hs3⟩
   refine a8 (a7 (ae ?_))
   have hc13:=hc1.tr (hc2.t1 hc3 hn2)
   have hs3:=hs.mod0 hc13
   by_cases hk:jv a.1
   ·refine aO bG (.pure 0 (.read 1 (.eff 2 [] (.pure 3 (.pure 4 (.pure 5 (.read 6 (.pure 7 (.pure 8 (.pure 9 (.pure 10 (.pure 11 (.pure 12 (.pure 13 (.pure 14 (.pure 15 (.pure 16 (.pure 17 (.pure 18 (.read 19 (.pure 20 (.read 21 (.pure 22 (.pure 23 (.pure 24 .nil))))))))))))))))))))))))) (by kernel_rfl) ?_
    refine aj rfl rfl rfl (fun _=>(aa fZ rfl I9 rfl rfl)) ?_
    refine aX rfl rfl rfl uU9 rfl rfl (hB3.c rfl) ?_
    refine aG rfl rfl rfl C151 (u5 a.1 true (decide_eq_true hk) _) ?_
    rintro _ _ ⟨rfl,rfl⟩
    refine⟨trivial,?_⟩
    refine aj rfl rfl rfl (fun _=>(cA rfl)) ?_
    refine ym rfl rfl rfl ?_
    refine aj rfl rfl rfl (fun _=>(aa fZ rfl I9 rfl rfl)) ?_
    refine aX rfl rfl rfl uU9 rfl rfl (hB3.c rfl) ?_
    refine aj rfl rfl rfl (fun _=>(jf rfl uU9)) ?_
    by_cases hv:a.2.length≤150
    ·refine aj rfl rfl rfl (fun _=>bR (di rfl rfl) (congrArg Value.bool (decide_eq_false (by omega)))) ?_
     refine aj rfl rfl rfl (fun _=>(aL rfl)) ?_
     refine ym rfl rfl rfl ?_
     refine ym rfl rfl rfl ?_
     by_cases hi0:i=0
     ·refine aj rfl rfl rfl (fun _=>bR (di rfl rfl) (congrArg Value.bool (decide_eq_false (by omega)))) ?_
      refine ym rfl rfl rfl ?_
      refine aZ rfl rfl rfl ?_
      refine aZ rfl rfl rfl ?_
      refine aZ rfl rfl rfl ?_
      refine aZ rfl rfl rfl ?_
      refine aZ rfl rfl rfl ?_
      refine dv rfl rfl rfl ?_
      refine aZ rfl rfl rfl ?_
      refine dv rfl rfl rfl ?_
      refine aZ rfl rfl rfl ?_
      refine aj rfl rfl rfl (fun _=>(aL rfl)) ?_
      refine aj rfl rfl rfl (fun _=>(aL rfl)) ?_
      refine aQ (a7 (aM (rfl) ?_))
      refine aA (aB (a7 (al (a6 rfl (aD rfl rfl (by omega)) (zm rfl ?_)))))
      refine a8 (a7 (Exists.intro (m) (And.intro (by omega) ?_)))
      exact⟨i+1,rfl,by omega,hc13.tr (drw _),vj ha hok ⟨hk,hv⟩ (fun j b hj=>by omega)⟩
     ·refine aj rfl rfl rfl (fun _=>bR (di rfl rfl) (congrArg Value.bool (decide_eq_true (by omega)))) ?_
      refine ym rfl rfl rfl ?_
      refine ym rfl rfl rfl ?_
      refine ym rfl rfl rfl ?_
      refine aj rfl rfl rfl (fun _=>(cj rfl rfl (by omega))) ?_
      have hob10:∃c,l[i-1]?=some c:=⟨_,List.getElem?_eq_getElem (by omega)⟩
      obtain⟨c,hc⟩:=hob10
      refine bA rfl rfl rfl (bW (i-1) cn I49 rfl (hs3) rfl rfl (by first | rfl | omega) (by omega)) ?_
      rintro _ ⟨bj,oj,rfl,hej,hbj⟩
      refine aj rfl rfl rfl (fun _=>(aa fZ rfl I9 rfl rfl)) ?_
      refine aX rfl rfl rfl uU9 rfl rfl (((hs3.at hej hc).c0 rfl:_=some (str c.1))) ?_
      refine aj rfl rfl rfl (fun _=>(aa fZ rfl I9 rfl rfl)) ?_
      refine aX rfl rfl rfl uU9 rfl rfl (hB3.c rfl) ?_
      refine aj rfl rfl rfl (fun _=>(pS rfl rfl)) ?_
      refine aj rfl rfl rfl (fun _=>(aN rfl)) ?_
      refine aj rfl rfl rfl (fun _=>(aL rfl)) ?_
      refine aQ (a7 (cI rfl (fun hlb=>?_) (fun hlb=>?_)))
      ·refine zSR (za rfl (za rfl (a8 (a7 (bQ (cG (bq (bq (cG (bq (fY ?_)))))))))))
       refine⟨hc13.tr (drw _),.inl ⟨fun h=>?_,rfl⟩⟩
       have hob11:=List.getElem?_eq_some_iff.1 hc
       obtain⟨q1,q2⟩:=hob11
       have hob12:=List.getElem?_eq_some_iff.1 ha
       obtain⟨q3,q4⟩:=hob12
       have:=List.pairwise_iff_getElem.1 h.2 (i-1) i q1 q3 (by omega)
       rw[q2,q4] at this
       rw[this] at hlb; cases hlb
      ·refine aA (aB (a7 (al (a6 rfl (aD rfl rfl (by omega)) (zm rfl ?_)))))
       refine a8 (a7 (Exists.intro (m) (And.intro (by omega) ?_)))
       refine⟨i+1,rfl,by omega,hc13.tr (drw _),vj ha hok ⟨hk,hv⟩ (fun j b hj hb=>?_)⟩
       have:j=i-1:=by omega
       subst this
       rw[hc] at hb; cases hb
       simpa using hlb
    ·refine aj rfl rfl rfl (fun _=>bR (di rfl rfl) (congrArg Value.bool (decide_eq_true (by omega)))) ?_
     refine aj rfl rfl rfl (fun _=>(aL rfl)) ?_
     refine ym rfl rfl rfl ?_
     refine aZ rfl rfl rfl ?_
     refine aZ rfl rfl rfl ?_
     refine aZ rfl rfl rfl ?_
     refine aZ rfl rfl rfl ?_
     refine aZ rfl rfl rfl ?_
     refine aZ rfl rfl rfl ?_
     refine aZ rfl rfl rfl ?_
     refine aZ rfl rfl rfl ?_
     refine dv rfl rfl rfl ?_
     refine aZ rfl rfl rfl ?_
     refine dv rfl rfl rfl ?_
     refine aZ rfl rfl rfl ?_
     refine aZ rfl rfl rfl ?_
     refine aj rfl rfl rfl (fun _=>(aN rfl)) ?_
     refine aQ (a7 (bf (rfl) ?_))
     refine zSR (za rfl (za rfl (a8 (a7 (bQ (cG (bq (bq (cG (bq (fY ?_)))))))))))
     exact⟨hc13.tr (drw _),.inl ⟨fun h=>hv (h.1 a hmem).2,rfl⟩⟩
   ·refine aO bG (.pure 0 (.read 1 (.eff 2 [] (.pure 3 (.pure 4 (.pure 5 (.read 6 (.pure 7 (.pure 8 (.pure 9 (.pure 10 (.pure 11 (.pure 12 (.pure 13 (.pure 14 (.pure 15 (.pure 16 (.pure 17 (.pure 18 (.read 19 (.pure 20 (.read 21 (.pure 22 (.pure 23 (.pure 24 .nil))))))))))))))))))))))))) (by kernel_rfl) ?_
    refine aj rfl rfl rfl (fun _=>(aa fZ rfl I9 rfl rfl)) ?_
    refine aX rfl rfl rfl uU9 rfl rfl (hB3.c rfl) ?_
    refine aG rfl rfl rfl C151 (u5 a.1 false (decide_eq_false hk) _) ?_
    rintro _ _ ⟨rfl,rfl⟩
    refine⟨trivial,?_⟩
    refine aj rfl rfl rfl (fun _=>(cA rfl)) ?_
    refine ym rfl rfl rfl ?_
    refine aZ rfl rfl rfl ?_
    refine dv rfl rfl rfl ?_
    refine aZ rfl rfl rfl ?_
    refine aZ rfl rfl rfl ?_
    refine aj rfl rfl rfl (fun _=>(aN rfl)) ?_
    refine ym rfl rfl rfl ?_
    refine aZ rfl rfl rfl ?_
    refine aZ rfl rfl rfl ?_
    refine aZ rfl rfl rfl ?_
    refine aZ rfl rfl rfl ?_
    refine aZ rfl rfl rfl ?_
    refine aZ rfl rfl rfl ?_
    refine aZ rfl rfl rfl ?_
    refine aZ rfl rfl rfl ?_
    refine dv rfl rfl rfl ?_
    refine aZ rfl rfl rfl ?_
    refine dv rfl rfl rfl ?_
    refine aZ rfl rfl rfl ?_
    refine aZ rfl rfl rfl ?_
    refine aj rfl rfl rfl (fun _=>(aN rfl)) ?_
    refine aQ (a7 (bf (rfl) ?_))
    refine zSR (za rfl (za rfl (a8 (a7 (bQ (cG (bq (bq (cG (bq (fY ?_)))))))))))
    exact⟨hc13.tr (drw _),.inl ⟨fun h=>hk (h.1 a hmem).1,rfl⟩⟩
  ·refine aP (aq (aq (aE (a7 (ae (zSR (zm rfl ?_)))))))
   have hil:i=l.length:=by omega
   subst hil
   rw[List.take_length] at hok
   have hz1:=(nh l hok.1).1
   refine ah rfl C152 (zc w1 _ l (hs.mod0 hc1) (by omega)) ?_
   rintro _ w2 ⟨rfl,hc2⟩
   refine a6 rfl (di rfl rfl) ?_
   refine a8 (a7 ?_)
   have hc12:=hc1.tr hc2
   refine aC rfl (fun hz=>?_) (fun hz=>?_)
   ·refine zSR (za rfl (za rfl (a8 (a7 (zrt ?_)))))
    exact⟨hc12,.inr (.inl ⟨hok,by omega,rfl⟩)⟩
   ·refine zKR (aS rfl (mz [.int .u8 1] [(1:UInt8)] aR I5 rfl rfl rfl rfl rfl rfl (by decide) (by decide)) ?_)
    rintro _ w3 ⟨⟨b3,o3,c3,rfl⟩,ho3,hc3,hi3⟩
    refine zm rfl (a6 rfl (ax rfl cn) (a6 rfl (cP rfl uU3 dV) ?_))
    have hu:(cW ((l.length:Nat):Int)).toNat=l.length:=by rw[dX,UInt64.toNat_ofNat']; omega
    refine ah rfl lp (fP _ _ (cW ((l.length:Nat):Int)) 2 w3 ho3 (by decide) (by decide)) ?_
    rintro v4 w4 ⟨ho4,hc4,hi4⟩
    refine za rfl (a8 (a7 (ae (zSR (zm rfl (a6 rfl (ax rfl cn) (zm rfl ?_)))))))
    refine a8 (a7 (au ?_))
    rw[hu] at ho4
    have hc14:Chg [] w w4:=(hc12.tr hc3).t0 hc4 (fun x hx=>by have:=hi3.ge x hx; have:=hc12.1; omega)
    have hi4':In v4 [] w.heap.size:=hi4.mono (fun x hx => .inr (by have:=hi3.ge x hx; have:=hc12.1; omega)) (by have:=hc12.1; have:=hc3.1; omega)
    have hle:leafOk l:=⟨hok,by omega⟩
    refine bn [6,50,51,52] (fun m vs w'=>∃(i:Nat) (bv:Value),vs=[bv,.slice p l.length cp,.int .i64 l.length,.int .i64 i]∧i+m=l.length∧Chg [] w w'∧Own w' bv ((1:UInt8)::(be 2 l.length++(l.take i).flatMap prB))∧In bv [] w.heap.size) (l.length) ?_ ?_
    ·exact⟨0,v4,rfl,by omega,hc14,by simpa using ho4,hi4'⟩
    ·rintro m vs J w5 ⟨i,bv,rfl,hi,hc5,ho5,hi5⟩
     refine zSR (a6 rfl (bz rfl rfl) ?_)
     refine a8 (a7 (ae ?_))
     have hs5:=hs.mod0 hc5
     refine aC rfl (fun hlt=>?_) (fun hlt=>?_)
     ·refine aA (a7 (ae (au (ae (al ?_)))))
      have hob13:∃q,m=q+1:=⟨m-1,by omega⟩
      obtain⟨m,rfl⟩:=hob13
      have hob14:∃a,l[i]?=some a:=⟨_,List.getElem?_eq_getElem (by omega)⟩
      obtain⟨a,ha⟩:=hob14
      have hpa:=hok.1 a (List.mem_of_getElem? ha)
      refine bg rfl (bW (i) cn I49 rfl (hs5) rfl rfl (by first | rfl | omega) (by omega)) ?_
      rintro _ ⟨bi,oi,rfl,hei,hbi⟩
      refine a6 rfl (bX fZ rfl I49 rfl (hs5.at hei ha) rfl) ?_
      refine aS rfl (dn (l:=[str [],str []]) I49 rfl rfl) ?_
      rintro _ w6 ⟨b6,rfl,hn6,hB6,hc6,hl6⟩
      refine aH rfl (cz (l:=[str a.1,str a.2]) I49 rfl rfl hB6 rfl rfl (Nat.le_refl 2) (by simp[ei]) (cy rfl)) ?_
      rintro w7 ⟨hB7,hc7,hs7⟩
      refine a8 (a7 ?_)
      have hc57:=hc6.t1 hc7 hn6
      have ho7:=ho5.mod0 hc57
      have hb7:b6∉ar bv:=fun h=>by have:=ho5.sl.lt b6 h; omega
      have hlen:((1:UInt8)::(be 2 l.length++(l.take i).flatMap prB)).length≤480:=by
       have h1:=gi l i
       have h2:=jM (l.take i)
       have h3:3≤bM (l.drop i):=by unfold bM; omega
       unfold ni at h2
       rw[List.length_cons,List.length_append,aI] at h2 ⊢
       omega
      refine aO bG (.pure 0 (.pure 1 (.read 2 (.pure 4 (.read 5 (.eff 3 [5] (.eff 6 [] (.pure 7 .nil)))))))) (by kernel_rfl) ?_
      refine ym rfl rfl rfl ?_
      refine aj rfl rfl rfl (fun _=>(aa fZ rfl I9 rfl rfl)) ?_
      refine aX rfl rfl rfl uU9 rfl rfl (hB7.c rfl) ?_
      refine aj rfl rfl rfl (fun _=>(aa fZ rfl I9 rfl rfl)) ?_
      refine aX rfl rfl rfl uU9 rfl rfl (hB7.c rfl) ?_
      refine aG rfl rfl rfl C126 (pL _ bv _ a.1 ho7 (by omega) (by omega)) ?_
      rintro v8 w8 ⟨ho8,hc8,hi8⟩
      have hc8:Chg (ar bv) w7 w8:=hc8
      have hi8:In v8 (ar bv) w7.heap.size:=hi8
      have hB8:=hB7.chg hc8 hb7
      refine⟨⟨hB8.c rfl,trivial⟩,?_⟩
      refine aG rfl rfl rfl C126 (pL _ v8 _ a.2 ho8 (by rw[List.length_append,List.length_append,aI]; omega) (by omega)) ?_
      rintro v9 w9 ⟨ho9,hc9,hi9⟩
      refine⟨trivial,?_⟩
      refine ya rfl rfl rfl ?_
      refine aQ (aB (a7 (al (a6 rfl (aD rfl rfl (by omega)) (zm rfl ?_)))))
      refine a8 (a7 ?_)
      have k57:=hc57.1
      have k5:=hc5.1
      have k8:=hc8.1
      have hin8:∀x∈ar v8,w.heap.size≤x:=fun x hx=>(hi8 x hx).elim (fun h=>hi5.ge x h) (fun h=>by omega)
      have hc59:Chg [] w w9:=((hc5.tr hc57).t0 hc8 (fun x hx=>hi5.ge x hx)).t0 hc9 hin8
      refine Exists.intro (m) (And.intro (by omega) ?_)
      refine⟨i+1,v9,rfl,by omega,hc59,?_,fun x hx => .inr ((hi9 x hx).elim (hin8 x) (fun h=>by omega))⟩
      have hob15:=List.getElem?_eq_some_iff.1 ha
      obtain⟨hil,rfl⟩:=hob15
      rw[←List.take_append_getElem hil,List.flatMap_append]
      simpa [prB,txt] using ho9
     ·refine aP (aq (aq (aE (a7 (zSR (zm rfl (za rfl (za rfl (a8 (a7 (zrf ?_)))))))))))
      have hil:i=l.length:=by omega
      subst hil
      rw[List.take_length] at ho5
      exact⟨hc5,.inr (.inr ⟨hle,bv,rfl,ho5,hi5⟩)⟩
end Go.Proofs.YtpbfapbajmdlkaaGreat

end
