/- Batch upon batch over the same keys: never a page more than there must be, on a small disk, too. It holds for every input; there are no conditions. -/
import Derived.Test.YtpbfapbajmdlkaaGreatQ3
import Derived.Test.YtpbfapbajmdlkaaGreatSac1
import Derived.Test.YtpbfapbajmdlkaaGreatSac2
import Derived.RangeFuncGives
import Derived.Maps.AppendAt
import Derived.Sort.MapsRangeIn
import Derived.WalkKit
import Derived.OwnWalkIn
import Derived.TacticsInMore
import Derived.RegionIn
import Derived.LoopNIn
import Derived.LoopIn
namespace Go.Proofs.YtpbfapbajmdlkaaGreat
open Go Go.Sac
set_option maxRecDepth 100000
set_option maxHeartbeats 4000000
def blN(n:Nat):Nat:=if n=0 then 0 else Nat.log2 n+1
theorem Hx(n:Nat):n<2 ^ blN n:=by
 unfold blN
 split
 ·subst_vars;decide
 ·exact Nat.lt_log2_self
theorem Hy{n:Nat}(h:n≠0):2 ^ blN n<=2*n:=by
 unfold blN;rw[if_neg h,Nat.pow_succ]
 have:=Nat.log2_self_le h
 omega
theorem blN_8{n:Nat}(h:n<256):blN n<=8:=by
 unfold blN
 split
 ·decide
 ·rename_i h0
  have:=(Nat.log2_lt h0 (k:=8)).2 (by omega)
  omega
def E3:List UInt8:=(List.range 256).map fun i=>UInt8.ofNat (blN i)
theorem B7{i:Nat}(h:i<256):E3[i]?=some (UInt8.ofNat (blN i)):=by
 unfold E3;rw[mh,List.getElem?_range h];rfl
theorem Fw(x:UInt64)(w:World)(h0:x.toNat≠0)(hx:x.toNat<65536) :
  Ret Tryz.prog 188 #[.int .u64 x.toNat] w fun v w'=>(∃k:Nat,v=.int .i64 k/\k<=16/\x.toNat<2 ^ k/\2 ^ k<=2*x.toNat)/\w'=w:=by
 have hge:∀b:UInt64,x.toNat<b.toNat->¬x≥b:=fun b hb h=>by
  have:=UInt64.le_iff_toNat_le.1 h
  omega
 refine enter [2] Tryz.func188 rfl rfl (al rfl) (zSR (za rfl (a8 (a6 (ae (zSR (zmv rfl (lP (b:=4294967296) rfl rfl) ?_)))))));refine a8 (a6 (aI rfl (hge _ (hU hx (by decide))) ?_));refine aw (a6 (ae (zSR (zmv rfl (lP (b:=65536) rfl rfl) ?_))));refine a8 (a6 (aI rfl (hge _ (hU hx (by decide))) ?_));refine aw (a6 (ae (zSR (zmv rfl (lP (b:=256) rfl rfl) ?_))));refine a8 (a6 (az rfl (fun h8=>?_) (fun h8=>?_)))
 ·refine zSR (zmv rfl (nC rfl rfl (s:=8) rfl) (za rfl ?_));refine a8 (a6 (ag (zmv rfl (aB rfl rfl (by omega)) (za rfl ?_))));refine zNR (zmm rfl (a7 rfl (fI rfl eo uU5) ?_));have h8:256<=x.toNat:=UInt64.le_iff_toNat_le.1 h8;have hsh:(pe x 8).toNat=x.toNat / 256:=by
   unfold pe;rw[ea,yB]
   have:x.toNat / 2 ^ 8<=x.toNat:=Nat.div_le_self _ _
   omega
  have h8n:(oQ ((pe x 8).toNat:Int)).toNat=x.toNat / 256:=by
   rw[qS,j7,hsh];omega
  have hb8:=blN_8 (show x.toNat / 256<256 by omega);have q1:=Hx (x.toNat / 256);have q2:=Hy (show x.toNat / 256≠0 by omega);have q3:2 ^ (8+blN (x.toNat / 256))=256*2 ^ blN (x.toNat / 256):=by rw[Nat.pow_add]
  have hbn:(UInt8.ofNat (blN (x.toNat / 256))).toNat=blN (x.toNat / 256):=by rw[j7];omega
  refine a7 rfl (mG (l:=E3) uU9 (by kernel_rfl) rfl (uw _) (by rw[j8,h8n];exact B7 (by omega))) ?_;refine a7 rfl (fz rfl uU5 uU3 (by omega)) (a7 rfl (aB rfl rfl (by omega)) (za rfl ?_));refine a8 (a6 (zrf ?_));exact⟨⟨8+blN (x.toNat / 256),by show Value.int .i64 ((8:Int)+((UInt8.ofNat (blN (x.toNat / 256))).toNat:Int))=_;rw[hbn];rfl,by omega,by omega,by omega⟩,rfl⟩
 ·refine zKR (zmm rfl (a7 rfl (fI rfl eo uU5) ?_));have h8:x.toNat<256:=Nat.lt_of_not_le (fun h=>h8 (UInt64.le_iff_toNat_le.2 h));have h8n:(oQ (x.toNat:Int)).toNat=x.toNat:=by
   rw[qS,j7];omega
  have hb8:=blN_8 h8;have hbn:(UInt8.ofNat (blN x.toNat)).toNat=blN x.toNat:=by rw[j7];omega
  refine a7 rfl (mG (l:=E3) uU9 (by kernel_rfl) rfl (uw _) (by rw[j8,h8n];exact B7 h8)) ?_;refine a7 rfl (fz rfl uU5 uU3 (by omega)) (a7 rfl (aB rfl rfl (by omega)) (za rfl ?_));refine a8 (a6 (zrf ?_));exact⟨⟨blN x.toNat,by show Value.int .i64 ((0:Int)+((UInt8.ofNat (blN x.toNat)).toNat:Int))=_;rw[hbn,Int.zero_add],by omega,Hx _,Hy h0⟩,rfl⟩
theorem Bi(x:UInt64)(w:World)(h0:x.toNat≠0)(hx:x.toNat<65536) :
  Ret Tryz.prog 132 #[.int .u64 x.toNat] w fun v w'=>(∃k:Nat,v=.int .i64 k/\k<=16/\x.toNat<2 ^ k/\2 ^ k<=2*x.toNat)/\w'=w:=by
 refine enter [2] Tryz.func132 rfl rfl (al rfl) (zSR (za rfl (a8 (a6 (ae (aK (rfl) (zKR (zm rfl (ah rfl C188 (Fw x w h0 hx) ?_)))))))));rintro _ w1 ⟨⟨k,rfl,hk⟩,rfl⟩;refine za rfl (a8 (a6 (zrf ?_)));exact⟨⟨k,rfl,hk⟩,rfl⟩
theorem H0(m:Nat)(w:World)(h0:1<=m)(hm:m<=1000) :
  Ret Tryz.prog 227 #[.int .i64 m] w fun v w'=>(∃y:UInt64,v=.int .u64 y.toNat/\1<=y.toNat/\y.toNat<=2*m)/\w'=w:=by
 have h64:(dh (m:Int)).toNat=m:=by rw[dN,mj (show m<18446744073709551616 by omega)]
 refine enter [2] Tryz.func227 rfl rfl (al rfl) (zSR (a7 rfl (gB (v:=.int .u64 ((0:UInt64).toNat:Nat)) rfl) ?_));refine zNR (zmv rfl (cX rfl uU3 oZ) (ah rfl C132 (Bi (dh m) _ (by omega) (by omega)) ?_));rintro _ w1 ⟨⟨k,rfl,hk,hk1,hk2⟩,rfl⟩;have hp:2 ^ k<=65536:=mz (by decide) hk;have hpn:(UInt64.ofNat (2 ^ k)).toNat=2 ^ k:=by rw[ea];omega
 have hsh:Value.int .u64 (IntKind.u64.wrap ((1:Int)*2 ^ (min ((k:Int).toNat) 64)))=Value.int .u64 ((UInt64.ofNat (2 ^ k)).toNat:Int):=by
  have e:(2:Int) ^ k=((2 ^ k:Nat):Int):=(Int.natCast_pow 2 k).symm;rw[hpn,j8,dR (by omega),Int.one_mul,jd,e];congr 1;omega
 have hp1:1<=2 ^ k:=Nat.one_le_two_pow;refine a7 rfl (bJ (Dc rfl rfl (uw _)) hsh) ?_;refine za rfl (a8 (a6 (zrf ?_)));exact⟨⟨UInt64.ofNat (2 ^ k),rfl,by omega,by omega⟩,rfl⟩
theorem Next_ok(rb:Nat)(x:UInt64)(w:World)(hB:Blk w rb [.int .u64 x.toNat]) :
  Ret Tryz.prog 228 #[.pointer (some ⟨rb,0,none⟩)] w fun v w'=>∃y:UInt64,v=.int .u64 y.toNat/\Blk w' rb [.int .u64 y.toNat]/\Chg [rb] w w':=by
 refine enter [2] Tryz.func228 rfl rfl (al rfl) (zSR (a7 rfl (gB (v:=.int .u64 ((0:UInt64).toNat:Nat)) rfl) ?_));refine a8 (a6 (ae (aG bz (.pure 0 (.pure 1 (.read 2 (.pure 3 (.pure 4 (.read 5 (.pure 6 (.pure 7 (.pure 8 (.eff 9 [] .nil)))))))))) (by kernel_rfl) ?_)));refine ym rfl (yn rfl (aH rfl rfl rfl tc rfl rfl (hB.c rfl) (ym rfl (yn rfl (aH rfl rfl rfl tc rfl rfl (hB.c rfl) (yp rfl (fun _=>(qC rfl rfl (s:=13) rfl)) ?_))))));refine yp rfl (fun _=>(uy rfl rfl)) ?_;refine yn rfl (dr rfl (bG HQ rfl rfl ((hB.chg0 (drw _))) rfl rfl ((by decide:0<1)) rfl (rfl)) ?_);rintro w1 ⟨hB1,hc1,hs1⟩;refine⟨trivial,?_⟩;refine aJ (a6 (ae (aG bz (.pure 0 (.pure 1 (.read 2 (.pure 3 (.pure 4 (.read 5 (.pure 6 (.pure 7 (.pure 8 (.eff 9 [] .nil)))))))))) (by kernel_rfl) ?_)));refine ym rfl (yn rfl (aH rfl rfl rfl tc rfl rfl (hB1.c rfl) (ym rfl (yn rfl (aH rfl rfl rfl tc rfl rfl (hB1.c rfl) (yp rfl (fun _=>(nC rfl rfl (s:=7) rfl)) ?_))))));refine yp rfl (fun _=>(uy rfl rfl)) ?_;refine yn rfl (dr rfl (bG HQ rfl rfl ((hB1.chg0 (drw _))) rfl rfl ((by decide:0<1)) rfl (rfl)) ?_);rintro w2 ⟨hB2,hc2,hs2⟩;refine⟨trivial,?_⟩;refine aJ (a6 (ae (aG bz (.pure 0 (.pure 1 (.read 2 (.pure 3 (.pure 4 (.read 5 (.pure 6 (.pure 7 (.pure 8 (.eff 9 [] .nil)))))))))) (by kernel_rfl) ?_)));refine ym rfl (yn rfl (aH rfl rfl rfl tc rfl rfl (hB2.c rfl) (ym rfl (yn rfl (aH rfl rfl rfl tc rfl rfl (hB2.c rfl) (yp rfl (fun _=>(qC rfl rfl (s:=17) rfl)) ?_))))));refine yp rfl (fun _=>(uy rfl rfl)) ?_;refine yn rfl (dr rfl (bG HQ rfl rfl ((hB2.chg0 (drw _))) rfl rfl ((by decide:0<1)) rfl (rfl)) ?_);rintro w3 ⟨hB3,hc3,hs3⟩;refine⟨trivial,?_⟩;refine zPR (zm rfl (zn rfl rfl (a7 rfl (aC tc rfl rfl (hB3.c rfl)) (za rfl (a8 (a6 (zrf ?_)))))));exact⟨_,rfl,hB3,(((drw w).tr0' hc1).tr ((drw w1).tr0' hc2)).tr ((drw w2).tr0' hc3)⟩
theorem BJ(l:List Bs)(i j:Nat)(hi:i<l.length)(hj:j<l.length):((l.set i (l.getD j [])).set j (l.getD i [])).Perm l:=by
 have e1:l.getD j []=l[j]:=by simp[List.getD_eq_getElem?_getD,hj]
 have e2:l.getD i []=l[i]:=by simp[List.getD_eq_getElem?_getD,hi]
 rw[e1,e2];exact List.set_set_perm hi hj
def SPs(v:Value)(l0:List Bs)(w0 w:World):Prop:=∃l,Own w v l/\l.Perm l0/\Chg (ax v) w0 w
theorem SPs.chg0{v:Value}{l0:List Bs}{w0 w w':World}(h:SPs v l0 w0 w)(hc:Chg [] w w'):SPs v l0 w0 w':=by
 obtain⟨l,h1,h2,h3⟩:=h;exact⟨l,h1.mod0 hc,h2,h3.tr0 hc⟩
theorem ET(x:Bs)(w:World) :
  Ret Tryz.prog 208 #[str x] w fun v w'=>v=.bool false/\w'=w:=by
 refine enter [2] Tryz.func208 rfl rfl (al rfl) (zSR (za rfl (zNR (zmm rfl (a7 rfl (uA rfl rfl) (za rfl (a8 (a6 (zrf ?_)))))))));have hx:(decide (x≠x))=false:=by simp
 refine⟨?_,rfl⟩;show Value.bool (decide (x≠x))=_;rw[hx]
theorem HL(x y:Bs)(w:World) :
  Ret Tryz.prog 165 #[str x,str y] w fun v w'=>(∃b:Bool,v=.bool b)/\w'=w:=by
 refine enter [4] Tryz.func165 rfl rfl (al rfl) (zSR (za rfl (zNR (zm rfl (ah rfl C208 (ET x w) ?_)))));rintro _ w1 ⟨rfl,rfl⟩;refine zm rfl (aD rfl rfl (aD rfl rfl (aD rfl rfl (a7 rfl (aN rfl) (zm rfl (aj rfl (zm rfl (aj rfl (zm rfl (aj rfl (a7 rfl (yG rfl rfl) (a7 rfl (aN rfl) (za rfl (a8 (a6 (zrf ?_))))))))))))))));exact⟨⟨_,rfl⟩,rfl⟩
theorem insS_ok{pv:Option Addr}{n cv:Nat}{l0:List Bs}{w0 w:World}(h:SPs (.slice pv n cv) l0 w0 w)(hn:l0.length=n)(hm:n<=1000) :
  Ret Tryz.prog 179 #[.slice pv n cv,.int .i64 0,.int .i64 n] w fun _ w'=>SPs (.slice pv n cv) l0 w0 w':=by
 refine enter [] Tryz.func179 rfl rfl (al rfl) (zSR (zmv rfl (aB rfl rfl (by omega)) (za rfl ?_)));refine a8 (a6 (aq (bf [0,1,2,6] (fun q vs w'=>∃i:Nat,vs=[.slice pv n cv,.int .i64 0,.int .i64 n,.int .i64 i]/\i+q=n+3/\1<=i/\SPs (.slice pv n cv) l0 w0 w') (n+2) ?_ ?_)))
 ·exact⟨1,rfl,by omega,aM _,h⟩
 ·rintro q vs J w1 ⟨i,rfl,hi,hai,h1⟩;refine ae (zSR (zmm rfl (a7 rfl (bL rfl rfl) ?_)));refine a8 (a6 (az rfl (fun hlt=>?_) (fun hlt=>?_)))
  ·refine aw (a6 (ae (aq (zSR (zma rfl (a8 (a6 (aq ?_))))))));have hob1:∃z,q=z+1:=⟨q-1,by omega⟩
   obtain⟨q,rfl⟩:=hob1;refine bf [0,1,2,6,7] (fun j vs w'=>vs=[.slice pv n cv,.int .i64 0,.int .i64 n,.int .i64 i,.int .i64 j]/\j<=i/\SPs (.slice pv n cv) l0 w0 w') (i) ?_ ?_
   ·exact⟨rfl,aM _,h1⟩
   ·rintro j vs2 J2 w2 ⟨rfl,hji,h2⟩;refine ae (ae ?_);obtain⟨l140,ho140,hp140,hk140⟩:=id h2;have hl140:l140.length=n:=hp140.length_eq.trans hn;refine aG bz (.pure 0 (.pure 1 (.pure 2 (.pure 3 (.pure 4 (.pure 5 (.pure 6 (.read 7 (.pure 8 (.pure 9 (.pure 10 (.pure 11 (.read 12 (.eff 13 [] (.pure 14 .nil))))))))))))))) (by kernel_rfl) ?_;refine ym rfl (ym rfl ?_);by_cases hj:0<j
    ·refine yp rfl (fun _=>bJ (dt rfl rfl) (congrArg Value.bool (decide_eq_true ((by omega))))) ?_;refine ym rfl (ym rfl (ym rfl (yex rfl (aU (j) cL I9 rfl (ho140.sl) rfl rfl (by first|rfl|omega) (by omega)) ?_)));rintro _ ⟨b141,o141,rfl,he141,hb141⟩;refine aH rfl rfl rfl uU9 rfl rfl ((ho140.sl.at he141 (getD_some (d:=[]) (by omega))).c0 rfl) ?_;refine ym rfl (ym rfl (yp rfl (fun _=>(bg rfl rfl (by omega))) ?_));refine yex rfl (aU (j-1) cL I9 rfl (ho140.sl) rfl rfl (by first|rfl|omega) (by omega)) ?_;rintro _ ⟨b142,o142,rfl,he142,hb142⟩;refine aH rfl rfl rfl uU9 rfl rfl ((ho140.sl.at he142 (getD_some (d:=[]) (by omega))).c0 rfl) ?_;refine ycl rfl C165 (HL (l140.getD j []) (l140.getD (j-1) []) _) ?_;rintro _ w3 ⟨⟨lb,rfl⟩,hw3⟩;refine⟨trivial,?_⟩;refine yp rfl (fun _=>(aQ rfl)) ?_;refine aJ (a6 ?_);have hc3:Chg [] w2 w3:=by rw[hw3];exact Chg.heap rfl
     have h3:=h2.chg0 hc3;refine bU rfl (fun hless=>?_) (fun hless=>?_)
     ·refine aw (a6 (ae (aq ?_)));have hob2:∃q,j=q+1:=⟨j-1,by omega⟩
      obtain⟨j,rfl⟩:=hob2;obtain⟨l143,ho143,hp143,hk143⟩:=id h3;have hl143:l143.length=n:=hp143.length_eq.trans hn;refine aG bz (.pure 0 (.pure 1 (.pure 2 (.pure 3 (.pure 4 (.pure 5 (.pure 6 (.pure 7 (.pure 8 (.read 9 (.pure 10 (.pure 11 (.pure 12 (.read 13 (.pure 14 (.eff 15 [] (.pure 16 (.eff 17 [] .nil)))))))))))))))))) (by kernel_rfl) ?_;refine ym rfl (ym rfl (ym rfl (ym rfl (yp rfl (fun _=>(bg rfl rfl (by omega))) ?_))));refine ym rfl (ym rfl (yp rfl (fun _=>(bg rfl rfl (by omega))) ?_));refine yex rfl (aU (j) cL I9 rfl (ho143.sl) rfl rfl (by first|rfl|omega) (by omega)) ?_;rintro _ ⟨b144,o144,rfl,he144,hb144⟩;refine aH rfl rfl rfl uU9 rfl rfl ((ho143.sl.at he144 (getD_some (d:=[]) (by omega))).c0 rfl) ?_;refine ym rfl (ym rfl (yex rfl (aU (j+1) cL I9 rfl (ho143.sl) rfl rfl (by first|rfl|omega) (by omega)) ?_));rintro _ ⟨b145,o145,rfl,he145,hb145⟩;refine aH rfl rfl rfl uU9 rfl rfl ((ho143.sl.at he145 (getD_some (d:=[]) (by omega))).c0 rfl) ?_;refine yex rfl (aU (j+1) cL I9 rfl (ho143.sl) rfl rfl (by first|rfl|omega) (by omega)) ?_;rintro _ ⟨b6,o6,rfl,he6,hb6⟩;refine dr rfl (bR (a:=l143.getD j []) I9 rfl (ho143.mod0 (drw _)) rfl (he6) rfl rfl (by omega)) ?_;rintro w7 ⟨ho7,hc7,hs7⟩;refine⟨trivial,?_⟩;refine yex rfl (aU (j) cL I9 rfl (ho7.sl) rfl rfl (by first|rfl|omega) (by simp;omega)) ?_;rintro _ ⟨b8,o8,rfl,he8,hb8⟩;refine dr rfl (bR (a:=l143.getD (j+1) []) I9 rfl (ho7) rfl (he8) rfl rfl (by simp;omega)) ?_;rintro w9 ⟨ho9,hc9,hs9⟩;refine⟨trivial,?_⟩;refine aJ (ay (a6 (ag (zmv rfl (bg rfl rfl (by omega)) (za rfl ?_)))));refine a8 (a6 ?_);have h9:SPs (.slice pv n cv) l0 w0 w9:=⟨_,ho9,(BJ l143 (j+1) j (by omega) (by omega)).trans hp143,((hk143.tr0 (drw _)).tr hc7).tr hc9⟩
      refine aS (j) (bx (by omega) ?_);exact⟨(au rfl (au rfl (au rfl (au rfl (au (bH (by omega)) bK))))),by omega,h9⟩
     ·refine aO (an (an (aE (ay (a6 (ag (zmv rfl (aB rfl rfl (by omega)) (za rfl ?_))))))));refine a8 (a6 ?_);have hZ:=h3;refine aS (q) (bx (by omega) ?_);exact⟨i+1,rfl,by omega,by omega,hZ⟩
    ·refine yp rfl (fun _=>bJ (dt rfl rfl) (congrArg Value.bool (decide_eq_false ((by omega))))) ?_;refine ym rfl (yno rfl (yno rfl (yno rfl (cg rfl rfl rfl (yno rfl (yno rfl (yno rfl (yno rfl (cg rfl rfl rfl (iI rfl rfl rfl (yp rfl (fun _=>(aN rfl)) ?_)))))))))));refine aJ (a6 (aK (rfl) (aO (an (an (aE (ay (a6 (ag (zmv rfl (aB rfl rfl (by omega)) (za rfl ?_)))))))))));refine a8 (a6 ?_);have hZ:=h2.chg0 (drw _);refine aS (q) (bx (by omega) ?_);exact⟨i+1,rfl,by omega,by omega,hZ⟩
  ·refine aO (an (an (aE (g0 ?_))));exact h1
theorem pdqS_ok{pv:Option Addr}{n cv:Nat}{l0:List Bs}{w:World}(lim:Int)(ho:Own w (.slice pv n cv) l0)(hn:l0.length=n)(hm:n<=12) :
  Ret Tryz.prog 131 #[.slice pv n cv,.int .i64 0,.int .i64 n,.int .i64 lim] w fun _ w'=>SPs (.slice pv n cv) l0 w w':=by
 refine enter [] Tryz.func131 rfl rfl (al rfl) (zSR (za rfl (zNR (za rfl (a8 (a6 (aq (bf [0,1,2,3,8,9] (fun q vs w'=>vs=[.slice pv n cv,.int .i64 0,.int .i64 n,.int .i64 lim,.bool true,.bool true]/\w'=w) (0) ?_ ?_))))))))
 ·exact⟨rfl,rfl⟩
 ·rintro q vs J w1 ⟨rfl,rfl⟩;refine aq (zSR (zmm rfl (a7 rfl (bg rfl rfl (by omega)) (za rfl ?_))));refine a8 (a6 (ae (zSR (zmv rfl (gd rfl rfl) (a8 (a6 (bM rfl (by omega) ?_)))))));refine zSR (zmm rfl (zm rfl (ah rfl C179 (insS_ok ⟨l0,ho,.refl _,Chg.refl' _ _⟩ hn (by omega)) ?_)));rintro _ w2 h2;refine a8 (a6 (bC (aR (aZ (aR (aZ (dj ?_)))))));exact h2
theorem HF{v:Value}{l0:List Bs}{w:World}(ho:Own w v l0)(hm:l0.length<=12) :
  Ret Tryz.prog 78 #[v] w fun _ w'=>SPs v l0 w w':=by
 have hob3:=ho.form rfl;obtain⟨pv,cv,rfl⟩:=hob3;have h64:(dh (l0.length:Int)).toNat=l0.length:=by rw[dN,mj (show l0.length<18446744073709551616 by omega)]
 refine enter [] Tryz.func78 rfl rfl (al rfl) (zSR (zmv rfl (aA rfl cL) (za rfl (a8 (a6 (ag (zmm rfl (zmv rfl (cX rfl uU3 oZ) (ah rfl C132 (Eb (dh l0.length) _ (by omega)) ?_)))))))));rintro _ w1 ⟨⟨k,rfl⟩,rfl⟩;refine ah rfl C131 (pdqS_ok k ho rfl hm) ?_;rintro _ w2 h2;refine a8 (g0 ?_);exact h2
theorem into_ok(c:TC)(mb:Nat)(s:TP)(hF:mb∉c.F/\c.w0.heap.size<=mb):∀(d:Nat) (w:World) (id:UInt32) (pg:List UInt32) (m:List Pr) (deep:Nat) (f:PgF),c.pg w s->SetAt w mb f->isT s.V d id pg m->(∀x∈pg,s.P.now.written x=true)->deep+d<=40->pg.Nodup->ClS s.V f pg ->
  Ret Tryz.prog 113 #[c.pv,.int .u32 id.toNat,.map (some mb),.int .i64 deep] w fun r w'=>r=.int .i64 0/\∃f',SetAt w' mb f'/\(∀x,f' x=(f x||pg.elem x))/\c.pg w' s/\Chg [mb] w w':=by
 intro d
 induction d using Nat.strongRecOn with
 | _ d ih =>
  intro w id pg m deep f h hM ht hw hd hnd hcl;obtain⟨n,pg0,hpgq,hct,hV,hz,hf⟩:=m9 ht;have hg:=CT.good hct hz hf;have hM2:=hM;obtain⟨st,hst,hsl⟩:=hM2;have hlt:mb<w.heap.size:=hM.lt;have hidp:id∈pg:=by rw[hpgq];exact cK
  refine enter [8] Tryz.func113 rfl rfl (al rfl) (zSR (za rfl (a8 (a6 (ae (zSR (zmv rfl (dt rfl rfl) (a8 (a6 (aI rfl (by omega) ?_))))))))));refine aw (a6 (ae (zSR (zmm rfl ?_))));by_cases hfi:f id=true
  ·have hlook:(cw id st).getD (.bool false)=.bool true:=by rw[SetAt.look hsl,hfi]
   refine a7 rfl (bJ (fe (k:=id) qR (dq bw) I4 rfl rfl rfl hst) hlook) ?_;refine a8 (a6 (bh (rfl) (zSR (za rfl (a8 (a6 (zrt ?_)))))));refine⟨rfl,f,hM,fun x=>?_,h,Chg.refl' _ _⟩;cases hx:pg.elem x with
   | false => rw [Bool.or_false]
   | true => rw [hcl id hidp hfi d pg m ht x (by simpa using hx)]; rfl
  ·have hfi:f id=false:=by simpa using hfi
   have hlook:(cw id st).getD (.bool false)=.bool false:=by rw[SetAt.look hsl,hfi]
   refine a7 rfl (bJ (fe (k:=id) qR (dq bw) I4 rfl rfl rfl hst) hlook) ?_;refine a8 (a6 (aK (rfl) (zKR (zmm rfl (ah rfl C59 (uc c w s id n h (hw id hidp) hV hg) ?_)))));rintro _ w1 ⟨⟨v,rfl,hn1,hnew1⟩,hc1⟩;refine zm rfl (zx rfl (zx rfl (zaa rfl (a8 (a6 (ae (zSR (zmv rfl (bS rfl rfl) (a8 (a6 (aI rfl (fun h=>h rfl) ?_)))))))))));refine zKR (zmm rfl ?_);have hst1:=hst.mod hc1 (by simp);refine aP rfl (gm (k:=id) qR (dq bw) rfl rfl rfl hst1) ?_;rintro w2 ⟨hm2,hc2,hs2⟩;refine a8 (a6 (ae (zSR (zm rfl (zn rfl rfl (a7 rfl (aa bQ rfl I41 rfl rfl) ?_))))));have hvF:∀x∈v.F,x∉[mb]:=fun x hx hh=>by simp at hh;subst hh;have:=hnew1 _ hx;omega
   have hn2:=hn1.chg hc2 hvF;have hS2:SetAt w2 mb (eU f id):=⟨_,hm2,qX hsl id⟩
   have hFm:∀x∈c.F,x∉[mb]:=fun x hx hh=>by simp at hh;subst hh;exact hF.1 hx
   have hmw:∀x∈[mb],c.w0.heap.size<=x:=fun x hx=>by simp at hx;subst hx;exact hF.2
   have h2:c.pg w2 s:=(h.chg0 hc1).chg hc2 hFm hmw;have hc02:Chg [mb] w w2:=hc1.tr0' hc2;have hob1:=CT.parts hct;obtain⟨ts,hids,hpg,hmm,hsep,hkid⟩:=hob1;have hob2:∃p c,v.i=.slice p (cnI n).length c:=hn2.i.form rfl;obtain⟨pi,ci,hvi⟩:=hob2;have hnI:(cnI n).length<=200:=by
    cases n with
    | leaf ps => exact eO _
    | br ks ids => have hgb : brOk ks ids := hg; exact bq hgb.few.2 (by decide)
   have hil:(cnI n).length=ts.length:=by rw[hids,bT]
   refine a7 rfl (aC aX rfl rfl (((by rw[<-hvi];exact hn2.blk.c (by cases n <;> rfl)):_=some (Value.slice pi (cnI n).length ci)))) ?_;refine a7 rfl (aA rfl aX) (zm rfl (a8 (a6 (aq (bf [0,2,3,33,34,35] (fun k vs w'=>∃(i:Nat) (f':PgF),vs=[c.pv,.map (some mb),.int .i64 deep,.slice pi (cnI n).length ci,.int .i64 (cnI n).length,.int .i64 i]/\i+k=(cnI n).length/\SetAt w' mb f'/\(∀x,f' x=(f x||(id::pgT (ts.take i)).elem x))/\c.pg w' s/\NAt w' v n/\Chg [mb] w w') ((cnI n).length) ?_ ?_)))))
   ·refine⟨0,eU f id,rfl,by omega,hS2,fun x=>?_,h2,hn2,hc02⟩;unfold eU;by_cases e:x=id <;> simp[e,pgT]
   ·rintro k vs J w3 ⟨i,f3,rfl,hik,hS3,hf3,h3,hn3,hc3⟩;refine zSR (a7 rfl (bL rfl rfl) ?_);refine a8 (a6 (ae (az rfl (fun hltk=>?_) (fun hltk=>?_))))
    ·refine aw (a6 (ae (aq (ae (ag ?_)))));have hob3:∃q,k=q+1:=⟨k-1,by omega⟩
     obtain⟨k,rfl⟩:=hob3;have hit:i<ts.length:=by omega
     have hob4:=hkid ts[i] (lD hit);obtain⟨q,hdq,hkt,hkm⟩:=hob4;have hiS:Sl w3 (.slice pi (cnI n).length ci) (cnI n):=by rw[<-hvi];exact hn3.i
     have hget:(cnI n)[i]?=some ts[i].1:=by rw[hids,bu,mh,bX hit];rfl
     refine bF rfl (aU (i) aX I25 rfl (hiS) rfl rfl (by first|rfl|omega) (by omega)) ?_;rintro _ ⟨bi,oi,rfl,hei,hbi⟩;refine a7 rfl (aC bw rfl rfl (((hiS.at hei hget).c0 rfl))) (za rfl (zNR (zmm rfl (zmm rfl (a7 rfl (aB rfl rfl (by omega)) ?_)))));have hsplit:pgT ts=pgT (ts.take i)++(ts[i].2.1++pgT (ts.drop (i+1))):=by
      rw[<-eE,<-eI,<-jt hit,eW]
     have htp:pgT (ts.take (i+1))=pgT (ts.take i)++ts[i].2.1:=by rw[<-fG hit,eI,eE];simp[pgT]
     have hsub0:∀x∈ts[i].2.1,x∈pg0:=fun x hx=>by rw[hpg,hsplit];simp[hx]
     have hsub:∀x∈ts[i].2.1,x∈pg:=fun x hx=>by rw[hpgq];exact bN _ (hsub0 x hx)
     have hndq:=hnd;rw[hpgq] at hndq;have hid0:=(List.nodup_cons.1 hndq).1;have hnd0:pg0.Nodup:=(List.nodup_cons.1 hndq).2;rw[hpg,hsplit,jY] at hnd0;have hndi:=(List.nodup_append.1 hnd0.2.1).1;have hcl3:ClS s.V f3 ts[i].2.1:=fun x hx hfx d' pg' m' ht' y hy=>by
      rw[hf3] at hfx ⊢;rcases Bool.or_eq_true_iff.1 hfx with g|g
      ·rw[hcl x (hsub x hx) g d' pg' m' ht' y hy];rfl
      ·have g:x∈id::pgT (ts.take i):=by simpa using g
       rcases List.mem_cons.1 g with g|g
       ·rw[g] at hx;exact absurd (hsub0 id hx) hid0
       ·exact absurd rfl (hnd0.2.2 x g x (cG _ hx))
     refine ah rfl C113 (ih q (by omega) w3 ts[i].1 ts[i].2.1 ts[i].2.2 (deep+1) f3 h3 hS3 hkt (fun x hx=>hw x (hsub x hx)) (by omega) hndi hcl3) ?_;rintro _ w4 ⟨rfl,f4,hS4,hf4,h4,hc4⟩;refine za rfl (zNR (zmv rfl (bS rfl rfl) (a8 (a6 (aI rfl (fun h=>h rfl) ?_)))));refine aw (ay (a6 (ag (a7 rfl (aB rfl rfl (by omega)) (zm rfl ?_)))));refine a8 (a6 (aS (k) (bx (by omega) ?_)));refine⟨i+1,f4,rfl,by omega,hS4,fun x=>?_,h4,hn3.chg hc4 hvF,hc3.tr hc4⟩;rw[hf4,hf3,htp,Bool.or_assoc];congr 1;simp[Bool.or_assoc]
    ·refine aO (an (an (aE (a6 (zSR (za rfl (a8 (a6 (zrf ?_)))))))));have hT:ts.take i=ts:=bW (by omega);rw[hT] at hf3;refine⟨rfl,f3,hS3,fun x=>?_,h3,hc3⟩;rw[hf3,hpgq,hpg]
theorem E9(c:TC)(mb:Nat)(s:TP)(hF:mb∉c.F/\c.w0.heap.size<=mb)(d:Nat)(w:World)(id:UInt32)(pg:List UInt32)(m:List Pr)(f:PgF)(h:c.pg w s)(hM:SetAt w mb f)(ht:isT s.V d id pg m)(hw:∀x∈pg,s.P.now.written x=true)(hd:d<=40)(hnd:pg.Nodup)(hcl:ClS s.V f pg) :
  Ret Tryz.prog 66 #[c.pv,.int .u32 id.toNat,.map (some mb)] w fun r w'=>r=.int .i64 0/\∃f',SetAt w' mb f'/\(∀x,f' x=(f x||pg.elem x))/\c.pg w' s/\Chg [mb] w w':=by
 refine enter [6] Tryz.func66 rfl rfl (al rfl) (zSR (za rfl (zNR (zmm rfl (zm rfl (ah rfl C113 (into_ok c mb s hF d w id pg m 0 f h hM ht hw (by omega) hnd hcl) ?_))))));rintro _ w1 ⟨rfl,h1⟩;refine za rfl (a8 (a6 (zrf ?_)));exact⟨rfl,h1⟩
def snV(sn:List (Bs×UInt32)):List (Bs×Value):=sn.map fun p=>(p.1,.int .u32 p.2.toNat)
theorem uZ(sn:List (Bs×UInt32)):(snV sn).map (·.1)=sn.map (·.1):=by unfold snV;rw[fC];rfl
theorem jw(sn:List (Bs×UInt32)):(snV sn).length=sn.length:=df ..
theorem Bc(w:World)(sb mr:Nat)(v0 v1 v3:Value)(sn:List (Bs×UInt32))(hB:Blk w sb [v0,v1,.map (some mr),v3])(hM:MapAt w mr (snV sn))(hl:sn.length<=12) :
  Ret Tryz.prog 35 #[.pointer (some ⟨sb,0,none⟩)] w fun v w'=>∃l,Own w' v l/\l.Perm (sn.map (·.1))/\Chg [] w w'/\In v [] w.heap.size:=by
 have hmr:=hM.lt;refine enter [2] Tryz.func35 rfl rfl (al rfl) (zSR (za rfl (zNR (za rfl (a8 (a6 (ae (zSR (zm rfl (zn rfl rfl (a7 rfl (aa dF rfl oe rfl rfl) (a7 rfl (aC fJ rfl rfl (hB.c rfl)) (dK rfl (ow fJ rfl hM) ?_)))))))))))));rintro w1 ⟨hit,hc1,hs1⟩;refine a8 (a6 (aq (bf [3,9] (fun n vs w'=>∃(left:List (Bs×Value)) (lv:Value) (ns:List Bs),vs=[lv,.pointer (some ⟨w.heap.size,0,none⟩)]/\left.length=n/\IterAt w' w.heap.size mr (snV sn) left/\Own w' lv ns/\(ns++left.map (·.1)).Perm (sn.map (·.1))/\(∀x∈ax lv,w.heap.size<x)/\Chg [] w w'/\w.heap.size<w'.heap.size) (sn.length) ?_ ?_)))
 ·exact⟨snV sn,.slice none 0 0,[],rfl,jw _,hit,Own.nil _,by rw[dA,uZ],fun x hx=>by simp[ax] at hx,hc1,by omega⟩
 ·rintro n vs J w4 ⟨left,lv,ns,rfl,hln,hit4,ho4,hp4,hb4,hc4,hk4⟩;refine ae (ag ?_);have hnl:ns.length+n=sn.length:=by have:=hp4.length_eq;simp only[aF,df] at this;omega
  refine lS rfl (hit4) rfl ?_ ?_
  ·rintro h0;refine zx rfl (a8 (a6 (ae (aK (rfl) (aO (an (an (aE (a6 (zSR (zm rfl ?_)))))))))));subst h0;rw[nz,cy] at hp4;refine ah rfl C78 (HF ho4 (by have:=hp4.length_eq;rw[df] at this;omega)) ?_;rintro _ w5 ⟨l,ho5,hp5,hc5⟩;refine zNR (zma rfl (a8 (a6 (zrf ?_))));exact⟨l,ho5,hp5.trans hp4,hc4.t0 hc5 (fun x hx=>by have:=hb4 x hx;omega),fun x hx=>.inr (by have:=hb4 x hx;omega)⟩
  ·rintro a k v b' w5 hsp hit5 hcur hc5 hs5;refine zx rfl (a8 (a6 (ae (bh (rfl) (aw (a6 (aq (ae (ag ?_)))))))));obtain⟨n,rfl⟩:∃z,n=z+1:=⟨n-1,by have:=congrArg List.length hsp;simp only[aF,bY] at this;omega⟩
   have ho5:=ho4.mod hc5 (fun x hx hh=>by simp at hh;have:=hb4 x hx;omega);refine a7 rfl (oy rfl hcur) (zx rfl (za rfl (a8 (a6 (ag (zmm rfl (iB (k) cL I9 rfl rfl rfl (by decide) (by decide) rfl rfl rfl rfl (ho5) (fun _=>rfl) (by omega) ?_)))))));rintro s6 v6 w6 h6;refine za rfl (a8 (ay (a6 (aS (n) (bx (by omega) ?_)))));refine⟨a++b',v6,ns++[k],rfl,by have:=congrArg List.length hsp;simp only[aF,bY] at this ⊢;omega,hit5.mod h6.mod (fun hh=>by have:=hb4 _ hh;omega) (fun hh=>by have:=hb4 _ hh;omega),h6.own,?_,fun x hx=>?_,(hc4.t1 hc5 (aM _)).t0 h6.mod (fun x hx=>by have:=hb4 x hx;omega),by have:=h6.mod.1;omega⟩
   ·refine List.Perm.trans ?_ hp4;rw[hsp,g9,g9,eR,bO];refine pJ _ ?_;exact(List.perm_middle (a:=k) (l₁:=a.map (·.1)) (l₂:=b'.map (·.1))).symm
   ·rcases h6.inn x hx with q|q
    ·exact hb4 x q
    ·omega
theorem sk{α β:Type}(f:α->β):∀{l:List β} {s:List α},l.Perm (s.map f)->∃s':List α,s'.Perm s/\s'.map f=l
 | [], s, h => by
  have:=h.length_eq
  rw[df] at this;exact⟨[],by rw[kR this.symm],rfl⟩
 | a :: l, s, h => by
  have hob1:=List.mem_map.1 (h.subset cK);obtain⟨p,hp,rfl⟩:=hob1;have hob2:=List.append_of_mem hp;obtain⟨s1,s2,rfl⟩:=hob2;have h2:l.Perm ((s1++s2).map f):=by
   refine List.Perm.cons_inv (a:=f p) (h.trans ?_);rw[g9,eR,g9];exact List.perm_middle
  have hob3:=sk f h2;obtain⟨s',h3,h4⟩:=hob3;exact⟨p::s',(h3.cons p).trans List.perm_middle.symm,by rw[eR,h4]⟩
def snB(p:Bs×UInt32):Bs:=txt p.1++be 4 p.2.toNat
def gQ(l:List (Bs×UInt32)):Bs:=be 1 l.length++l.flatMap snB
theorem kC(l:List (Bs×UInt32))(h:∀p∈l,p.1.length<=10):(gQ l).length<=1+16*l.length:=by
 unfold gQ;rw[aF,aL]
 have:(l.flatMap snB).length<=16*l.length:=by
  induction l with
  | nil => simp
  | cons p l ih =>
   have h1:=ih (fun q hq=>h q (bN _ hq));have h2:=h p cK;rw[pH,aF,bY];unfold snB;rw[aF,gV,aL];unfold snB at h1;omega
 omega
theorem DD(w:World)(sb mr:Nat)(v0 v1 v3:Value)(sn:List (Bs×UInt32))(hB:Blk w sb [v0,v1,.map (some mr),v3])(hM:MapAt w mr (snV sn))(hl:sn.length<=12)(h10:∀p∈sn,p.1.length<=10) :
  Ret Tryz.prog 71 #[.pointer (some ⟨sb,0,none⟩)] w fun v w'=>∃l,l.Perm sn/\v=str (gQ l)/\Chg [] w w':=by
 have hsb:=hB.lt;have hmr:=hM.lt;have hn64:(dh (sn.length:Int)).toNat=sn.length:=by rw[dN,mj (show sn.length<18446744073709551616 by omega)]
 refine enter [2] Tryz.func71 rfl rfl (al rfl) (zSR (za rfl (zNR (zm rfl (zn rfl rfl (a7 rfl (aa dF rfl oe rfl rfl) (a7 rfl (aC fJ rfl rfl (hB.c rfl)) (a7 rfl (bJ (xq fJ rfl hM) (congrArg (fun n:Nat=>Value.int .i64 n) (jw sn))) ?_))))))));refine a7 rfl (cX rfl uU3 eo) (ah rfl nw (gM (.slice none 0 0) [] (dh (sn.length:Int)) 1 w (Own.nil _) (by decide) (by decide)) ?_);rintro v1' w1 ⟨ho1,hc1,hi1⟩;refine za rfl (a8 (a6 (ae (zSR (zm rfl ?_)))));rw[hn64,dA] at ho1;have hc1:Chg [] w w1:=hc1;have hB1:=hB.chg0 hc1;have hM1:=hM.mod hc1 (by simp);have hb1:∀x∈ax v1',w.heap.size<=x:=hi1.ge;refine ah rfl C35 (Bc w1 sb mr v0 v1 v3 sn hB1 hM1 hl) ?_;rintro nv w2 ⟨ns,ho2,hp2,hc2,hi2⟩;have hob4:=sk (fun p:Bs×UInt32=>p.1) hp2;obtain⟨l,hpl,hlm⟩:=hob4;have hnl:ns.length=l.length:=by rw[<-hlm,df]
 have hob5:=ho2.form (n:=l.length) hnl;obtain⟨pn,cn,rfl⟩:=hob5;refine a7 rfl (aA rfl cL) (zm rfl (a8 (a6 (aq (bf [0,3,14,15,16] (fun n vs w'=>∃(i:Nat) (bv:Value),vs=[.pointer (some ⟨sb,0,none⟩),bv,.slice pn l.length cn,.int .i64 l.length,.int .i64 i]/\i+n=l.length/\Own w' bv (be 1 sn.length++(l.take i).flatMap snB)/\(∀x∈ax bv,w.heap.size<=x/\x∉ax (.slice pn l.length cn))/\Own w' (.slice pn l.length cn) ns/\Chg [] w w') (l.length) ?_ ?_)))))
 ·exact⟨0,v1',rfl,by omega,by rw[mC,yo,cy];exact ho1.mod0 hc2,fun x hx=>⟨hb1 x hx,fun hh=>by have:=hi2.ge x hh;have:=ho1.sl.lt x hx;omega⟩,ho2,hc1.tr hc2⟩
 ·rintro n vs J w3 ⟨i,bv,rfl,hin,ho3,hb3,hn3,hc3⟩;refine zSR (a7 rfl (bL rfl rfl) ?_);refine a8 (a6 (ae (az rfl (fun hlt=>?_) (fun hlt=>?_))))
  ·refine aw (a6 (ae (aq (ae (ag ?_)))));have hob6:∃z,n=z+1:=⟨n-1,by omega⟩
   obtain⟨n,rfl⟩:=hob6;have hob7:∃p,l[i]?=some p:=⟨l[i]'(by omega),bX _⟩
   obtain⟨p,hp⟩:=hob7;have hpm:p∈sn:=hpl.subset (j5 hp);have hns:ns[i]?=some p.1:=by rw[<-hlm,mh,hp];rfl
   have hp10:=h10 p hpm;have hle:=hpl.length_eq;have hB3:=hB.chg0 hc3;have hM3:=hM.mod hc3 (by simp);have hlook:(cw p.1 (snV sn)).getD (.int .u32 0)=.int .u32 p.2.toNat:=by
    rw[(fg hM.nodup).2 (List.mem_map.2 ⟨p,hpm,rfl⟩)];rfl
   have hpre:((l.take i).flatMap snB).length<=16*12:=by
    have:=kC (l.take i) (fun q hq=>h10 q (hpl.subset (Bk hq)))
    unfold gQ at this;rw[aF,aL,bA] at this
    have:=hpl.length_eq
    omega
   refine bF rfl (aU (i) cL I9 rfl (hn3.sl) rfl rfl (by first|rfl|omega) (by omega)) ?_;rintro _ ⟨bi,oi,rfl,hei,hbi⟩;refine a7 rfl (aC uU9 rfl rfl (((hn3.sl.at hei hns).c0 rfl))) (za rfl (a8 (a6 (aG bz (.pure 0 (.pure 1 (.pure 3 (.pure 4 (.pure 5 (.read 6 (.pure 7 (.read 8 (.pure 9 (.eff 2 [6,8] (.eff 10 [] (.pure 11 .nil)))))))))))) (by kernel_rfl) ?_))));refine ym rfl (ym rfl (ym rfl (yn rfl (yp rfl (fun _=>(aa dF rfl oe rfl rfl)) ?_))));refine aH rfl rfl rfl fJ rfl rfl (hB3.c rfl) (ym rfl (dm rfl rfl rfl (fun w'=>MapAt w' mr (snV sn)) (hM3) (fun w1 h1=>bJ (fe (k:=p.1) fJ (gH uU9) I25 rfl rfl rfl h1) hlook) ?_));refine yp rfl (fun _=>(cX rfl bw eo)) ?_;refine ycl rfl HX ((rR _ bv (be 1 sn.length++(l.take i).flatMap snB) p.1 (ho3.mod0 (drw _)) (by rw[aF,aL];omega) (by omega) :)) ?_;rintro v4 w4 ⟨ho4,hc4,hi4⟩;have hc4:Chg (ax bv) w3 w4:=(drw w3).tr0' hc4;have hsn:sb∉ax bv:=fun hh=>by have:=(hb3 sb hh).1;omega
   have hmn:mr∉ax bv:=fun hh=>by have:=(hb3 mr hh).1;omega
   refine⟨⟨(hB3.chg hc4 hsn).c rfl,hM3.mod hc4 hmn,trivial⟩,?_⟩;have h64:(dh (p.2.toNat:Int)).toNat=p.2.toNat:=by rw[dN,mj (show p.2.toNat<18446744073709551616 by have:=p.2.toNat_lt;omega)]
   have hin4:∀x∈ax v4,w.heap.size<=x/\x∉ax (.slice pn l.length cn):=fun x hx=>by
    rcases hi4 x hx with q|q
    ·exact hb3 x q
    ·have q:w3.heap.size<=x:=q;exact⟨by have:=hc3.1;omega,fun hh=>by have:=hn3.sl.lt x hh;omega⟩
   refine ycl rfl nw ((gM v4 _ (dh (p.2.toNat:Int)) 4 w4 ho4 (by decide) (by simp only[aF,aL];omega) :)) ?_;rintro v5 w5 ⟨ho5,hc5,hi5⟩;refine⟨trivial,?_⟩;refine ya rfl (aJ (ay (a6 (ag (a7 rfl (aB rfl rfl (by omega)) (zm rfl ?_))))));refine a8 (a6 ?_);rw[h64] at ho5;have hn4:=(hn3.mod hc4 (fun x hx hh=>(hb3 x hh).2 hx)).mod hc5 (fun x hx hh=>(hin4 x hh).2 hx);refine aS (n) (bx (by omega) ?_);refine⟨i+1,v5,rfl,by omega,?_,fun x hx=>?_,hn4,(hc3.t0 hc4 (fun x hx=>(hb3 x hx).1)).t0 hc5 (fun x hx=>(hin4 x hx).1)⟩
   ·have e:(l.take (i+1)).flatMap snB=(l.take i).flatMap snB++snB p:=by rw[j9,hp];simp
    have e2:snB p=(be 2 p.1.length++p.1)++be 4 p.2.toNat:=rfl;rw[e,e2]
    simpa [List.append_assoc] using ho5
   ·rcases hi5 x hx with q|q
    ·exact hin4 x q
    ·exact⟨by have:=hc3.1;have:=hc4.1;omega,fun hh=>by have:=hn3.sl.lt x hh;have:=hc4.1;omega⟩
  ·refine aO (an (an (aE (a6 (zSR (zm rfl ?_))))));have hil:i=l.length:=by omega
   subst hil;rw[cZ,<-hpl.length_eq] at ho3;refine a7 rfl (lQ aW uU5 uU9 ho3.sl rfl) (za rfl (a8 (a6 (zrf ?_))));exact⟨l,hpl,rfl,hc3⟩
theorem vR(w:World)(lv:Value)(l:List Wr)(hl:Sl w lv l)(hl2:l.length<=100000) :
  Ret Tryz.prog 72 #[lv] w fun v w'=>v=.bool (isB l)/\Chg [] w w':=by
 obtain⟨pl,cl,rfl⟩:=hl.form rfl;refine enter [2] Tryz.func72 rfl rfl (al rfl) (zSR (za rfl (a8 (a6 (ae (zSR (zmv rfl (aA rfl wI) (zm rfl (a8 (a6 (aq (bf [0,7,8,9] (fun n vs w'=>∃i:Nat,vs=[.slice pl l.length cl,.slice pl l.length cl,.int .i64 l.length,.int .i64 i]/\i+n=l.length/\(l.take i).all Wr.good=true/\Chg [] w w') (l.length) ?_ ?_))))))))))))
 ·exact⟨0,rfl,by omega,rfl,Chg.refl _⟩
 ·rintro n vs J w1 ⟨i,rfl,hin,hall,hc1⟩;refine zSR (a7 rfl (bL rfl rfl) ?_);refine a8 (a6 (ae ?_));have hl1:=hl.mod0 hc1;refine az rfl (fun hlt=>?_) (fun hlt=>?_)
  ·refine aw (a6 (ae (aq (ae (ag ?_)))));have hob1:∃z,n=z+1:=⟨n-1,by omega⟩
   obtain⟨n,rfl⟩:=hob1;have hob2:∃a,l[i]?=some a:=⟨l[i]'(by omega),bX _⟩
   obtain⟨a,ha⟩:=hob2;refine bF rfl (aU (i) wI I66 rfl (hl1) rfl rfl (by first|rfl|omega) (by omega)) ?_;rintro _ ⟨bi,oi,rfl,hei,hbi⟩;refine a7 rfl (cM pM rfl I66 rfl (hl1.at hei ha) rfl) (aY rfl (dk (l:=[str [],str [],.bool false]) I66 rfl rfl) ?_);rintro _ w2 ⟨ab,rfl,hn2,hB2,hc2,hl2'⟩;refine aP rfl (cF (l:=[str a.k,str a.v,.bool a.d]) I66 rfl rfl (hB2) rfl (rfl) (aM 3) (Flat.cell a) (rfl)) ?_;rintro w3 ⟨hB3,hc3,hs3⟩;refine zNR (a7 rfl (aa pM rfl I9 rfl rfl) ?_);have hB3:Blk w3 ab [str a.k,str a.v,.bool a.d]:=hB3;have hc13:Chg [] w1 w3:=hc2.t1 hc3 hn2;have hno:∀{g:Bool},a.good=g->g=false->isB l=false:=fun h1 h2=>by
    subst h2;unfold isB
    have:l.all Wr.good=false:=List.all_eq_false.2 ⟨a,j5 ha,by rw[h1];simp⟩
    rw[this];rfl
   have hall2:a.good=true->(l.take (i+1)).all Wr.good=true:=fun h1=>by
    rw[j9,ha,List.all_append,hall];simp[h1]
   refine a7 rfl (aC uU9 rfl rfl (hB3.c rfl)) (a7 rfl (aa pM rfl I9 rfl rfl) (a7 rfl (aC uU9 rfl rfl (hB3.c rfl)) (a7 rfl (bP j1 I49 rfl (zs:=[str [],str []]) rfl rfl (bI rfl rfl rfl (al rfl) (bI rfl rfl rfl (al rfl) (dP (cs':=[str a.k,str a.v]) rfl)))) ?_)));refine aY rfl (nE a.pr dc I49 rfl rfl rfl rfl rfl (by decide)) ?_;rintro _ w4 ⟨b4,rfl,hB4,hn4,hc4,hl4⟩;refine ah rfl C96 (uf w4 _ [a.pr] (Blk.sl1 hB4) (show 1<=400 by decide)) ?_;rintro v5 w5 ⟨hc5,hr5⟩;have hc15:Chg [] w1 w5:=hc13.tr (hc4.tr hc5);have hB5:=(hB3.chg0 hc4).chg0 hc5;have hpr:fO [a.pr]↔nN a.pr:=⟨fun h=>h.1 _ (by simp),fun h=>⟨fun p hp=>by simp at hp;subst hp;exact h,yF ..⟩⟩
   have hz:nN a.pr->cP [a.pr]<=480:=fun h=>by rw[iq];have:=h.1.2;have:=h.2;omega
   have hgd:a.good=(decide (nN a.pr) && !(a.d&&decide (a.v≠[]))):=by
    unfold Wr.good nN m8;congr 1;rw[um,decide_eq_true_iff,decide_eq_true_iff];exact⟨fun h=>⟨⟨h.1,h.2.1⟩,h.2.2⟩,fun h=>⟨h.1.1,h.1.2,h.2⟩⟩
   rcases hr5 with⟨q,rfl⟩|⟨q,q2,rfl⟩|⟨q,bv,rfl,ho5,hi5⟩
   ·refine zm rfl (zx rfl (zx rfl (zaa rfl (zNR (zmv rfl (bJ (bS rfl rfl) (congrArg Value.bool (decide_eq_true ((by decide:(90:Int)≠0))))) ?_)))));refine zm rfl (aD rfl rfl (aD rfl rfl (aD rfl rfl (aD rfl rfl (aD rfl rfl (aD rfl rfl (aD rfl rfl (a7 rfl (aQ rfl) (a8 (a6 (bh (rfl) (zSR (za rfl (a8 (a6 (bC (aZ (aR (aR (aZ (aR (dj ?_))))))))))))))))))))));have hgf:a.good=false:=by rw[hgd,decide_eq_false (fun h=>q (hpr.2 h))];rfl
    exact⟨congrArg Value.bool (hno hgf rfl).symm,hc1.tr hc15⟩
   ·exact absurd (hz (hpr.1 q)) (by omega)
   ·refine zm rfl (zx rfl (zx rfl (zaa rfl (zNR (zmv rfl (bJ (bS rfl rfl) (congrArg Value.bool (decide_eq_false (fun h=>h rfl)))) ?_)))));refine zm rfl (aj rfl (a7 rfl (aa pM rfl I4 rfl rfl) (aj rfl ?_)));have hp:=hpr.1 q.1;by_cases hd:a.d=true
    ·have hB6:Blk w5 ab [str a.k,str a.v,.bool true]:=by rw[<-hd];exact hB5
     refine a7 rfl (aC uU4 rfl rfl (hB6.c rfl)) (aj rfl (zm rfl (aj rfl (a7 rfl (aa pM rfl I9 rfl rfl) (aj rfl (a7 rfl (aC uU9 rfl rfl (hB6.c rfl)) (aj rfl (a7 rfl (uA rfl rfl) (aj rfl (a7 rfl (aQ rfl) (a7 rfl (aN rfl) (a8 (a6 (az rfl (fun hv=>?_) (fun hv=>?_)))))))))))))))
     ·refine zSR (za rfl (a8 (a6 (bC (aZ (aR (aR (aZ (aR (dj ?_))))))))));have hgf:a.good=false:=by rw[hgd,hd,decide_eq_true hv];simp
      exact⟨congrArg Value.bool (hno hgf rfl).symm,hc1.tr hc15⟩
     ·refine aw (ay (a6 (ag (a7 rfl (aB rfl rfl (by omega)) (zm rfl ?_)))));refine a8 (a6 ?_);have hgt:a.good=true:=by rw[hgd,hd,decide_eq_false hv,decide_eq_true hp];rfl
      refine aS (n) (bx (by omega) ?_);exact⟨i+1,rfl,by omega,hall2 hgt,hc1.tr hc15⟩
    ·have hd:a.d=false:=by simpa using hd
     have hB6:Blk w5 ab [str a.k,str a.v,.bool false]:=by rw[<-hd];exact hB5
     refine a7 rfl (aC uU4 rfl rfl (hB6.c rfl)) (aj rfl (zm rfl (aD rfl rfl (aD rfl rfl (aD rfl rfl (aj rfl (a7 rfl (aN rfl) (a7 rfl (aN rfl) (a8 (a6 (aK (rfl) (aw (ay (a6 (ag (a7 rfl (aB rfl rfl (by omega)) (zm rfl ?_)))))))))))))))));refine a8 (a6 ?_);have hgt:a.good=true:=by rw[hgd,hd,decide_eq_true hp];rfl
     refine aS (n) (bx (by omega) ?_);exact⟨i+1,rfl,by omega,hall2 hgt,hc1.tr hc15⟩
  ·refine aO (an (an (aE (a6 (zSR (zmv rfl (aA rfl wI) ?_))))));have hil:i=l.length:=by omega
   subst hil;rw[cZ] at hall;have hres:∀g:Bool,g=(decide (1<=l.length)&&decide (l.length<=40))->Value.bool g=Value.bool (isB l):=fun g h=>by
    rw[h];unfold isB;rw[hall,ju]
   by_cases h1:1<=l.length
   ·refine a7 rfl (bJ (fH rfl rfl) (congrArg Value.bool (decide_eq_true (by omega)))) ?_;refine zm rfl (aj rfl (zm rfl (aj rfl (a7 rfl (aA rfl wI) (aj rfl (a7 rfl (gd rfl rfl) (a7 rfl (aQ rfl) (za rfl (a8 (a6 (zrf ?_)))))))))));refine⟨hres _ ?_,hc1⟩;rw[decide_eq_true h1,ju,um,decide_eq_true_iff,decide_eq_true_iff];omega
   ·refine a7 rfl (bJ (fH rfl rfl) (congrArg Value.bool (decide_eq_false (by omega)))) ?_;refine zm rfl (aD rfl rfl (aD rfl rfl (aD rfl rfl (a7 rfl (aN rfl) (za rfl (a8 (a6 (zrf ?_))))))));exact⟨hres _ (by rw[decide_eq_false h1];rfl),hc1⟩
theorem Ew{P:Pg}{n:Nat}(h:∀x,P.free x=true):fZ P n=n:=by
 unfold fZ;rw[List.filter_eq_self.2 (fun i _=>h _),Bl]
structure TR(c:TC)(w:World)(s:TP)(root:UInt32)(d:Nat)(pg:List UInt32)(m:List Pr):Prop where
 at_:c.pg w s
 tree:isT s.V d root pg m
 wr:∀x∈pg,s.P.now.written x=true
 nd:pg.Nodup
def V0:UInt32->Bs:=fun _=>[]
def key0:List UInt8:=List.replicate 32 0
def nameB(n:UInt16):Bs:=[107,oQ ((n.toNat / 256:Nat):Int),oQ (n.toNat:Int)]
section
variable {c:TC}{w w':World}{s s':TP}{root id:UInt32}{d d':Nat}{pg pg' made gone:List UInt32}{m m':List Pr}
theorem TR.ext(h:TR c w s root d pg m)(hp:c.pg w' s')(hx:Ext c.n s.P s'.P s.V s'.V made):TR c w' s' root d pg m :=
 ⟨hp,nU h.tree (fun x hx'=>hx.old x (h.wr x hx')),fun x hx'=>hx.wr (h.wr x hx'),h.nd⟩
theorem TR.chg0(h:TR c w s root d pg m)(hm:Chg [] w w'):TR c w' s root d pg m:=⟨h.at_.chg0 hm,h.tree,h.wr,h.nd⟩
theorem TR.chg{S:List Nat}(h:TR c w s root d pg m)(hm:Chg S w w')(hn:∀x∈c.F,x∉S)(hs:∀x∈S,c.w0.heap.size<=x):TR c w' s root d pg m:=⟨h.at_.chg hm hn hs,h.tree,h.wr,h.nd⟩
theorem TR.step(h:TR c w s root d pg m)(hp:c.pg w' s')(hx:Ext c.n s.P s'.P s.V s'.V made)(ht:isT s'.V d' id pg' m')(hm:(pg'++gone).Perm (pg++made)):TR c w' s' id d' pg' m':=by
 have hmem:∀x∈pg',x∈pg∨x∈made:=fun x hx'=>List.mem_append.1 (hm.mem_iff.1 (cG _ hx'));have hnd:(pg++made).Nodup:=by
  rw[jY];exact⟨h.nd,hx.nodup,fun a ha b hb e=>by
   subst e;have h1:=h.at_.wu (h.wr a ha);have h2:=(hx.new a hb).1;unfold Pg.free at h2;rw[h1] at h2;simp at h2⟩
 refine⟨hp,ht,fun x hx'=>?_,(List.nodup_append.1 (hm.nodup_iff.2 hnd)).1⟩;rcases hmem x hx' with q|q
 ·exact hx.wr (h.wr x q)
 ·exact(hx.mem q).2
def PutT(c:TC)(s:TP)(d:Nat)(m':List Pr)(w':World)(r:Value->Value->Value)(ra:Value):Prop :=
 (ra=r (.int .u32 0) (.int .i64 70)/\∃s',c.pg w' s'/\Ext c.n s.P s'.P s.V s'.V []/\s'.k<=s.k+2*d+3/\fZ s.P c.n<=2*(d+1)) ∨
 ∃(id:UInt32) (d':Nat) (pg' made:List UInt32) (s':TP),ra=r (.int .u32 id.toNat) (.int .i64 0)/\TR c w' s' id d' pg' m'/\Ext c.n s.P s'.P s.V s'.V made/\s'.k<=s.k+2*d+3/\made.length<=2*d+3/\d'<=d+1/\(d=0->cP m'<=480->made.length<=1/\d'=0)
theorem PutR.t{r:Value->Value->Value}{ra:Value}(h:TR c w s root d pg m)(hr:PutR c s d pg m' r ra (s.k+2*d+3) w'):PutT c s d m' w' r ra:=by
 rcases hr with⟨h1,⟨s',h2,h3,h4⟩,h5⟩|⟨id,d',pg',made,gone,s',q1,q2,q3,q4,q5,q6,q7,q8,q9,_⟩
 ·exact .inl ⟨h1,s',h2,h3,h4,h5⟩
 ·exact .inr ⟨id,d',pg',made,s',q1,h.step q2 q3 q7 q8,q3,q4,q5,q6,q9⟩
theorem put9(h:TR c w s root d pg m){p:Pr}(hp:nN p)(hd:d<=40)(hk:s.k+2*d+3<=40000) :
  Ret Tryz.prog 20 #[c.pv,.int .u32 root.toNat,str p.1,str p.2] w fun r w'=>PutT c s d (fB m p) w' (fun a e=>.tuple #[a,e]) r/\Chg c.F w w':=by
 refine(TPut_ok c w s root d pg m p h.at_ h.tree h.wr hd hk).mono ?_;rintro r w' ⟨⟨q,_⟩|⟨_,hr⟩,hc⟩
 ·exact absurd hp q
 ·exact⟨hr.t h,hc⟩
theorem put9s(h:TR c w s root 0 pg m){p:Pr}(hp:nN p)(hz:cP (fB m p)<=480)(hr:2<fZ s.P c.n)(hk:s.k+3<=40000) :
  Ret Tryz.prog 20 #[c.pv,.int .u32 root.toNat,str p.1,str p.2] w fun r w'=>(∃(id:UInt32) (pg' made:List UInt32) (s':TP),r=.tuple #[.int .u32 id.toNat,.int .i64 0]/\TR c w' s' id 0 pg' (fB m p)/\Ext c.n s.P s'.P s.V s'.V made/\s'.k<=s.k+3/\fZ s.P c.n<=fZ s'.P c.n+1)/\Chg c.F w w':=by
 refine(put9 h hp (by omega) (by omega)).mono ?_;rintro r w' ⟨⟨_,_,_,_,_,q⟩|⟨id,d',pg',made,s',q1,q2,q3,q4,q5,q6,q7⟩,hc⟩
 ·omega
 ·obtain⟨h1,rfl⟩:=q7 rfl hz
  have:=q3.count h.at_.n4.2
  exact⟨⟨id,pg',made,s',q1,q2,q3,by omega,by omega⟩,hc⟩
theorem get9(h:TR c w s root d pg m)(key v:Bs)(b:Bool)(hv:(lK m key).getD []=v)(hb:ft m key=b)(hd:d<=40) :
  Ret Tryz.prog 23 #[c.pv,.int .u32 root.toNat,str key] w fun r w'=>r=.tuple #[str v,.bool b,.int .i64 0]/\TR c w' s root d pg m/\Chg [] w w':=by
 subst hv hb;refine(TGet_ok c w s root d pg m key h.at_ h.tree h.wr hd).mono ?_;rintro r w' ⟨q,hc⟩;exact⟨q,h.chg0 hc,hc⟩
theorem len9(h:TR c w s root d pg m)(hd:d<=40)(hm:m.length<=10000) :
  Ret Tryz.prog 27 #[c.pv,.int .u32 root.toNat] w fun r w'=>r=.tuple #[.int .i64 m.length,.int .i64 0]/\TR c w' s root d pg m/\Chg [] w w':=by
 refine(TLen_ok c w s root d pg m h.at_ h.tree h.wr hd h.nd hm).mono ?_;rintro r w' ⟨q,hc⟩;exact⟨q,h.chg0 hc,hc⟩
theorem TR.room(h:TR c w s root d pg m) :
  Ret Tryz.prog 26 #[c.pv] w fun r w'=>r=.int .i64 (fZ s.P c.n)/\TR c w' s root d pg m/\Chg [] w w':=by
 refine(Gw h.at_).mono ?_;rintro r w' ⟨q,q2,hc⟩;exact⟨q,h.chg0 hc,hc⟩
end
structure Bud(c:TC)(s:TP)(i:Nat):Prop where
 k:s.k<=2+3*i
 room:389<=fZ s.P c.n+i
structure SmT(c:TC)(w:World)(s:TP)(id:UInt32)(m:List Pr)(i:Nat):Prop where
 tr:∃pg,TR c w s id 0 pg m
 len:m.length<=i
 small:∀p∈m,p.1.length+p.2.length<=7
section
variable {c:TC}{w w':World}{s s':TP}{id:UInt32}{i j:Nat}{m:List Pr}{made:List UInt32}
theorem TR.now{d:Nat}{pg:List UInt32}(h:TR c w s id d pg m):Chg [] c.w0 w:=PS.now h.at_
theorem SmT.now(h:SmT c w s id m i):Chg [] c.w0 w:=by obtain⟨_,h⟩:=h.tr;exact h.now
theorem SmT.at_(h:SmT c w s id m i):c.pg w s:=by obtain⟨_,h⟩:=h.tr;exact h.at_
theorem SmT.sort(h:SmT c w s id m i):eF m:=by obtain⟨_,h⟩:=h.tr;exact(iY h.tree).2
theorem SmT.ext(h:SmT c w s id m i)(hp:c.pg w' s')(hx:Ext c.n s.P s'.P s.V s'.V made):SmT c w' s' id m i:=by
 obtain⟨⟨pg,h1⟩,h2,h3⟩:=h;exact⟨⟨pg,h1.ext hp hx⟩,h2,h3⟩
theorem SmT.chg0(h:SmT c w s id m i)(hm:Chg [] w w'):SmT c w' s id m i:=by
 obtain⟨⟨pg,h1⟩,h2,h3⟩:=h;exact⟨⟨pg,h1.chg0 hm⟩,h2,h3⟩
theorem SmT.chg{S:List Nat}(h:SmT c w s id m i)(hm:Chg S w w')(hn:∀x∈c.F,x∉S)(hs:∀x∈S,c.w0.heap.size<=x):SmT c w' s id m i:=by
 obtain⟨⟨pg,h1⟩,h2,h3⟩:=h;exact⟨⟨pg,h1.chg hm hn hs⟩,h2,h3⟩
theorem SmT.put(h:SmT c w s id m j)(hb:Bud c s i)(hi:i<=100)(hj:j<=40){p:Pr}(hp:nN p)(h7:p.1.length+p.2.length<=7) :
  Ret Tryz.prog 20 #[c.pv,.int .u32 id.toNat,str p.1,str p.2] w fun r w'=>(∃(id':UInt32) (s':TP) (made:List UInt32),r=.tuple #[.int .u32 id'.toNat,.int .i64 0]/\SmT c w' s' id' (fB m p) (j+1)/\Bud c s' (i+1)/\Ext c.n s.P s'.P s.V s'.V made)/\Chg c.F w w':=by
 have hs:=h.sort;obtain⟨⟨pg,h1⟩,h2,h3⟩:=h;have hl:=xI p hs;have hsm:∀q∈fB m p,q.1.length+q.2.length<=7:=fun q hq=>by
  rcases re hq with rfl|hq
  ·exact h7
  ·exact h3 q hq
 have hz:=xT hsm;have k1:=hb.k;have k2:=hb.room;refine(put9s h1 hp (by omega) (by omega) (by omega)).mono ?_;rintro r w' ⟨⟨id',pg',made,s',q1,q2,q3,q4,q5⟩,hc⟩;exact⟨⟨id',s',made,q1,⟨⟨pg',q2⟩,by omega,hsm⟩,⟨by omega,by omega⟩,q3⟩,hc⟩
end
theorem id_W{p:Prop}(h:p):p:=h
structure Edt(c:TC)(w:World)(s0 s:TP)(root:UInt32)(d:Nat)(pg:List UInt32)(m:List Pr):Prop where
 tr:TR c w s root d pg m
 kept:s.P.kept=s0.P.kept
 old:∀x,s0.P.now.written x=true->s.P.now.written x=true/\s.V x=s0.V x
 used:∀x,s.P.now.used x=true->s0.P.now.used x=true∨x∈pg
def Com(s:TP):Prop:=(∀x,s.P.kept.used x=s.P.now.used x)/\(∀x,s.P.kept.written x=s.P.now.written x)/\∀x,s.P.now.written x=true->s.P.now.used x=true
structure Frd(s s':TP)(L:List UInt32):Prop where
 used:∀x,s'.P.now.used x=(s.P.now.used x && !(L.elem x&&s.P.fresh x))
 writ:∀x,s'.P.now.written x=(s.P.now.written x && !(L.elem x&&s.P.fresh x))
 kept:s'.P.kept=s.P.kept
 v:s'.V=s.V
 k:s'.k=s.k
def updW(m:List Pr)(a:Wr):List Pr:=if a.d=true then kf m a.k else fB m a.pr
def WrD(c:TC)(w':World)(s s':TP)(d:Nat)(pg gone:List UInt32)(id:UInt32)(d':Nat)(pg':List UInt32)(m':List Pr):Prop :=
 c.pg w' s'/\∃made,Ext c.n s.P s'.P s.V s'.V made/\isT s'.V d' id pg' m'/\(pg'++gone).Perm (pg++made)/\s'.k<=s.k+2*d+3/\d'<=d+1
section
variable {c:TC}{w w':World}{s0 s s1 s':TP}{root id:UInt32}{d d':Nat}{pg pg' gone L:List UInt32}{m m':List Pr}
theorem Frd.nil(s:TP):Frd s s []:=⟨fun x=>by simp,fun x=>by simp,rfl,rfl,rfl⟩
theorem Frd.fresh(h:Frd s s' L){x:UInt32}(hx:x∉L):s'.P.fresh x=s.P.fresh x:=by
 unfold Pg.fresh;have e:L.elem x=false:=by simpa using hx
 rw[h.used,h.kept,e,Bool.false_and,rX,Bool.and_true]
theorem TR.dis(h:TR c w s root d pg m){made:List UInt32}(hx:Ext c.n s.P s'.P s.V s'.V made):(pg++made).Nodup:=by
 rw[jY];exact⟨h.nd,hx.nodup,fun a ha b hb e=>by
  subst e;have h1:=h.at_.wu (h.wr a ha);have h2:=(hx.new a hb).1;unfold Pg.free at h2;rw[h1] at h2;simp at h2⟩
theorem Edt.write{w2:World}(h:Edt c w s0 s root d pg m)(hc:Com s0)(hd:WrD c w2 s s1 d pg gone id d' pg' m')(hf:Frd s1 s' gone)(hp:c.pg w' s'):Edt c w' s0 s' id d' pg' m':=by
 obtain⟨h1,made,hx,ht,hpm,_,_⟩:=hd;have hnd:=hpm.nodup_iff.2 (h.tr.dis hx);have hdis:∀x∈pg',x∉gone:=fun x hx' hg=>by
  have:=List.nodup_append.1 hnd
  exact this.2.2 x hx' x hg rfl
 have hr1:=h.tr.step h1 hx ht hpm;have hnf:∀x,s0.P.now.used x=true->s1.P.fresh x=false:=fun x hx'=>by
  unfold Pg.fresh;rw[show s1.P.kept=s0.P.kept from hx.kept.trans h.kept,hc.1 x,hx'];simp
 refine⟨⟨hp,by rw[hf.v];exact ht,fun x hx'=>?_,hr1.nd⟩,hf.kept.trans (hx.kept.trans h.kept),fun x hx'=>?_,fun x hx'=>?_⟩
 ·have e:gone.elem x=false:=by simpa using hdis x hx'
  rw[hf.writ,hr1.wr x hx',e];rfl
 ·have q:=h.old x hx';refine⟨?_,by rw[hf.v,hx.old x q.1];exact q.2⟩;have hu:s0.P.now.used x=true:=hc.2.2 x hx';rw[hf.writ,hx.wr q.1,hnf x hu];simp
 ·rw[hf.used,jM] at hx';obtain⟨q1,q2⟩:=hx';have hmem:x∈pg++made->s0.P.now.used x=true∨x∈pg':=fun hm=>by
   rcases List.mem_append.1 (hpm.symm.subset hm) with g|g
   ·exact .inr g
   ·refine .inl ?_;have e:gone.elem x=true:=by simpa using g
    rw[e,ju,xo] at q2;unfold Pg.fresh at q2;rw[q1,show s1.P.kept=s0.P.kept from hx.kept.trans h.kept,hc.1 x] at q2
    simpa using q2
  rw[hx.used] at q1;rcases Bool.or_eq_true_iff.1 q1 with g|g
  ·exact hmem (cj _ (by simpa using g))
  ·rcases h.used x g with g2|g2
   ·exact .inl g2
   ·exact hmem (cG _ g2)
theorem Fy(h:c.pg w s)(i:UInt32) :
  Ret Tryz.prog 127 #[c.pv,.int .u32 i.toNat] w fun v w'=>v=.bool (s.P.fresh i)/\Chg [] w w':=by
 refine(wE w c.R c.b c.key h.2.2.2.2 s.P h.2.1 i).mono ?_;rintro v w' ⟨rfl,hh⟩;exact⟨rfl,Chg.heap hh⟩
theorem Fz(h:c.pg w s)(hf:Frd s1 s L)(x:UInt32)(hx:x∉L)(hfr:s1.P.fresh x=true) :
  Ret Tryz.prog 128 #[c.pv,.int .u32 x.toNat] w fun _ w'=>(∃s',c.pg w' s'/\Frd s1 s' (L++[x]))/\Chg c.F w w':=by
 have hfr2:s.P.fresh x=true:=by rw[hf.fresh hx];exact hfr
 have hu:s.P.now.used x=true:=by unfold Pg.fresh at hfr2;exact(Bool.and_eq_true_iff.1 hfr2).1
 refine(vX h x hu).mono ?_;rintro v w' ⟨_,hS,hc⟩;refine⟨⟨⟨s.k,s.ds,{ s.P with now:={ s.P.now with used:=eN s.P.now.used x,written:=eN s.P.now.written x } },s.V⟩,hS,⟨fun y=>?_,fun y=>?_,hf.kept,hf.v,hf.k⟩⟩,hc⟩
 ·show eN s.P.now.used x y=_;unfold eN;rw[hf.used];by_cases e:y=x
  ·subst e;simp[hfr]
  ·simp[e]
 ·show eN s.P.now.written x y=_;unfold eN;rw[hf.writ];by_cases e:y=x
  ·subst e;simp[hfr]
  ·simp[e]
theorem Frd.skip(hf:Frd s1 s L){x:UInt32}(hfr:s1.P.fresh x=false):Frd s1 s (L++[x]):=by
 refine⟨fun y=>?_,fun y=>?_,hf.kept,hf.v,hf.k⟩
 ·rw[hf.used];by_cases e:y=x
  ·subst e;simp[hfr]
  ·simp[e]
 ·rw[hf.writ];by_cases e:y=x
  ·subst e;simp[hfr]
  ·simp[e]
end
theorem G4(c:TC)(w:World)(s0 s:TP)(root:UInt32)(d:Nat)(pg:List UInt32)(m:List Pr)(a:Wr)(sb:Nat)(v1 v2 v3:Value)(h:Edt c w s0 s root d pg m)(h0:Com s0)(hB:Blk w sb [c.pv,v1,v2,v3])(hsb:sb∉c.F)(hg:a.good=true)(hd:d<=40)(hk:s.k+2*d+3<=40000)(hr:2*(d+1)<fZ s.P c.n) :
  Ret Tryz.prog 73 #[.pointer (some ⟨sb,0,none⟩),.int .u32 root.toNat,.agg #[str a.k,str a.v,.bool a.d]] w fun r w'=>(∃(id:UInt32) (d':Nat) (pg':List UInt32) (s':TP),r=.tuple #[.int .u32 id.toNat,.int .i64 0]/\Edt c w' s0 s' id d' pg' (updW m a)/\s'.k<=s.k+2*d+3/\d'<=d+1)/\Chg c.F w w':=by
 have hpr:nN a.pr:=by
  unfold Wr.good at hg
  have:=of_decide_eq_true (Bool.and_eq_true_iff.1 hg).1
  exact⟨⟨this.1,this.2.1⟩,this.2.2⟩
 have hF:=h.tr.at_.lt;refine enter [6,7] Tryz.func73 rfl rfl (al rfl) (zSR (aY rfl (cT (l:=[str a.k,str a.v,.bool a.d]) rfl rfl) ?_));rintro _ w1 ⟨ab,rfl,han,hA1,hc1,hl1⟩;refine a7 rfl (gB (v:=.int .u32 ((0:UInt32).toNat:Nat)) rfl) (za rfl ?_);refine a8 (a6 ?_);have hB1:=hB.chg0 hc1;have h1:=h.tr.chg0 hc1;refine zSR (a7 rfl (gB (v:=.int .u32 ((0:UInt32).toNat:Nat)) rfl) ?_);refine zNR (za rfl (zNR (za rfl (a8 (a6 (dX [0,8,9,10] (fun vs w'=>∃(id:UInt32) (gp:Option Addr) (gc:Nat) (d':Nat) (pg' gone:List UInt32) (s1:TP),vs=[.pointer (some ⟨sb,0,none⟩),.int .u32 id.toNat,.slice gp gone.length gc,.int .i64 0]/\WrD c w' s s1 d pg gone id d' pg' (updW m a)/\gone.length<=2*d+1/\Own w' (.slice gp gone.length gc) gone/\(∀x∈ax (.slice gp gone.length gc),x∉c.F/\w.heap.size<=x)/\Chg c.F w1 w') ?_ ?_))))))
 ·refine zSR (a7 rfl (aa pM rfl I4 rfl rfl) ?_);by_cases had:a.d=true
  ·have hA1:Blk w1 ab [str a.k,str a.v,.bool true]:=by rw[<-had];exact hA1
   have hup:updW m a=kf m a.k:=if_pos had;refine a7 rfl (aC uU4 rfl rfl (hA1.c rfl)) (a8 (a6 (bh (rfl) (aG bz (.pure 0 (.pure 1 (.pure 2 (.read 3 (.pure 4 (.pure 5 (.read 6 (.eff 7 [] (.pure 8 (.pure 9 (.pure 10 (.pure 11 (.pure 12 (.pure 13 (.pure 14 (.pure 15 .nil)))))))))))))))) (by kernel_rfl) ?_))));refine ym rfl (yn rfl (yp rfl (fun _=>(aa dF rfl I24 rfl rfl)) ?_));refine aH rfl rfl rfl nt rfl rfl (hB1.c rfl) (ym rfl (yp rfl (fun _=>(aa pM rfl I9 rfl rfl)) ?_));refine aH rfl rfl rfl uU9 rfl rfl (hA1.c rfl) (ycl rfl C62 ((CV c _ s root d pg m a.k (h1.at_.chg0 (drw _)) h1.tree h1.wr hd hk :)) ?_);rintro v2 w2 ⟨hr2,hc2⟩;refine⟨trivial,?_⟩;have hc2:Chg c.F w1 w2:=(drw w1).tr0' hc2;rcases hr2 with⟨hh,rfl,s2,hs2,hx2,hk2⟩|⟨hh,⟨_,_,hroom⟩|⟨id,d2,pg2,made,gone,gv,s2,rfl,q1,q2,q3,q4,q5,q6,q7,q8,q9,q10,q11⟩⟩
   ·refine ym rfl (yx rfl (yx rfl (yx rfl (yx rfl (ya rfl (ya rfl (ya rfl (aJ (a6 ?_)))))))));refine⟨root,none,0,d,pg,[],s2,rfl,⟨hs2,[],hx2,?_,.refl _,by omega,by omega⟩,eO _,Own.nil _,fun x hx=>by simp[ax] at hx,hc2⟩;rw[hup,F8 (iY h1.tree).2 hh];exact nU h1.tree (fun x hx=>hx2.old x (h1.wr x hx))
   ·omega
   ·have hob1:=q10.form (n:=gone.length) rfl;obtain⟨gp,gc,rfl⟩:=hob1;refine ym rfl (yx rfl (yx rfl (yx rfl (yx rfl (ya rfl (ya rfl (ya rfl (aJ (a6 ?_)))))))));exact⟨id,gp,gc,d2,pg2,gone,s2,rfl,⟨q1,made,q2,by rw[hup];exact q6,q7,q3,q5⟩,q9,q10,fun x hx=>⟨fun hh=>by have:=hF x hh;have q:w1.heap.size<=x:=q11 x hx;have:=hc1.1;omega,by have q:w1.heap.size<=x:=q11 x hx;have:=hc1.1;omega⟩,hc2⟩
  ·have hup:updW m a=fB m a.pr:=if_neg had;have had:a.d=false:=by simpa using had
   have hA1:Blk w1 ab [str a.k,str a.v,.bool false]:=by rw[<-had];exact hA1
   refine a7 rfl (aC uU4 rfl rfl (hA1.c rfl)) (a8 (a6 (aK (rfl) (aG bz (.pure 0 (.pure 1 (.pure 2 (.read 3 (.pure 4 (.pure 5 (.read 6 (.pure 7 (.read 8 (.eff 9 [] (.pure 10 (.pure 11 (.pure 12 (.pure 13 (.pure 14 (.pure 15 (.pure 16 .nil))))))))))))))))) (by kernel_rfl) ?_))));refine ym rfl (yn rfl (yp rfl (fun _=>(aa dF rfl I24 rfl rfl)) ?_));refine aH rfl rfl rfl nt rfl rfl (hB1.c rfl) (ym rfl (yp rfl (fun _=>(aa pM rfl I9 rfl rfl)) ?_));refine aH rfl rfl rfl uU9 rfl rfl (hA1.c rfl) (yp rfl (fun _=>(aa pM rfl I9 rfl rfl)) ?_);refine aH rfl rfl rfl uU9 rfl rfl (hA1.c rfl) (ycl rfl C57 ((E5 c _ s root d pg m a.pr (h1.at_.chg0 (drw _)) h1.tree h1.wr hd hk :)) ?_);rintro v2 w2 ⟨hr2,hc2⟩;refine⟨trivial,?_⟩;have hc2:Chg c.F w1 w2:=(drw w1).tr0' hc2;rcases hr2 with⟨hh,_⟩|⟨hh,⟨_,_,hroom⟩|⟨id,d2,pg2,made,gone,gv,s2,rfl,q1,q2,q3,q4,q5,q6,q7,q8,q9,q10,q11⟩⟩
   ·exact absurd hpr hh
   ·omega
   ·have hob2:=q10.form (n:=gone.length) rfl;obtain⟨gp,gc,rfl⟩:=hob2;refine ym rfl (yx rfl (yx rfl (yx rfl (ya rfl (ya rfl (ya rfl (aJ (a6 ?_))))))));exact⟨id,gp,gc,d2,pg2,gone,s2,rfl,⟨q1,made,q2,by rw[hup];exact q6,q7,q3,q5⟩,q9,q10,fun x hx=>⟨fun hh=>by have:=hF x hh;have q:w1.heap.size<=x:=q11 x hx;have:=hc1.1;omega,by have q:w1.heap.size<=x:=q11 x hx;have:=hc1.1;omega⟩,hc2⟩
 ·rintro vs J w2 ⟨id,gp,gc,d2,pg2,gone,s1,rfl,hW,hgl,hgo,hgf,hc2⟩;refine ae (zSR (zmv rfl (aA rfl aX) (zm rfl ?_)));refine a8 (a6 (aq ?_));have hsw:=hB.lt;have hob3:=id_W hW;obtain⟨hp1,made,hx1,ht1,hpm1,hk1,hd1⟩:=hob3;have hgn:gone.Nodup:=(List.nodup_append.1 (hpm1.nodup_iff.2 (h.tr.dis hx1))).2.1;have hB2:=hB1.chg hc2 hsb;refine bf [0,8,10,42,43,44] (fun n vs w'=>∃(i:Nat) (s':TP),vs=[.pointer (some ⟨sb,0,none⟩),.int .u32 id.toNat,.int .i64 0,.slice gp gone.length gc,.int .i64 gone.length,.int .i64 i]/\i+n=gone.length/\c.pg w' s'/\Frd s1 s' (gone.take i)/\Chg c.F w2 w') (gone.length) ?_ ?_
  ·exact⟨0,s1,rfl,by omega,hp1,Frd.nil _,Chg.refl' _ _⟩
  ·rintro n vs J w3 ⟨i,s3,rfl,hin,hp3,hf3,hc3⟩;refine zSR (a7 rfl (bL rfl rfl) ?_);refine a8 (a6 (ae (az rfl (fun hlt=>?_) (fun hlt=>?_))))
   ·refine aw (a6 (ae (aq (ae (ag ?_)))));have hob4:∃z,n=z+1:=⟨n-1,by omega⟩
    obtain⟨n,rfl⟩:=hob4;have hob5:∃a,gone[i]?=some a:=⟨gone[i]'(by omega),bX _⟩
    obtain⟨x,hx⟩:=hob5;have htk:gone.take (i+1)=gone.take i++[x]:=by rw[j9,hx];rfl
    have hnx:x∉gone.take i:=by
     have:=hgn.sublist (oh (i+1) gone)
     rw[htk,jY] at this;exact fun hh=>this.2.2 x hh x (by simp) rfl
    have hg3:=hgo.mod hc3 (fun x hx=>(hgf x hx).1);have hB3:=hB2.chg hc3 hsb;refine bF rfl (aU (i) aX I25 rfl (hg3.sl) rfl rfl (by first|rfl|omega) (by omega)) ?_;rintro _ ⟨bi,oi,rfl,hei,hbi⟩;refine a7 rfl (aC bw rfl rfl (((hg3.sl.at hei hx).c0 rfl))) (za rfl (zNR (zm rfl (zn rfl rfl (a7 rfl (aa dF rfl I24 rfl rfl) (a7 rfl (aC nt rfl rfl (hB3.c rfl)) (zm rfl (ah rfl C127 (Fy hp3 x) ?_))))))));rintro _ w4 ⟨rfl,hc4⟩;refine a8 (a6 ?_);have hfe:=hf3.fresh hnx;refine bU rfl (fun hfx=>?_) (fun hfx=>?_)
    ·refine ag (zm rfl (zn rfl rfl (a7 rfl (aa dF rfl I24 rfl rfl) ?_)));have hB4:=hB3.chg0 hc4;refine a7 rfl (aC nt rfl rfl (hB4.c rfl)) (zm rfl (ah rfl C128 (Fz (hp3.chg0 hc4) hf3 x hnx (by rw[<-hfe];exact hfx)) ?_));rintro _ w5 ⟨⟨s5,hp5,hf5⟩,hc5⟩;refine a8 (ay (a6 (ag (a7 rfl (aB rfl rfl (by omega)) (zm rfl ?_)))));refine a8 (a6 (aS (n) (bx (by omega) ?_)));exact⟨i+1,s5,rfl,by omega,hp5,by rw[htk];exact hf5,(hc3.tr0 hc4).tr hc5⟩
    ·refine aw (ay (a6 (ag (a7 rfl (aB rfl rfl (by omega)) (zm rfl ?_)))));refine a8 (a6 (aS (n) (bx (by omega) ?_)));exact⟨i+1,s3,rfl,by omega,hp3.chg0 hc4,by rw[htk];exact hf3.skip (by rw[<-hfe];exact hfx),hc3.tr0 hc4⟩
   ·refine aO (an (an (aE (a6 (zSR (zmm rfl (zaa rfl (a8 (a6 (zrf ?_))))))))));have hil:i=gone.length:=by omega
    subst hil;rw[cZ] at hf3;exact⟨⟨id,d2,pg2,s3,rfl,h.write h0 hW hf3 hp3,by rw[hf3.k];exact hk1,hd1⟩,hc1.tr0' (hc2.tr hc3)⟩
theorem Hv{pv:Option Addr}{n cv:Nat}{l0:List UInt32}{w0 w:World}(h:SPm (.slice pv n cv) l0 w0 w)(hn:l0.length=n)(hm:n<=1000)(a b:Nat)(hab:a+8<=b)(hb:b<=n) :
  Ret Tryz.prog 217 #[.slice pv n cv,.int .i64 a,.int .i64 b] w fun _ w'=>SPm (.slice pv n cv) l0 w0 w':=by
 obtain⟨m,hme⟩:∃m:Nat,m=b-a:=⟨_,rfl⟩
 have hmi:(b:Int)-(a:Int)=(m:Int):=by omega
 obtain⟨q4,hq4⟩:∃z:Nat,z=m / 4:=⟨_,rfl⟩
 have hq4i:(m:Int) / 4=(q4:Int):=by omega
 refine enter [] Tryz.func217 rfl rfl (al rfl) (zSR (zmm rfl (a7 rfl (bg rfl rfl (by omega)) (za rfl ?_))));refine zNR (zmv rfl (fH rfl rfl) (a8 (a6 ?_)));rw[hmi];refine bM rfl (by omega) ?_;refine zSR (zmv rfl (cX rfl uU3 tc) ?_);refine aY rfl (dk (l:=[.int .u64 0]) HQ rfl rfl) ?_;rintro _ w1 ⟨rb,rfl,hrn,hR1,hc1,hl1⟩;refine aP rfl (bG HQ rfl rfl (hR1) rfl rfl ((by decide:0<1)) rfl (rfl)) ?_;rintro w2 ⟨hR2,hc2,hs2⟩;refine zNR (zm rfl ?_);obtain⟨l,ho,hp,hk⟩:=id h;have hrb:rb∉ax (.slice pv n cv):=fun hh=>by have:=ho.sl.lt rb hh;omega
 have hrw:w0.heap.size<=rb:=by have:=hk.1;omega
 have h2:SPm (.slice pv n cv) l0 w0 w2:=(h.chg0 hc1).chg1 hc2 hrb hrw;have hR2:Blk w2 rb [.int .u64 ((dh (m:Int)).toNat:Int)]:=hR2;refine ah rfl C227 (H0 m _ (by omega) (by omega)) ?_;rintro _ w3 ⟨⟨y,rfl,hy1,hy2⟩,rfl⟩;refine za rfl (zNR (zmm rfl (a7 rfl (lp rfl rfl (by omega)) (a7 rfl (ek rfl rfl (by omega)) (a7 rfl (aB rfl rfl (by omega)) (a7 rfl (bg rfl rfl (by omega)) (za rfl ?_)))))));refine a8 (a6 (aq ?_));rw[hq4i];have hob1:∃z:Nat,z+1=a+q4*2:=⟨a+q4*2-1,by omega⟩
 obtain⟨i0,hi0⟩:=hob1;have hi0i:(a:Int)+(q4:Int)*2-1=(i0:Int):=by omega
 rw[hi0i];refine bf [0,1,6,7,8,9] (fun q vs w'=>∃(i:Nat) (x:UInt64),vs=[.slice pv n cv,.int .i64 a,.int .i64 m,.pointer (some ⟨rb,0,none⟩),.int .u64 y.toNat,.int .i64 i]/\i+q=i0+4/\i0<=i/\Blk w' rb [.int .u64 x.toNat]/\SPm (.slice pv n cv) l0 w0 w') (4) ?_ ?_
 ·exact⟨i0,_,rfl,by omega,aM _,hR2,h2⟩
 ·rintro q vs J w4 ⟨i,x,rfl,hiq,hi,hR4,h4⟩;refine ae (zSR (zmm rfl (zmv rfl (lp rfl rfl (by omega)) (a7 rfl (ek rfl rfl (by omega)) (a7 rfl (aB rfl rfl (by omega)) (a7 rfl (aB rfl rfl (by omega)) (a7 rfl (gd rfl rfl) ?_)))))));refine a8 (a6 ?_);have hq4i:(m:Int) / 4=(q4:Int):=by omega
  refine az rfl (fun hle=>?_) (fun hle=>?_)
  ·refine aw (a6 (ae (aq (ae (ag ?_)))));have hob2:∃z,q=z+1:=⟨q-1,by omega⟩
   obtain⟨q,rfl⟩:=hob2;refine ah rfl C228 (Next_ok rb x _ hR4) ?_;rintro _ w5 ⟨x2,rfl,hR5,hc5⟩;have h5:=h4.chg1 hc5 hrb hrw;have hub:(x2 &&& (y-1)).toNat<2*m:=by
    have h1:(x2 &&& (y-1)).toNat<=(y-1).toNat:=by rw[UInt64.toNat_and];exact Nat.and_le_right
    have h2:(y-1).toNat=y.toNat-1:=by
     rw[UInt64.toNat_sub_of_le y 1 (UInt64.le_iff_toNat_le.2 (show(1:UInt64).toNat<=y.toNat from hy1))];rfl
    omega
   refine zmv rfl (uz (b:=1) rfl rfl) (a7 rfl (zR rfl rfl) (a7 rfl (fz rfl oZ uU3 (by omega)) (za rfl ?_)));refine a8 (a6 (ae (zSR (zmm rfl (a7 rfl (fH rfl rfl) (a8 (a6 ?_)))))));have hob3:∃u:Nat,u=(x2 &&& (y-1)).toNat:=⟨_,rfl⟩
   obtain⟨u,hu⟩:=hob3;rw[<-hu] at hub;rw[<-hu];obtain⟨l28,ho28,hp28,hk28⟩:=id h5;have hl28:l28.length=n:=hp28.length_eq.trans hn;refine az rfl (fun hge=>?_) (fun hge=>?_)
   ·refine ag (zmm rfl (a7 rfl (bg rfl rfl (by omega)) (za rfl ?_)));refine a8 (a6 ?_);have hob4:∃o,u=o+m:=⟨u-m,by omega⟩
    obtain⟨o,rfl⟩:=hob4;refine aG bz (.pure 0 (.pure 1 (.pure 2 (.pure 3 (.pure 4 (.pure 5 (.pure 6 (.pure 7 (.pure 8 (.pure 9 (.pure 10 (.read 11 (.pure 12 (.pure 13 (.pure 14 (.read 15 (.pure 16 (.eff 17 [] (.pure 18 (.eff 19 [] .nil)))))))))))))))))))) (by kernel_rfl) ?_;refine ym rfl (ym rfl (ym rfl (ym rfl (ym rfl (yp rfl (fun _=>(aB rfl rfl (by omega))) ?_)))));refine ym rfl (ym rfl (ym rfl (yp rfl (fun _=>(aB rfl rfl (by omega))) ?_)));refine yex rfl (aU (a+o) aX I25 rfl (ho28.sl) rfl rfl (by first|rfl|omega) (by omega)) ?_;rintro _ ⟨b29,o29,rfl,he29,hb29⟩;refine aH rfl rfl rfl bw rfl rfl ((ho28.sl.at he29 (getD_some (d:=0) (by omega))).c0 rfl) ?_;refine ym rfl (ym rfl (yex rfl (aU (i) aX I25 rfl (ho28.sl) rfl rfl (by first|rfl|omega) (by omega)) ?_));rintro _ ⟨b30,o30,rfl,he30,hb30⟩;refine aH rfl rfl rfl bw rfl rfl ((ho28.sl.at he30 (getD_some (d:=0) (by omega))).c0 rfl) ?_;refine yex rfl (aU (i) aX I25 rfl (ho28.sl) rfl rfl (by first|rfl|omega) (by omega)) ?_;rintro _ ⟨b31,o31,rfl,he31,hb31⟩;refine dr rfl (bR (a:=l28.getD (a+o) 0) I25 rfl (ho28.mod0 (drw _)) rfl (he31) rfl rfl (by omega)) ?_;rintro u31 ⟨hou31,hcu31,hsu31⟩;refine⟨trivial,?_⟩;refine yex rfl (aU (a+o) aX I25 rfl (hou31.sl) rfl rfl (by first|rfl|omega) (by simp;omega)) ?_;rintro _ ⟨b32,o32,rfl,he32,hb32⟩;refine dr rfl (bR (a:=l28.getD (i) 0) I25 rfl (hou31) rfl (he32) rfl rfl (by simp;omega)) ?_;rintro u32 ⟨hou32,hcu32,hsu32⟩;refine⟨trivial,?_⟩;refine aJ (ay (a6 (ag (zmv rfl (aB rfl rfl (by omega)) (za rfl ?_)))));refine a8 (a6 ?_);have hS32:SPm (.slice pv n cv) l0 w0 u32:=⟨_,hou32,(ez l28 (i) (a+o) (by omega) (by omega)).trans hp28,((hk28.tr0 (drw _)).tr hcu31).tr hcu32⟩
    have hR33:Blk u32 rb [.int .u64 x2.toNat]:=((hR5.chg0 (drw _)).chg hcu31 hrb).chg hcu32 hrb;refine aS (q) (bx (by omega) ?_);exact⟨i+1,x2,rfl,by omega,by omega,hR33,hS32⟩
   ·refine aw (a6 (aG bz (.pure 0 (.pure 1 (.pure 2 (.pure 3 (.pure 4 (.pure 5 (.pure 6 (.pure 7 (.pure 8 (.pure 9 (.pure 10 (.read 11 (.pure 12 (.pure 13 (.pure 14 (.read 15 (.pure 16 (.eff 17 [] (.pure 18 (.eff 19 [] .nil)))))))))))))))))))) (by kernel_rfl) ?_));refine ym rfl (ym rfl (ym rfl (ym rfl (ym rfl (yp rfl (fun _=>(aB rfl rfl (by omega))) ?_)))));refine ym rfl (ym rfl (ym rfl (yp rfl (fun _=>(aB rfl rfl (by omega))) ?_)));refine yex rfl (aU (a+u) aX I25 rfl (ho28.sl) rfl rfl (by first|rfl|omega) (by omega)) ?_;rintro _ ⟨b34,o34,rfl,he34,hb34⟩;refine aH rfl rfl rfl bw rfl rfl ((ho28.sl.at he34 (getD_some (d:=0) (by omega))).c0 rfl) ?_;refine ym rfl (ym rfl (yex rfl (aU (i) aX I25 rfl (ho28.sl) rfl rfl (by first|rfl|omega) (by omega)) ?_));rintro _ ⟨b35,o35,rfl,he35,hb35⟩;refine aH rfl rfl rfl bw rfl rfl ((ho28.sl.at he35 (getD_some (d:=0) (by omega))).c0 rfl) ?_;refine yex rfl (aU (i) aX I25 rfl (ho28.sl) rfl rfl (by first|rfl|omega) (by omega)) ?_;rintro _ ⟨b36,o36,rfl,he36,hb36⟩;refine dr rfl (bR (a:=l28.getD (a+u) 0) I25 rfl (ho28.mod0 (drw _)) rfl (he36) rfl rfl (by omega)) ?_;rintro u36 ⟨hou36,hcu36,hsu36⟩;refine⟨trivial,?_⟩;refine yex rfl (aU (a+u) aX I25 rfl (hou36.sl) rfl rfl (by first|rfl|omega) (by simp;omega)) ?_;rintro _ ⟨b37,o37,rfl,he37,hb37⟩;refine dr rfl (bR (a:=l28.getD (i) 0) I25 rfl (hou36) rfl (he37) rfl rfl (by simp;omega)) ?_;rintro u37 ⟨hou37,hcu37,hsu37⟩;refine⟨trivial,?_⟩;refine aJ (ay (a6 (ag (zmv rfl (aB rfl rfl (by omega)) (za rfl ?_)))));refine a8 (a6 ?_);have hS37:SPm (.slice pv n cv) l0 w0 u37:=⟨_,hou37,(ez l28 (i) (a+u) (by omega) (by omega)).trans hp28,((hk28.tr0 (drw _)).tr hcu36).tr hcu37⟩
    have hR38:Blk u37 rb [.int .u64 x2.toNat]:=((hR5.chg0 (drw _)).chg hcu36 hrb).chg hcu37 hrb;refine aS (q) (bx (by omega) ?_);exact⟨i+1,x2,rfl,by omega,by omega,hR38,hS37⟩
  ·refine aO (an (an (aE (g0 ?_))));exact h4
theorem sy{pv:Option Addr}{n cv:Nat}{l0:List UInt32}{w0 w:World}(h:SPm (.slice pv n cv) l0 w0 w)(hn:l0.length=n)(_:n<=1000)(a b:Nat)(ha:a<n)(hb:b<n)(sb s:Nat)(hs:s<=100)(hB:Blk w sb [.int .i64 s])(hsb:sb∉ax (.slice pv n cv))(hs0:w0.heap.size<=sb) :
  Ret Tryz.prog 269 #[.slice pv n cv,.int .i64 a,.int .i64 b,.pointer (some ⟨sb,0,none⟩)] w fun r w'=>(∃(a' b' s':Nat),r=.tuple #[.int .i64 a',.int .i64 b']/\(a'=a/\b'=b∨a'=b/\b'=a)/\s'<=s+1/\Blk w' sb [.int .i64 s'])/\SPm (.slice pv n cv) l0 w0 w':=by
 refine enter [8,9] Tryz.func269 rfl rfl (al rfl) (zSR (zaa rfl (a8 (a6 (ae (ae ?_))))));obtain⟨l39,ho39,hp39,hk39⟩:=id h;have hl39:l39.length=n:=hp39.length_eq.trans hn;refine aG bz (.pure 0 (.pure 1 (.pure 2 (.read 3 (.pure 4 (.pure 5 (.pure 6 (.read 7 (.eff 8 [] .nil))))))))) (by kernel_rfl) ?_;refine ym rfl (ym rfl (yex rfl (aU (b) aX I25 rfl (ho39.sl) rfl rfl (by first|rfl|omega) (by omega)) ?_));rintro _ ⟨b40,o40,rfl,he40,hb40⟩;refine aH rfl rfl rfl bw rfl rfl ((ho39.sl.at he40 (getD_some (d:=0) (by omega))).c0 rfl) ?_;refine ym rfl (ym rfl (yex rfl (aU (a) aX I25 rfl (ho39.sl) rfl rfl (by first|rfl|omega) (by omega)) ?_));rintro _ ⟨b41,o41,rfl,he41,hb41⟩;refine aH rfl rfl rfl bw rfl rfl ((ho39.sl.at he41 (getD_some (d:=0) (by omega))).c0 rfl) ?_;refine ycl rfl qt (eL (l39.getD (b) 0) (l39.getD (a) 0) _) ?_;rintro _ v42 ⟨rfl,hv42⟩;refine⟨trivial,?_⟩;refine aJ (a6 ?_);have hcv42:Chg [] w v42:=by rw[hv42];exact Chg.heap rfl
 have hS42:SPm (.slice pv n cv) l0 w0 v42:=SPm.chg0 ⟨l39,ho39,hp39,hk39⟩ hcv42;have hB42:=hB.chg0 hcv42;refine bU rfl (fun hls=>?_) (fun hls=>?_)
 ·refine zSR (zm rfl (zn rfl rfl (a7 rfl (aC uU3 rfl rfl (hB42.c rfl)) ?_)));refine a7 rfl (aB rfl rfl (by omega)) (zn rfl rfl ?_);refine aP rfl (bG I3 rfl rfl (hB42) rfl rfl ((by decide:0<1)) rfl (rfl)) ?_;rintro w8 ⟨hB8,hc8,hs8⟩;refine zNR (zmm rfl (zaa rfl (a8 (a6 (zrt ?_)))));exact⟨⟨b,a,s+1,rfl,.inr ⟨rfl,rfl⟩,aM _,hB8⟩,hS42.chg1 hc8 hsb hs0⟩
 ·refine zKR (zmm rfl (zaa rfl (a8 (a6 (zrf ?_)))));exact⟨⟨a,b,s,rfl,.inl ⟨rfl,rfl⟩,by omega,hB42⟩,hS42⟩
theorem sC{pv:Option Addr}{n cv:Nat}{l0:List UInt32}{w0 w:World}(h:SPm (.slice pv n cv) l0 w0 w)(hn:l0.length=n)(hm:n<=1000)(a b c:Nat)(ha:a<n)(hb:b<n)(hc:c<n)(sb s:Nat)(hs:s<=50)(hB:Blk w sb [.int .i64 s])(hsb:sb∉ax (.slice pv n cv))(hs0:w0.heap.size<=sb) :
  Ret Tryz.prog 247 #[.slice pv n cv,.int .i64 a,.int .i64 b,.int .i64 c,.pointer (some ⟨sb,0,none⟩)] w fun r w'=>(∃(d s':Nat),r=.int .i64 d/\(d=a∨d=b∨d=c)/\s'<=s+3/\Blk w' sb [.int .i64 s'])/\SPm (.slice pv n cv) l0 w0 w':=by
 refine enter [10] Tryz.func247 rfl rfl (al rfl) (zSR (za rfl (zNR (zmm rfl (zmm rfl (ah rfl C269 (sy h hn hm a b ha hb sb s (by omega) hB hsb hs0) ?_))))));rintro _ w1 ⟨⟨a1,b1,s1,rfl,h1,hs1,hB1⟩,hS1⟩;refine zm rfl (zx rfl (zx rfl (zaa rfl (zNR (zmm rfl (zmm rfl (ah rfl C269 (sy hS1 hn hm b1 c (by omega) hc sb s1 (by omega) hB1 hsb hs0) ?_)))))));rintro _ w2 ⟨⟨b2,c2,s2,rfl,h2,hs2,hB2⟩,hS2⟩;refine zm rfl (zx rfl (zx rfl (zaa rfl (zNR (zmm rfl (zmm rfl (ah rfl C269 (sy hS2 hn hm a1 b2 (by omega) (by omega) sb s2 (by omega) hB2 hsb hs0) ?_)))))));rintro _ w3 ⟨⟨a3,b3,s3,rfl,h3,hs3,hB3⟩,hS3⟩;refine zm rfl (zx rfl (zx rfl (zaa rfl (zNR (zma rfl (a8 (a6 (zrf ?_))))))));exact⟨⟨b3,s3,rfl,by omega,by omega,hB3⟩,hS3⟩
theorem sD{pv:Option Addr}{n cv:Nat}{l0:List UInt32}{w0 w:World}(h:SPm (.slice pv n cv) l0 w0 w)(hn:l0.length=n)(hm:n<=1000)(a:Nat)(ha0:1<=a)(ha:a+1<n)(sb s:Nat)(hs:s<=50)(hB:Blk w sb [.int .i64 s])(hsb:sb∉ax (.slice pv n cv))(hs0:w0.heap.size<=sb) :
  Ret Tryz.prog 246 #[.slice pv n cv,.int .i64 a,.pointer (some ⟨sb,0,none⟩)] w fun r w'=>(∃(d s':Nat),r=.int .i64 d/\a<=d+1/\d<=a+1/\s'<=s+3/\Blk w' sb [.int .i64 s'])/\SPm (.slice pv n cv) l0 w0 w':=by
 have hob5:∃z,a=z+1:=⟨a-1,by omega⟩
 obtain⟨a',rfl⟩:=hob5;have hai:((a'+1:Nat):Int)-1=(a':Int):=by omega
 refine enter [6] Tryz.func246 rfl rfl (al rfl) (zSR (za rfl (zNR (zmm rfl (a7 rfl (bg rfl rfl (by omega)) (zmm rfl (a7 rfl (aB rfl rfl (by omega)) (zm rfl ?_))))))));rw[hai];refine ah rfl C247 (sC h hn hm a' (a'+1) (a'+2) (by omega) (by omega) (by omega) sb s hs hB hsb hs0) ?_;rintro _ w1 ⟨⟨d,s1,rfl,h1,hs1,hB1⟩,hS1⟩;refine za rfl (a8 (a6 (zrf ?_)));exact⟨⟨d,s1,rfl,by omega,by omega,hs1,hB1⟩,hS1⟩
theorem GI{pv:Option Addr}{n cv:Nat}{l0:List UInt32}{w0 w:World}(h:SPm (.slice pv n cv) l0 w0 w)(hn:l0.length=n)(hm:n<=1000)(a b:Nat)(hab:a+8<=b)(hb:b<=n) :
  Ret Tryz.prog 218 #[.slice pv n cv,.int .i64 a,.int .i64 b] w fun r w'=>(∃(p:Nat) (hint:Int),r=.tuple #[.int .i64 p,.int .i64 hint]/\a<=p/\p<b/\0<=hint/\hint<=2)/\SPm (.slice pv n cv) l0 w0 w':=by
 obtain⟨m,hme⟩:∃m:Nat,m=b-a:=⟨_,rfl⟩
 have hmi:(b:Int)-(a:Int)=(m:Int):=by omega
 obtain⟨q4,hq4⟩:∃z:Nat,z=m / 4:=⟨_,rfl⟩
 have hq4i:(m:Int) / 4=(q4:Int):=by omega
 refine enter [6,7] Tryz.func218 rfl rfl (al rfl) (zSR (zaa rfl (zNR (zmm rfl (a7 rfl (bg rfl rfl (by omega)) (za rfl ?_))))));refine a8 (a6 (ae (ag ?_)));rw[hmi];refine aY rfl (dk (l:=[.int .i64 0]) I3 rfl rfl) ?_;rintro _ w1 ⟨sb,rfl,hsn,hB1,hc1,hl1⟩;refine zNR (zmm rfl (a7 rfl (lp rfl rfl (by omega)) (a7 rfl (ek rfl rfl (by omega)) (a7 rfl (aB rfl rfl (by omega)) (za rfl ?_)))));refine zNR (zmm rfl (a7 rfl (lp rfl rfl (by omega)) (a7 rfl (ek rfl rfl (by omega)) (a7 rfl (aB rfl rfl (by omega)) (za rfl ?_)))));refine zNR (zmm rfl (a7 rfl (lp rfl rfl (by omega)) (a7 rfl (ek rfl rfl (by omega)) (a7 rfl (aB rfl rfl (by omega)) (za rfl ?_)))));refine a8 (a6 (ae (zSR (zmv rfl (fH rfl rfl) (a8 (a6 ?_))))));obtain⟨l,ho,hp,hk⟩:=id h;have hsb:sb∉ax (.slice pv n cv):=fun hh=>by have:=ho.sl.lt sb hh;omega
 have hs0:w0.heap.size<=sb:=by have:=hk.1;omega
 have h1:=h.chg0 hc1;rw[hq4i];have hob1:∃z:Nat,z=a+q4*1:=⟨_,rfl⟩
 obtain⟨i,hi⟩:=hob1;have hob2:∃z:Nat,z=a+q4*2:=⟨_,rfl⟩
 obtain⟨j,hj⟩:=hob2;have hob3:∃z:Nat,z=a+q4*3:=⟨_,rfl⟩
 obtain⟨k,hk2⟩:=hob3;have hii:(a:Int)+(q4:Int)*1=(i:Int):=by omega
 have hjj:(a:Int)+(q4:Int)*2=(j:Int):=by omega
 have hkk:(a:Int)+(q4:Int)*3=(k:Int):=by omega
 rw[hii,hjj,hkk];refine bM rfl (by omega) ?_;refine ae (zSR (zmv rfl (fH rfl rfl) ?_));refine a8 (a6 (az rfl (fun h50=>?_) (fun h50=>?_)))
 ·refine zSR (zmm rfl (ah rfl C246 (sD h1 hn hm i (by omega) (by omega) sb 0 (by omega) hB1 hsb hs0) ?_));rintro _ w2 ⟨⟨i2,s2,rfl,hi1,hi2,hs2,hB2⟩,h2⟩;refine za rfl (zNR (zmm rfl (ah rfl C246 (sD h2 hn hm j (by omega) (by omega) sb s2 (by omega) hB2 hsb hs0) ?_)));rintro _ w3 ⟨⟨j3,s3,rfl,hj1,hj2,hs3,hB3⟩,h3⟩;refine za rfl (a8 (a6 (ag (zmm rfl (ah rfl C246 (sD h3 hn hm k (by omega) (by omega) sb s3 (by omega) hB3 hsb hs0) ?_)))));rintro _ w4 ⟨⟨k4,s4,rfl,hk3,hk4,hs4,hB4⟩,h4⟩;refine za rfl (a8 (a6 (ag (zmm rfl (zmm rfl (ah rfl C247 (sC h4 hn hm i2 j3 k4 (by omega) (by omega) (by omega) sb s4 (by omega) hB4 hsb hs0) ?_))))));rintro _ x43 ⟨⟨p43,s43,rfl,hp43,hs43,hB43⟩,hS43⟩;refine za rfl (zNR (a7 rfl (aC uU3 rfl rfl (hB43.c rfl)) (a8 (a6 (aq (zSR (a7 rfl (dB rfl rfl) (za rfl (a8 (a6 (az rfl (fun hz43=>?_) (fun hz43=>?_))))))))))))
  ·refine zSR (zma rfl (za rfl (a8 (a6 (bC (aZ (dj ?_)))))));exact⟨⟨p43,1,rfl,by omega,by omega,by decide,by decide⟩,hS43⟩
  ·refine zSR (a7 rfl (dB rfl rfl) (za rfl ?_));refine a8 (a6 (az rfl (fun hy43=>?_) (fun hy43=>?_)))
   ·refine zSR (zma rfl (za rfl (a8 (a6 (bC (aZ (dj ?_)))))));exact⟨⟨p43,2,rfl,by omega,by omega,by decide,by decide⟩,hS43⟩
   ·refine zSR (zma rfl (za rfl (a8 (a6 (bC (aZ (dj ?_)))))));exact⟨⟨p43,0,rfl,by omega,by omega,by decide,by decide⟩,hS43⟩
 ·refine aw (a6 (ag (zmm rfl (zmm rfl (ah rfl C247 (sC h1 hn hm i j k (by omega) (by omega) (by omega) sb 0 (by omega) hB1 hsb hs0) ?_)))));rintro _ x44 ⟨⟨p44,s44,rfl,hp44,hs44,hB44⟩,hS44⟩;refine za rfl (zNR (a7 rfl (aC uU3 rfl rfl (hB44.c rfl)) (a8 (a6 (aq (zSR (a7 rfl (dB rfl rfl) (za rfl (a8 (a6 (az rfl (fun hz44=>?_) (fun hz44=>?_))))))))))))
  ·refine zSR (zma rfl (za rfl (a8 (a6 (bC (aZ (dj ?_)))))));exact⟨⟨p44,1,rfl,by omega,by omega,by decide,by decide⟩,hS44⟩
  ·refine zSR (a7 rfl (dB rfl rfl) (za rfl ?_));refine a8 (a6 (az rfl (fun hy44=>?_) (fun hy44=>?_)))
   ·refine zSR (zma rfl (za rfl (a8 (a6 (bC (aZ (dj ?_)))))));exact⟨⟨p44,2,rfl,by omega,by omega,by decide,by decide⟩,hS44⟩
   ·refine zSR (zma rfl (za rfl (a8 (a6 (bC (aZ (dj ?_)))))));exact⟨⟨p44,0,rfl,by omega,by omega,by decide,by decide⟩,hS44⟩
theorem revR_ok{pv:Option Addr}{n cv:Nat}{l0:List UInt32}{w0 w:World}(h:SPm (.slice pv n cv) l0 w0 w)(hn:l0.length=n)(hm:n<=1000)(a b:Nat)(hab:a<b)(hb:b<=n) :
  Ret Tryz.prog 219 #[.slice pv n cv,.int .i64 a,.int .i64 b] w fun _ w'=>SPm (.slice pv n cv) l0 w0 w':=by
 have hob4:∃z:Nat,b=z+1:=⟨b-1,by omega⟩
 obtain⟨j0,hj0⟩:=hob4;have hji:(b:Int)-1=(j0:Int):=by omega
 refine enter [] Tryz.func219 rfl rfl (al rfl) (zSR (zma rfl (zNR (zmv rfl (bg rfl rfl (by omega)) (za rfl ?_)))));refine a8 (a6 (aq ?_));rw[hji];refine bf [0,6,7] (fun q vs w'=>∃i j:Nat,vs=[.slice pv n cv,.int .i64 i,.int .i64 j]/\j+1<=i+q/\i<=n/\j<n/\SPm (.slice pv n cv) l0 w0 w') (n+1) ?_ ?_
 ·exact⟨a,j0,rfl,by omega,by omega,by omega,h⟩
 ·rintro q vs J w1 ⟨i,j,rfl,hq,hi,hj,h1⟩;refine ae (zSR (zmm rfl (a7 rfl (bL rfl rfl) ?_)));refine a8 (a6 ?_);obtain⟨l45,ho45,hp45,hk45⟩:=id h1;have hl45:l45.length=n:=hp45.length_eq.trans hn;refine az rfl (fun hlt=>?_) (fun hlt=>?_)
  ·refine aw (a6 (aq (ae ?_)));have hob5:∃z,q=z+1:=⟨q-1,by omega⟩
   obtain⟨q,rfl⟩:=hob5;have hob6:∃z,j=z+1:=⟨j-1,by omega⟩
   obtain⟨j,rfl⟩:=hob6;refine aG bz (.pure 0 (.pure 1 (.pure 2 (.pure 3 (.pure 4 (.pure 5 (.pure 6 (.read 7 (.pure 8 (.pure 9 (.pure 10 (.read 11 (.pure 12 (.eff 13 [] (.pure 14 (.eff 15 [] .nil)))))))))))))))) (by kernel_rfl) ?_;refine ym rfl (ym rfl (ym rfl (ym rfl (ym rfl (ym rfl (yex rfl (aU (j+1) aX I25 rfl (ho45.sl) rfl rfl (by first|rfl|omega) (by omega)) ?_))))));rintro _ ⟨b46,o46,rfl,he46,hb46⟩;refine aH rfl rfl rfl bw rfl rfl ((ho45.sl.at he46 (getD_some (d:=0) (by omega))).c0 rfl) ?_;refine ym rfl (ym rfl (yex rfl (aU (i) aX I25 rfl (ho45.sl) rfl rfl (by first|rfl|omega) (by omega)) ?_));rintro _ ⟨b47,o47,rfl,he47,hb47⟩;refine aH rfl rfl rfl bw rfl rfl ((ho45.sl.at he47 (getD_some (d:=0) (by omega))).c0 rfl) ?_;refine yex rfl (aU (i) aX I25 rfl (ho45.sl) rfl rfl (by first|rfl|omega) (by omega)) ?_;rintro _ ⟨b48,o48,rfl,he48,hb48⟩;refine dr rfl (bR (a:=l45.getD (j+1) 0) I25 rfl (ho45.mod0 (drw _)) rfl (he48) rfl rfl (by omega)) ?_;rintro u48 ⟨hou48,hcu48,hsu48⟩;refine⟨trivial,?_⟩;refine yex rfl (aU (j+1) aX I25 rfl (hou48.sl) rfl rfl (by first|rfl|omega) (by simp;omega)) ?_;rintro _ ⟨b49,o49,rfl,he49,hb49⟩;refine dr rfl (bR (a:=l45.getD (i) 0) I25 rfl (hou48) rfl (he49) rfl rfl (by simp;omega)) ?_;rintro u49 ⟨hou49,hcu49,hsu49⟩;refine⟨trivial,?_⟩;refine zPR (zmv rfl (aB rfl rfl (by omega)) (za rfl ?_));refine a8 (a6 (ag (zmv rfl (bg rfl rfl (by omega)) (za rfl ?_))));refine a8 (ay (a6 ?_));have hS49:SPm (.slice pv n cv) l0 w0 u49:=⟨_,hou49,(ez l45 (i) (j+1) (by omega) (by omega)).trans hp45,((hk45.tr0 (drw _)).tr hcu48).tr hcu49⟩
   refine aS (q) (bx (by omega) ?_);exact⟨i+1,j,(au rfl (au rfl (au (bH (by omega)) bK))),by omega,by omega,by omega,hS49⟩
  ·refine aO (an (an (aE (g0 ?_))));exact h1
theorem GO{pv:Option Addr}{n cv:Nat}{l0:List UInt32}{w0 w:World}(h:SPm (.slice pv n cv) l0 w0 w)(hn:l0.length=n)(hm:n<=1000)(a b:Nat)(hab:a<b)(hb:b<=n) :
  Ret Tryz.prog 220 #[.slice pv n cv,.int .i64 a,.int .i64 b] w fun r w'=>(∃t:Bool,r=.bool t)/\SPm (.slice pv n cv) l0 w0 w':=by
 refine enter [6] Tryz.func220 rfl rfl (al rfl) (zSR (za rfl (zNR (zmv rfl (aB rfl rfl (by omega)) (za rfl ?_)))));refine a8 (a6 (ae (zSR (za rfl (a8 (a6 (aq (bf [0,1,2,7,8] (fun q vs w'=>∃i j:Nat,vs=[.slice pv n cv,.int .i64 a,.int .i64 b,.int .i64 i,.int .i64 j]/\j+q=6/\a+1<=i/\i<=b/\SPm (.slice pv n cv) l0 w0 w') (6) ?_ ?_))))))))
 ·exact⟨a+1,0,rfl,by omega,by omega,by omega,h⟩
 ·rintro q vs J w1 ⟨i,j,rfl,hq,hi1,hi2,h1⟩;refine ae (zSR (zmv rfl (bL rfl rfl) ?_));refine a8 (a6 (az rfl (fun hlt=>?_) (fun hlt=>?_)))
  ·refine aw (a6 ?_);have hob1:∃z,q=z+1:=⟨q-1,by omega⟩
   obtain⟨q,rfl⟩:=hob1;refine ae (aq (dX [0,1,2,7,8] (fun vs w'=>∃i:Nat,vs=[.slice pv n cv,.int .i64 a,.int .i64 b,.int .i64 i,.int .i64 j]/\a+1<=i/\i<=b/\SPm (.slice pv n cv) l0 w0 w') ?_ ?_))
   ·refine aq (bf [0,1,2,7,8] (fun q2 vs w'=>∃i:Nat,vs=[.slice pv n cv,.int .i64 a,.int .i64 b,.int .i64 i,.int .i64 j]/\b+1<=i+q2/\a+1<=i/\i<=b/\SPm (.slice pv n cv) l0 w0 w') (n+1) ?_ ?_)
    ·exact⟨i,rfl,by omega,hi1,hi2,h1⟩
    ·rintro q2 vs2 J2 w2 ⟨i,rfl,hq2,hi1,hi2,h2⟩;refine ae (ae ?_);obtain⟨l50,ho50,hp50,hk50⟩:=id h2;have hl50:l50.length=n:=hp50.length_eq.trans hn;refine aG bz (.pure 0 (.pure 1 (.pure 2 (.pure 3 (.pure 4 (.pure 5 (.pure 6 (.read 7 (.pure 8 (.pure 9 (.pure 10 (.pure 11 (.read 12 (.eff 13 [] (.pure 14 (.pure 15 .nil)))))))))))))))) (by kernel_rfl) ?_;refine ym rfl (ym rfl ?_);by_cases hjb:i<b
     ·refine yp rfl (fun _=>bJ (bL rfl rfl) (congrArg Value.bool (decide_eq_true ((by omega))))) ?_;refine ym rfl (ym rfl (ym rfl (yex rfl (aU (i) aX I25 rfl (ho50.sl) rfl rfl (by first|rfl|omega) (by omega)) ?_)));rintro _ ⟨b51,o51,rfl,he51,hb51⟩;refine aH rfl rfl rfl bw rfl rfl ((ho50.sl.at he51 (getD_some (d:=0) (by omega))).c0 rfl) ?_;refine ym rfl (ym rfl (yp rfl (fun _=>(bg rfl rfl (by omega))) ?_));refine yex rfl (aU (i-1) aX I25 rfl (ho50.sl) rfl rfl (by first|rfl|omega) (by omega)) ?_;rintro _ ⟨b52,o52,rfl,he52,hb52⟩;refine aH rfl rfl rfl bw rfl rfl ((ho50.sl.at he52 (getD_some (d:=0) (by omega))).c0 rfl) ?_;refine ycl rfl qt (eL (l50.getD (i) 0) (l50.getD (i-1) 0) _) ?_;rintro _ v53 ⟨rfl,hv53⟩;refine⟨trivial,?_⟩;refine yp rfl (fun _=>(cA rfl)) ?_;refine yp rfl (fun _=>(aQ rfl)) ?_;refine aJ (a6 ?_);have hcv53:Chg [] w2 v53:=by rw[hv53];exact Chg.heap rfl
      have hS53:SPm (.slice pv n cv) l0 w0 v53:=SPm.chg0 ⟨l50,ho50,hp50,hk50⟩ hcv53;refine bU rfl (fun hless=>?_) (fun hless=>?_)
      ·refine aw (a6 (aq (ag (zmv rfl (aB rfl rfl (by omega)) (za rfl ?_)))));refine a8 (ay (a6 ?_));have hob2:∃z,q2=z+1:=⟨q2-1,by omega⟩
       obtain⟨q2,rfl⟩:=hob2;refine aS (q2) (bx (by omega) ?_);exact⟨i+1,rfl,by omega,by omega,by omega,hS53⟩
      ·refine zxx ?_;exact⟨i,rfl,hi1,hi2,hS53⟩
     ·refine yp rfl (fun _=>bJ (bL rfl rfl) (congrArg Value.bool (decide_eq_false ((by omega))))) ?_;refine ym rfl (yno rfl (yno rfl (yno rfl (cg rfl rfl rfl (yno rfl (yno rfl (yno rfl (yno rfl (cg rfl rfl rfl (iI rfl rfl rfl (yno rfl (yp rfl (fun _=>(aN rfl)) ?_))))))))))));refine aJ (a6 (aK (rfl) (zxx ?_)));exact⟨i,rfl,hi1,hi2,h2.chg0 (drw _)⟩
   ·rintro vs2 J2 w2 ⟨i,rfl,hi1,hi2,h2⟩;refine ae (zSR (zmm rfl (a7 rfl (dB rfl rfl) ?_)));refine a8 (a6 (az rfl (fun hib=>?_) (fun hib=>?_)))
    ·refine zSR (za rfl (a8 (a6 (bC (aR (aZ (aR (aR (aZ (aR (dj ?_)))))))))));exact⟨⟨_,rfl⟩,h2⟩
    ·refine aw (a6 (ae (zSR (zmm rfl (a7 rfl (bg rfl rfl (by omega)) (a7 rfl (bL rfl rfl) ?_))))));refine a8 (a6 (az rfl (fun h50=>?_) (fun h50=>?_)))
     ·refine zSR (za rfl (a8 (a6 (bC (aR (aZ (aR (aR (aZ (aR (dj ?_)))))))))));exact⟨⟨_,rfl⟩,h2⟩
     ·refine aw (a6 (ae ?_));obtain⟨l54,ho54,hp54,hk54⟩:=id h2;have hl54:l54.length=n:=hp54.length_eq.trans hn;refine aG bz (.pure 0 (.pure 1 (.pure 2 (.pure 3 (.pure 4 (.pure 5 (.pure 6 (.pure 7 (.pure 8 (.read 9 (.pure 10 (.pure 11 (.pure 12 (.read 13 (.pure 14 (.eff 15 [] (.pure 16 (.eff 17 [] .nil)))))))))))))))))) (by kernel_rfl) ?_;refine ym rfl (ym rfl (ym rfl (ym rfl (yp rfl (fun _=>(bg rfl rfl (by omega))) ?_))));refine ym rfl (ym rfl (yp rfl (fun _=>(bg rfl rfl (by omega))) ?_));refine yex rfl (aU (i-1) aX I25 rfl (ho54.sl) rfl rfl (by first|rfl|omega) (by omega)) ?_;rintro _ ⟨b55,o55,rfl,he55,hb55⟩;refine aH rfl rfl rfl bw rfl rfl ((ho54.sl.at he55 (getD_some (d:=0) (by omega))).c0 rfl) ?_;refine ym rfl (ym rfl (yex rfl (aU (i) aX I25 rfl (ho54.sl) rfl rfl (by first|rfl|omega) (by omega)) ?_));rintro _ ⟨b56,o56,rfl,he56,hb56⟩;refine aH rfl rfl rfl bw rfl rfl ((ho54.sl.at he56 (getD_some (d:=0) (by omega))).c0 rfl) ?_;refine yex rfl (aU (i) aX I25 rfl (ho54.sl) rfl rfl (by first|rfl|omega) (by omega)) ?_;rintro _ ⟨b57,o57,rfl,he57,hb57⟩;refine dr rfl (bR (a:=l54.getD (i-1) 0) I25 rfl (ho54.mod0 (drw _)) rfl (he57) rfl rfl (by omega)) ?_;rintro u57 ⟨hou57,hcu57,hsu57⟩;refine⟨trivial,?_⟩;refine yex rfl (aU (i-1) aX I25 rfl (hou57.sl) rfl rfl (by first|rfl|omega) (by simp;omega)) ?_;rintro _ ⟨b58,o58,rfl,he58,hb58⟩;refine dr rfl (bR (a:=l54.getD (i) 0) I25 rfl (hou57) rfl (he58) rfl rfl (by simp;omega)) ?_;rintro u58 ⟨hou58,hcu58,hsu58⟩;refine⟨trivial,?_⟩;refine aJ (a6 ?_);have hS58:SPm (.slice pv n cv) l0 w0 u58:=⟨_,hou58,(ez l54 (i) (i-1) (by omega) (by omega)).trans hp54,((hk54.tr0 (drw _)).tr hcu57).tr hcu58⟩
      refine dX [0,1,2,7,8] (fun vs w'=>vs=[.slice pv n cv,.int .i64 a,.int .i64 b,.int .i64 i,.int .i64 j]/\a+1<=i/\i<=b/\SPm (.slice pv n cv) l0 w0 w') ?_ ?_
      ·refine zSR (zmm rfl (a7 rfl (bg rfl rfl (by omega)) (a7 rfl (fH rfl rfl) ?_)));refine a8 (a6 (az rfl (fun hi2a=>?_) (fun hi2a=>?_)))
       ·refine zSR (zmv rfl (bg rfl rfl (by omega)) (za rfl ?_));refine a8 (a6 (aq (bf [0,1,2,7,8,9] (fun j2 vs w'=>vs=[.slice pv n cv,.int .i64 a,.int .i64 b,.int .i64 i,.int .i64 j,.int .i64 j2]/\j2<b/\SPm (.slice pv n cv) l0 w0 w') (i-1) ?_ ?_)))
        ·exact⟨(au rfl (au rfl (au rfl (au rfl (au rfl (au (bH (by omega)) bK)))))),by omega,hS58⟩
        ·rintro j2 vs3 J3 w3 ⟨rfl,hj2,h3⟩;refine ae (zSR (zmv rfl (fH rfl rfl) ?_));refine a8 (a6 (az rfl (fun hj1=>?_) (fun hj1=>?_)))
         ·refine aw (a6 (ae (aq (ae (ae ?_)))));have hob3:∃z,j2=z+1:=⟨j2-1,by omega⟩
          obtain⟨j2,rfl⟩:=hob3;obtain⟨l59,ho59,hp59,hk59⟩:=id h3;have hl59:l59.length=n:=hp59.length_eq.trans hn;refine aG bz (.pure 0 (.pure 1 (.pure 2 (.read 3 (.pure 4 (.pure 5 (.pure 6 (.pure 7 (.read 8 (.eff 9 [] (.pure 10 .nil))))))))))) (by kernel_rfl) ?_;refine ym rfl (ym rfl (yex rfl (aU (j2+1) aX I25 rfl (ho59.sl) rfl rfl (by first|rfl|omega) (by omega)) ?_));rintro _ ⟨b60,o60,rfl,he60,hb60⟩;refine aH rfl rfl rfl bw rfl rfl ((ho59.sl.at he60 (getD_some (d:=0) (by omega))).c0 rfl) ?_;refine ym rfl (ym rfl (yp rfl (fun _=>(bg rfl rfl (by omega))) ?_));refine yex rfl (aU (j2) aX I25 rfl (ho59.sl) rfl rfl (by first|rfl|omega) (by omega)) ?_;rintro _ ⟨b61,o61,rfl,he61,hb61⟩;refine aH rfl rfl rfl bw rfl rfl ((ho59.sl.at he61 (getD_some (d:=0) (by omega))).c0 rfl) ?_;refine ycl rfl qt (eL (l59.getD (j2+1) 0) (l59.getD (j2) 0) _) ?_;rintro _ v62 ⟨rfl,hv62⟩;refine⟨trivial,?_⟩;refine yp rfl (fun _=>(cA rfl)) ?_;refine aJ (a6 ?_);have hcv62:Chg [] w3 v62:=by rw[hv62];exact Chg.heap rfl
          have hS62:SPm (.slice pv n cv) l0 w0 v62:=SPm.chg0 ⟨l59,ho59,hp59,hk59⟩ hcv62;refine bU rfl (fun hls=>?_) (fun hls=>?_)
          ·refine aO (an (jj rfl (an (an (aE (a6 ?_))))));exact⟨rfl,hi1,hi2,hS62⟩
          ·refine aw (a6 ?_);obtain⟨l63,ho63,hp63,hk63⟩:=id hS62;have hl63:l63.length=n:=hp63.length_eq.trans hn;refine aG bz (.pure 0 (.pure 1 (.pure 2 (.pure 3 (.pure 4 (.pure 5 (.pure 6 (.pure 7 (.pure 8 (.read 9 (.pure 10 (.pure 11 (.pure 12 (.read 13 (.pure 14 (.eff 15 [] (.pure 16 (.eff 17 [] .nil)))))))))))))))))) (by kernel_rfl) ?_;refine ym rfl (ym rfl (ym rfl (ym rfl (yp rfl (fun _=>(bg rfl rfl (by omega))) ?_))));refine ym rfl (ym rfl (yp rfl (fun _=>(bg rfl rfl (by omega))) ?_));refine yex rfl (aU (j2) aX I25 rfl (ho63.sl) rfl rfl (by first|rfl|omega) (by omega)) ?_;rintro _ ⟨b64,o64,rfl,he64,hb64⟩;refine aH rfl rfl rfl bw rfl rfl ((ho63.sl.at he64 (getD_some (d:=0) (by omega))).c0 rfl) ?_;refine ym rfl (ym rfl (yex rfl (aU (j2+1) aX I25 rfl (ho63.sl) rfl rfl (by first|rfl|omega) (by omega)) ?_));rintro _ ⟨b65,o65,rfl,he65,hb65⟩;refine aH rfl rfl rfl bw rfl rfl ((ho63.sl.at he65 (getD_some (d:=0) (by omega))).c0 rfl) ?_;refine yex rfl (aU (j2+1) aX I25 rfl (ho63.sl) rfl rfl (by first|rfl|omega) (by omega)) ?_;rintro _ ⟨b66,o66,rfl,he66,hb66⟩;refine dr rfl (bR (a:=l63.getD (j2) 0) I25 rfl (ho63.mod0 (drw _)) rfl (he66) rfl rfl (by omega)) ?_;rintro u66 ⟨hou66,hcu66,hsu66⟩;refine⟨trivial,?_⟩;refine yex rfl (aU (j2) aX I25 rfl (hou66.sl) rfl rfl (by first|rfl|omega) (by simp;omega)) ?_;rintro _ ⟨b67,o67,rfl,he67,hb67⟩;refine dr rfl (bR (a:=l63.getD (j2+1) 0) I25 rfl (hou66) rfl (he67) rfl rfl (by simp;omega)) ?_;rintro u67 ⟨hou67,hcu67,hsu67⟩;refine⟨trivial,?_⟩;refine aJ (ay (a6 (ag (zmv rfl (bg rfl rfl (by omega)) (za rfl ?_)))));refine a8 (a6 ?_);have hS67:SPm (.slice pv n cv) l0 w0 u67:=⟨_,hou67,(ez l63 (j2+1) (j2) (by omega) (by omega)).trans hp63,((hk63.tr0 (drw _)).tr hcu66).tr hcu67⟩
           refine aS (j2) (bx (by omega) ?_);exact⟨(au rfl (au rfl (au rfl (au rfl (au rfl (au (bH (by omega)) bK)))))),by omega,hS67⟩
         ·refine zxx ?_;exact⟨rfl,hi1,hi2,h3⟩
       ·refine aw (a6 ?_);exact⟨rfl,hi1,hi2,hS58⟩
      ·rintro vs3 J3 w3 ⟨rfl,_,_,h3⟩;refine zSR (zmm rfl (a7 rfl (bg rfl rfl (by omega)) (a7 rfl (fH rfl rfl) ?_)));refine a8 (a6 (az rfl (fun hb2=>?_) (fun hb2=>?_)))
       ·refine zSR (zmv rfl (aB rfl rfl (by omega)) (za rfl ?_));refine a8 (a6 (aq (bf [0,1,2,7,8,10] (fun q2 vs w'=>∃j2:Nat,vs=[.slice pv n cv,.int .i64 a,.int .i64 b,.int .i64 i,.int .i64 j,.int .i64 j2]/\b+1<=j2+q2/\1<=j2/\SPm (.slice pv n cv) l0 w0 w') (n+1) ?_ ?_)))
        ·exact⟨i+1,rfl,by omega,by omega,h3⟩
        ·rintro q2 vs4 J4 w4 ⟨j2,rfl,hq2,hj2,h4⟩;refine ae (zSR (zmm rfl (a7 rfl (bL rfl rfl) ?_)));refine a8 (a6 (az rfl (fun hj1=>?_) (fun hj1=>?_)))
         ·refine aw (a6 (ae (aq (ae (ae ?_)))));have hob4:∃z,q2=z+1:=⟨q2-1,by omega⟩
          obtain⟨q2,rfl⟩:=hob4;obtain⟨l68,ho68,hp68,hk68⟩:=id h4;have hl68:l68.length=n:=hp68.length_eq.trans hn;refine aG bz (.pure 0 (.pure 1 (.pure 2 (.read 3 (.pure 4 (.pure 5 (.pure 6 (.pure 7 (.read 8 (.eff 9 [] (.pure 10 .nil))))))))))) (by kernel_rfl) ?_;refine ym rfl (ym rfl (yex rfl (aU (j2) aX I25 rfl (ho68.sl) rfl rfl (by first|rfl|omega) (by omega)) ?_));rintro _ ⟨b69,o69,rfl,he69,hb69⟩;refine aH rfl rfl rfl bw rfl rfl ((ho68.sl.at he69 (getD_some (d:=0) (by omega))).c0 rfl) ?_;refine ym rfl (ym rfl (yp rfl (fun _=>(bg rfl rfl (by omega))) ?_));refine yex rfl (aU (j2-1) aX I25 rfl (ho68.sl) rfl rfl (by first|rfl|omega) (by omega)) ?_;rintro _ ⟨b70,o70,rfl,he70,hb70⟩;refine aH rfl rfl rfl bw rfl rfl ((ho68.sl.at he70 (getD_some (d:=0) (by omega))).c0 rfl) ?_;refine ycl rfl qt (eL (l68.getD (j2) 0) (l68.getD (j2-1) 0) _) ?_;rintro _ v71 ⟨rfl,hv71⟩;refine⟨trivial,?_⟩;refine yp rfl (fun _=>(cA rfl)) ?_;refine aJ (a6 ?_);have hcv71:Chg [] w4 v71:=by rw[hv71];exact Chg.heap rfl
          have hS71:SPm (.slice pv n cv) l0 w0 v71:=SPm.chg0 ⟨l68,ho68,hp68,hk68⟩ hcv71;refine bU rfl (fun hls=>?_) (fun hls=>?_)
          ·refine aO (an (jj rfl (an (an (aE (ay (a6 ?_)))))));refine ag (zmv rfl (aB rfl rfl (by omega)) (za rfl ?_));refine a8 (a6 (aS (q) (bx (by omega) ?_)));exact⟨i,j+1,rfl,by omega,hi1,hi2,hS71⟩
          ·refine aw (a6 ?_);obtain⟨l72,ho72,hp72,hk72⟩:=id hS71;have hl72:l72.length=n:=hp72.length_eq.trans hn;refine aG bz (.pure 0 (.pure 1 (.pure 2 (.pure 3 (.pure 4 (.pure 5 (.pure 6 (.pure 7 (.pure 8 (.read 9 (.pure 10 (.pure 11 (.pure 12 (.read 13 (.pure 14 (.eff 15 [] (.pure 16 (.eff 17 [] .nil)))))))))))))))))) (by kernel_rfl) ?_;refine ym rfl (ym rfl (ym rfl (ym rfl (yp rfl (fun _=>(bg rfl rfl (by omega))) ?_))));refine ym rfl (ym rfl (yp rfl (fun _=>(bg rfl rfl (by omega))) ?_));refine yex rfl (aU (j2-1) aX I25 rfl (ho72.sl) rfl rfl (by first|rfl|omega) (by omega)) ?_;rintro _ ⟨b73,o73,rfl,he73,hb73⟩;refine aH rfl rfl rfl bw rfl rfl ((ho72.sl.at he73 (getD_some (d:=0) (by omega))).c0 rfl) ?_;refine ym rfl (ym rfl (yex rfl (aU (j2) aX I25 rfl (ho72.sl) rfl rfl (by first|rfl|omega) (by omega)) ?_));rintro _ ⟨b74,o74,rfl,he74,hb74⟩;refine aH rfl rfl rfl bw rfl rfl ((ho72.sl.at he74 (getD_some (d:=0) (by omega))).c0 rfl) ?_;refine yex rfl (aU (j2) aX I25 rfl (ho72.sl) rfl rfl (by first|rfl|omega) (by omega)) ?_;rintro _ ⟨b75,o75,rfl,he75,hb75⟩;refine dr rfl (bR (a:=l72.getD (j2-1) 0) I25 rfl (ho72.mod0 (drw _)) rfl (he75) rfl rfl (by omega)) ?_;rintro u75 ⟨hou75,hcu75,hsu75⟩;refine⟨trivial,?_⟩;refine yex rfl (aU (j2-1) aX I25 rfl (hou75.sl) rfl rfl (by first|rfl|omega) (by simp;omega)) ?_;rintro _ ⟨b76,o76,rfl,he76,hb76⟩;refine dr rfl (bR (a:=l72.getD (j2) 0) I25 rfl (hou75) rfl (he76) rfl rfl (by simp;omega)) ?_;rintro u76 ⟨hou76,hcu76,hsu76⟩;refine⟨trivial,?_⟩;refine aJ (ay (a6 (ag (zmv rfl (aB rfl rfl (by omega)) (za rfl ?_)))));refine a8 (a6 ?_);have hS76:SPm (.slice pv n cv) l0 w0 u76:=⟨_,hou76,(ez l72 (j2) (j2-1) (by omega) (by omega)).trans hp72,((hk72.tr0 (drw _)).tr hcu75).tr hcu76⟩
           refine aS (q2) (bx (by omega) ?_);exact⟨j2+1,rfl,by omega,by omega,hS76⟩
         ·refine aO (an (an (aE (ay (a6 (ag (zmv rfl (aB rfl rfl (by omega)) (za rfl ?_))))))));refine a8 (a6 (aS (q) (bx (by omega) ?_)));exact⟨i,j+1,rfl,by omega,hi1,hi2,h4⟩
       ·refine aw (ay (a6 (ag (zmv rfl (aB rfl rfl (by omega)) (za rfl ?_)))));refine a8 (a6 (aS (q) (bx (by omega) ?_)));exact⟨i,j+1,rfl,by omega,hi1,hi2,h3⟩
  ·refine aO (an (an (aE (a6 (zSR (za rfl (a8 (a6 (zrf ?_)))))))));exact⟨⟨_,rfl⟩,h1⟩
theorem GP{pv:Option Addr}{n cv:Nat}{l0:List UInt32}{w0 w:World}(h:SPm (.slice pv n cv) l0 w0 w)(hn:l0.length=n)(hm:n<=1000)(a b p:Nat)(hab:a+1<b)(hb:b<=n)(_:a<=p)(hp2:p<b) :
  Ret Tryz.prog 222 #[.slice pv n cv,.int .i64 a,.int .i64 b,.int .i64 p] w fun r w'=>(∃c:Nat,r=.int .i64 c/\a+1<=c/\c<=b)/\SPm (.slice pv n cv) l0 w0 w':=by
 obtain⟨b1,hb1⟩:∃z:Nat,b=z+1:=⟨b-1,by omega⟩
 have hbi:(b:Int)-1=(b1:Int):=by omega
 refine enter [8] Tryz.func222 rfl rfl (al rfl) (zSR (za rfl (a8 (a6 (ae ?_)))));obtain⟨l77,ho77,hp77,hk77⟩:=id h;have hl77:l77.length=n:=hp77.length_eq.trans hn;refine aG bz (.pure 0 (.pure 1 (.pure 2 (.pure 3 (.pure 4 (.pure 5 (.pure 6 (.read 7 (.pure 8 (.pure 9 (.pure 10 (.read 11 (.pure 12 (.eff 13 [] (.pure 14 (.eff 15 [] .nil)))))))))))))))) (by kernel_rfl) ?_;refine ym rfl (ym rfl (ym rfl (ym rfl (ym rfl (ym rfl (yex rfl (aU (p) aX I25 rfl (ho77.sl) rfl rfl (by first|rfl|omega) (by omega)) ?_))))));rintro _ ⟨b78,o78,rfl,he78,hb78⟩;refine aH rfl rfl rfl bw rfl rfl ((ho77.sl.at he78 (getD_some (d:=0) (by omega))).c0 rfl) ?_;refine ym rfl (ym rfl (yex rfl (aU (a) aX I25 rfl (ho77.sl) rfl rfl (by first|rfl|omega) (by omega)) ?_));rintro _ ⟨b79,o79,rfl,he79,hb79⟩;refine aH rfl rfl rfl bw rfl rfl ((ho77.sl.at he79 (getD_some (d:=0) (by omega))).c0 rfl) ?_;refine yex rfl (aU (a) aX I25 rfl (ho77.sl) rfl rfl (by first|rfl|omega) (by omega)) ?_;rintro _ ⟨b80,o80,rfl,he80,hb80⟩;refine dr rfl (bR (a:=l77.getD (p) 0) I25 rfl (ho77.mod0 (drw _)) rfl (he80) rfl rfl (by omega)) ?_;rintro u80 ⟨hou80,hcu80,hsu80⟩;refine⟨trivial,?_⟩;refine yex rfl (aU (p) aX I25 rfl (hou80.sl) rfl rfl (by first|rfl|omega) (by simp;omega)) ?_;rintro _ ⟨b81,o81,rfl,he81,hb81⟩;refine dr rfl (bR (a:=l77.getD (a) 0) I25 rfl (hou80) rfl (he81) rfl rfl (by simp;omega)) ?_;rintro u81 ⟨hou81,hcu81,hsu81⟩;refine⟨trivial,?_⟩;refine zPR (zmv rfl (aB rfl rfl (by omega)) (zmv rfl (bg rfl rfl (by omega)) (zaa rfl ?_)));refine a8 (a6 (ae (aq ?_)));have hS81:SPm (.slice pv n cv) l0 w0 u81:=⟨_,hou81,(ez l77 (a) (p) (by omega) (by omega)).trans hp77,((hk77.tr0 (drw _)).tr hcu80).tr hcu81⟩
 rw[hbi];refine bf [0,1,9,10] (fun q vs w'=>∃i j:Nat,vs=[.slice pv n cv,.int .i64 a,.int .i64 i,.int .i64 j]/\j+2<=i+q/\a+1<=i/\i<=b/\a<=j/\j<b/\SPm (.slice pv n cv) l0 w0 w') (n+2) ?_ ?_
 ·exact⟨a+1,b1,rfl,by omega,by omega,by omega,by omega,by omega,hS81⟩
 ·rintro q vs J w1 ⟨i,j,rfl,hq,h1a,h1b,h1c,h1d,h1⟩;refine aq (dX [0,1,9,10] (fun vs w'=>∃i2:Nat,vs=[.slice pv n cv,.int .i64 a,.int .i64 i2,.int .i64 j]/\i<=i2/\i2<=b/\SPm (.slice pv n cv) l0 w0 w') ?_ ?_)
  ·refine aq (bf [0,1,9,10] (fun q2 vs w'=>∃i2:Nat,vs=[.slice pv n cv,.int .i64 a,.int .i64 i2,.int .i64 j]/\b+1<=i2+q2/\i<=i2/\i2<=b/\SPm (.slice pv n cv) l0 w0 w') (n+1) ?_ ?_)
   ·exact⟨i,rfl,by omega,aM _,by omega,h1⟩
   ·rintro q2 vs2 J2 w2 ⟨i2,rfl,hq2,hi2,hi2b,h2⟩;refine ae (ae ?_);obtain⟨l82,ho82,hp82,hk82⟩:=id h2;have hl82:l82.length=n:=hp82.length_eq.trans hn;refine aG bz (.pure 0 (.pure 1 (.pure 2 (.pure 3 (.pure 4 (.pure 5 (.pure 6 (.read 7 (.pure 8 (.pure 9 (.pure 10 (.read 11 (.eff 12 [] (.pure 13 (.pure 14 .nil))))))))))))))) (by kernel_rfl) ?_;refine ym rfl (ym rfl ?_);by_cases hij:i2<=j
    ·refine yp rfl (fun _=>bJ (gd rfl rfl) (congrArg Value.bool (decide_eq_true ((by omega))))) ?_;refine ym rfl (ym rfl (ym rfl (yex rfl (aU (a) aX I25 rfl (ho82.sl) rfl rfl (by first|rfl|omega) (by omega)) ?_)));rintro _ ⟨b83,o83,rfl,he83,hb83⟩;refine aH rfl rfl rfl bw rfl rfl ((ho82.sl.at he83 (getD_some (d:=0) (by omega))).c0 rfl) ?_;refine ym rfl (ym rfl (yex rfl (aU (i2) aX I25 rfl (ho82.sl) rfl rfl (by first|rfl|omega) (by omega)) ?_));rintro _ ⟨b84,o84,rfl,he84,hb84⟩;refine aH rfl rfl rfl bw rfl rfl ((ho82.sl.at he84 (getD_some (d:=0) (by omega))).c0 rfl) ?_;refine ycl rfl qt (eL (l82.getD (a) 0) (l82.getD (i2) 0) _) ?_;rintro _ v85 ⟨rfl,hv85⟩;refine⟨trivial,?_⟩;refine yp rfl (fun _=>(cA rfl)) ?_;refine yp rfl (fun _=>(aQ rfl)) ?_;refine aJ (a6 ?_);have hcv85:Chg [] w2 v85:=by rw[hv85];exact Chg.heap rfl
     have hS85:SPm (.slice pv n cv) l0 w0 v85:=SPm.chg0 ⟨l82,ho82,hp82,hk82⟩ hcv85;refine bU rfl (fun hls=>?_) (fun hls=>?_)
     ·refine aw (a6 (aq (ag (zmv rfl (aB rfl rfl (by omega)) (za rfl ?_)))));refine a8 (ay (a6 ?_));have hob1:∃z,q2=z+1:=⟨q2-1,by omega⟩
      obtain⟨q2,rfl⟩:=hob1;refine aS (q2) (bx (by omega) ?_);exact⟨i2+1,rfl,by omega,by omega,by omega,hS85⟩
     ·refine zxx ?_;exact⟨i2,rfl,hi2,hi2b,hS85⟩
    ·refine yp rfl (fun _=>bJ (gd rfl rfl) (congrArg Value.bool (decide_eq_false ((by omega))))) ?_;refine ym rfl (yno rfl (yno rfl (yno rfl (cg rfl rfl rfl (yno rfl (yno rfl (yno rfl (cg rfl rfl rfl (iI rfl rfl rfl (yno rfl (yp rfl (fun _=>(aN rfl)) ?_)))))))))));refine aJ (a6 (aK (rfl) (zxx ?_)));exact⟨i2,rfl,hi2,hi2b,h2.chg0 (drw _)⟩
  ·rintro vs2 J2 w2 ⟨i2,rfl,hi2,hi2b,h2⟩;refine dX [0,1,9,10] (fun vs w'=>∃j2:Nat,vs=[.slice pv n cv,.int .i64 a,.int .i64 i2,.int .i64 j2]/\j2<=j/\a<=j2/\SPm (.slice pv n cv) l0 w0 w') ?_ ?_
   ·refine aq (bf [0,1,9,10] (fun q2 vs w'=>∃j2:Nat,vs=[.slice pv n cv,.int .i64 a,.int .i64 i2,.int .i64 j2]/\j2+1<=q2/\j2<=j/\a<=j2/\SPm (.slice pv n cv) l0 w0 w') (j+1) ?_ ?_)
    ·exact⟨j,rfl,by omega,aM _,by omega,h2⟩
    ·rintro q2 vs3 J3 w3 ⟨j2,rfl,hq2,hj2,hj2a,h3⟩;refine ae (ae ?_);obtain⟨l86,ho86,hp86,hk86⟩:=id h3;have hl86:l86.length=n:=hp86.length_eq.trans hn;refine aG bz (.pure 0 (.pure 1 (.pure 2 (.pure 3 (.pure 4 (.pure 5 (.pure 6 (.read 7 (.pure 8 (.pure 9 (.pure 10 (.read 11 (.eff 12 [] (.pure 13 .nil)))))))))))))) (by kernel_rfl) ?_;refine ym rfl (ym rfl ?_);by_cases hij:i2<=j2
     ·refine yp rfl (fun _=>bJ (gd rfl rfl) (congrArg Value.bool (decide_eq_true ((by omega))))) ?_;refine ym rfl (ym rfl (ym rfl (yex rfl (aU (a) aX I25 rfl (ho86.sl) rfl rfl (by first|rfl|omega) (by omega)) ?_)));rintro _ ⟨b87,o87,rfl,he87,hb87⟩;refine aH rfl rfl rfl bw rfl rfl ((ho86.sl.at he87 (getD_some (d:=0) (by omega))).c0 rfl) ?_;refine ym rfl (ym rfl (yex rfl (aU (j2) aX I25 rfl (ho86.sl) rfl rfl (by first|rfl|omega) (by omega)) ?_));rintro _ ⟨b88,o88,rfl,he88,hb88⟩;refine aH rfl rfl rfl bw rfl rfl ((ho86.sl.at he88 (getD_some (d:=0) (by omega))).c0 rfl) ?_;refine ycl rfl qt (eL (l86.getD (a) 0) (l86.getD (j2) 0) _) ?_;rintro _ v89 ⟨rfl,hv89⟩;refine⟨trivial,?_⟩;refine yp rfl (fun _=>(aQ rfl)) ?_;refine aJ (a6 ?_);have hcv89:Chg [] w3 v89:=by rw[hv89];exact Chg.heap rfl
      have hS89:SPm (.slice pv n cv) l0 w0 v89:=SPm.chg0 ⟨l86,ho86,hp86,hk86⟩ hcv89;refine az rfl (fun hls=>?_) (fun hls=>?_)
      ·refine aw (a6 (aq (ag (zmv rfl (bg rfl rfl (by omega)) (za rfl ?_)))));refine a8 (ay (a6 ?_));have hob2:∃z,j2=z+1:=⟨j2-1,by omega⟩
       obtain⟨j2,rfl⟩:=hob2;have hob3:∃z,q2=z+1:=⟨q2-1,by omega⟩
       obtain⟨q2,rfl⟩:=hob3;refine aS (q2) (bx (by omega) ?_);exact⟨j2,(au rfl (au rfl (au rfl (au (bH (by omega)) bK)))),by omega,by omega,by omega,hS89⟩
      ·refine zxx ?_;exact⟨j2,rfl,hj2,hj2a,hS89⟩
     ·refine yp rfl (fun _=>bJ (gd rfl rfl) (congrArg Value.bool (decide_eq_false ((by omega))))) ?_;refine ym rfl (yno rfl (yno rfl (yno rfl (cg rfl rfl rfl (yno rfl (yno rfl (yno rfl (cg rfl rfl rfl (iI rfl rfl rfl (yp rfl (fun _=>(aN rfl)) ?_))))))))));refine aJ (a6 (aK (rfl) (zxx ?_)));exact⟨j2,rfl,hj2,hj2a,h3.chg0 (drw _)⟩
   ·rintro vs3 J3 w3 ⟨j2,rfl,hj2,hj2a,h3⟩;refine ae (zSR (zmm rfl (a7 rfl (dt rfl rfl) ?_)));refine a8 (a6 (az rfl (fun hgt=>?_) (fun hgt=>?_)))
    ·refine aO (an (jj rfl (an (aE (a6 ?_)))));refine zSR (zma rfl (a8 (a6 (zrf ?_))));exact⟨⟨i2,rfl,by omega,by omega⟩,h3⟩
    ·refine aw (a6 (ae ?_));have hob4:∃z,q=z+1:=⟨q-1,by omega⟩
     obtain⟨q,rfl⟩:=hob4;have hob5:∃z,j2=z+1:=⟨j2-1,by omega⟩
     obtain⟨j2,rfl⟩:=hob5;obtain⟨l90,ho90,hp90,hk90⟩:=id h3;have hl90:l90.length=n:=hp90.length_eq.trans hn;refine aG bz (.pure 0 (.pure 1 (.pure 2 (.pure 3 (.pure 4 (.pure 5 (.pure 6 (.read 7 (.pure 8 (.pure 9 (.pure 10 (.read 11 (.pure 12 (.eff 13 [] (.pure 14 (.eff 15 [] .nil)))))))))))))))) (by kernel_rfl) ?_;refine ym rfl (ym rfl (ym rfl (ym rfl (ym rfl (ym rfl (yex rfl (aU (j2+1) aX I25 rfl (ho90.sl) rfl rfl (by first|rfl|omega) (by omega)) ?_))))));rintro _ ⟨b91,o91,rfl,he91,hb91⟩;refine aH rfl rfl rfl bw rfl rfl ((ho90.sl.at he91 (getD_some (d:=0) (by omega))).c0 rfl) ?_;refine ym rfl (ym rfl (yex rfl (aU (i2) aX I25 rfl (ho90.sl) rfl rfl (by first|rfl|omega) (by omega)) ?_));rintro _ ⟨b92,o92,rfl,he92,hb92⟩;refine aH rfl rfl rfl bw rfl rfl ((ho90.sl.at he92 (getD_some (d:=0) (by omega))).c0 rfl) ?_;refine yex rfl (aU (i2) aX I25 rfl (ho90.sl) rfl rfl (by first|rfl|omega) (by omega)) ?_;rintro _ ⟨b93,o93,rfl,he93,hb93⟩;refine dr rfl (bR (a:=l90.getD (j2+1) 0) I25 rfl (ho90.mod0 (drw _)) rfl (he93) rfl rfl (by omega)) ?_;rintro u93 ⟨hou93,hcu93,hsu93⟩;refine⟨trivial,?_⟩;refine yex rfl (aU (j2+1) aX I25 rfl (hou93.sl) rfl rfl (by first|rfl|omega) (by simp;omega)) ?_;rintro _ ⟨b94,o94,rfl,he94,hb94⟩;refine dr rfl (bR (a:=l90.getD (i2) 0) I25 rfl (hou93) rfl (he94) rfl rfl (by simp;omega)) ?_;rintro u94 ⟨hou94,hcu94,hsu94⟩;refine⟨trivial,?_⟩;refine zPR (zmv rfl (aB rfl rfl (by omega)) (za rfl ?_));refine a8 (a6 (ag (zmv rfl (bg rfl rfl (by omega)) (za rfl ?_))));refine a8 (ay (a6 ?_));have hS94:SPm (.slice pv n cv) l0 w0 u94:=⟨_,hou94,(ez l90 (i2) (j2+1) (by omega) (by omega)).trans hp90,((hk90.tr0 (drw _)).tr hcu93).tr hcu94⟩
     refine aS (q) (bx (by omega) ?_);exact⟨i2+1,j2,(au rfl (au rfl (au rfl (au (bH (by omega)) bK)))),by omega,by omega,by omega,by omega,by omega,hS94⟩
theorem GN{pv:Option Addr}{n cv:Nat}{l0:List UInt32}{w0 w:World}(h:SPm (.slice pv n cv) l0 w0 w)(hn:l0.length=n)(hm:n<=1000)(a b p:Nat)(hab:a+1<b)(hb:b<=n)(hp1:a<=p)(hp2:p<b) :
  Ret Tryz.prog 223 #[.slice pv n cv,.int .i64 a,.int .i64 b,.int .i64 p] w fun r w'=>(∃(c:Nat) (t:Bool),r=.tuple #[.int .i64 c,.bool t]/\a<=c/\c<b)/\SPm (.slice pv n cv) l0 w0 w':=by
 obtain⟨b1,hb1⟩:∃z:Nat,b=z+1:=⟨b-1,by omega⟩
 have hbi:(b:Int)-1=(b1:Int):=by omega
 refine enter [8,9] Tryz.func223 rfl rfl (al rfl) (zSR (zaa rfl (a8 (a6 (ae ?_)))));obtain⟨l95,ho95,hp95,hk95⟩:=id h;have hl95:l95.length=n:=hp95.length_eq.trans hn;refine aG bz (.pure 0 (.pure 1 (.pure 2 (.pure 3 (.pure 4 (.pure 5 (.pure 6 (.read 7 (.pure 8 (.pure 9 (.pure 10 (.read 11 (.pure 12 (.eff 13 [] (.pure 14 (.eff 15 [] .nil)))))))))))))))) (by kernel_rfl) ?_;refine ym rfl (ym rfl (ym rfl (ym rfl (ym rfl (ym rfl (yex rfl (aU (p) aX I25 rfl (ho95.sl) rfl rfl (by first|rfl|omega) (by omega)) ?_))))));rintro _ ⟨b96,o96,rfl,he96,hb96⟩;refine aH rfl rfl rfl bw rfl rfl ((ho95.sl.at he96 (getD_some (d:=0) (by omega))).c0 rfl) ?_;refine ym rfl (ym rfl (yex rfl (aU (a) aX I25 rfl (ho95.sl) rfl rfl (by first|rfl|omega) (by omega)) ?_));rintro _ ⟨b97,o97,rfl,he97,hb97⟩;refine aH rfl rfl rfl bw rfl rfl ((ho95.sl.at he97 (getD_some (d:=0) (by omega))).c0 rfl) ?_;refine yex rfl (aU (a) aX I25 rfl (ho95.sl) rfl rfl (by first|rfl|omega) (by omega)) ?_;rintro _ ⟨b98,o98,rfl,he98,hb98⟩;refine dr rfl (bR (a:=l95.getD (p) 0) I25 rfl (ho95.mod0 (drw _)) rfl (he98) rfl rfl (by omega)) ?_;rintro u98 ⟨hou98,hcu98,hsu98⟩;refine⟨trivial,?_⟩;refine yex rfl (aU (p) aX I25 rfl (hou98.sl) rfl rfl (by first|rfl|omega) (by simp;omega)) ?_;rintro _ ⟨b99,o99,rfl,he99,hb99⟩;refine dr rfl (bR (a:=l95.getD (a) 0) I25 rfl (hou98) rfl (he99) rfl rfl (by simp;omega)) ?_;rintro u99 ⟨hou99,hcu99,hsu99⟩;refine⟨trivial,?_⟩;refine aJ (a6 ?_);have hS99:SPm (.slice pv n cv) l0 w0 u99:=⟨_,hou99,(ez l95 (a) (p) (by omega) (by omega)).trans hp95,((hk95.tr0 (drw _)).tr hcu98).tr hcu99⟩
 refine zSR (zmv rfl (aB rfl rfl (by omega)) (zmv rfl (bg rfl rfl (by omega)) (zaa rfl ?_)));refine a8 (a6 ?_);rw[hbi];refine dX [0,1,10,11] (fun vs w'=>∃i2:Nat,vs=[.slice pv n cv,.int .i64 a,.int .i64 i2,.int .i64 b1]/\(a+1)<=i2/\i2<=b/\SPm (.slice pv n cv) l0 w0 w') ?_ ?_
 ·refine aq (bf [0,1,10,11] (fun q2 vs w'=>∃i2:Nat,vs=[.slice pv n cv,.int .i64 a,.int .i64 i2,.int .i64 b1]/\b+1<=i2+q2/\(a+1)<=i2/\i2<=b/\SPm (.slice pv n cv) l0 w0 w') (n+1) ?_ ?_)
  ·exact⟨(a+1),rfl,by omega,aM _,by omega,hS99⟩
  ·rintro q2 vs2 J2 w2 ⟨i2,rfl,hq2,hi2,hi2b,h2⟩;refine ae (ae ?_);obtain⟨l100,ho100,hp100,hk100⟩:=id h2;have hl100:l100.length=n:=hp100.length_eq.trans hn;refine aG bz (.pure 0 (.pure 1 (.pure 2 (.pure 3 (.pure 4 (.pure 5 (.pure 6 (.read 7 (.pure 8 (.pure 9 (.pure 10 (.read 11 (.eff 12 [] (.pure 13 .nil)))))))))))))) (by kernel_rfl) ?_;refine ym rfl (ym rfl ?_);by_cases hij:i2<=b1
   ·refine yp rfl (fun _=>bJ (gd rfl rfl) (congrArg Value.bool (decide_eq_true ((by omega))))) ?_;refine ym rfl (ym rfl (ym rfl (yex rfl (aU (i2) aX I25 rfl (ho100.sl) rfl rfl (by first|rfl|omega) (by omega)) ?_)));rintro _ ⟨b101,o101,rfl,he101,hb101⟩;refine aH rfl rfl rfl bw rfl rfl ((ho100.sl.at he101 (getD_some (d:=0) (by omega))).c0 rfl) ?_;refine ym rfl (ym rfl (yex rfl (aU (a) aX I25 rfl (ho100.sl) rfl rfl (by first|rfl|omega) (by omega)) ?_));rintro _ ⟨b102,o102,rfl,he102,hb102⟩;refine aH rfl rfl rfl bw rfl rfl ((ho100.sl.at he102 (getD_some (d:=0) (by omega))).c0 rfl) ?_;refine ycl rfl qt (eL (l100.getD (i2) 0) (l100.getD (a) 0) _) ?_;rintro _ v103 ⟨rfl,hv103⟩;refine⟨trivial,?_⟩;refine yp rfl (fun _=>(aQ rfl)) ?_;refine aJ (a6 ?_);have hcv103:Chg [] w2 v103:=by rw[hv103];exact Chg.heap rfl
    have hS103:SPm (.slice pv n cv) l0 w0 v103:=SPm.chg0 ⟨l100,ho100,hp100,hk100⟩ hcv103;refine az rfl (fun hls=>?_) (fun hls=>?_)
    ·refine aw (a6 (aq (ag (zmv rfl (aB rfl rfl (by omega)) (za rfl ?_)))));refine a8 (ay (a6 ?_));have hob1:∃z,q2=z+1:=⟨q2-1,by omega⟩
     obtain⟨q2,rfl⟩:=hob1;refine aS (q2) (bx (by omega) ?_);exact⟨i2+1,rfl,by omega,by omega,by omega,hS103⟩
    ·refine zxx ?_;exact⟨i2,rfl,hi2,hi2b,hS103⟩
   ·refine yp rfl (fun _=>bJ (gd rfl rfl) (congrArg Value.bool (decide_eq_false ((by omega))))) ?_;refine ym rfl (yno rfl (yno rfl (yno rfl (cg rfl rfl rfl (yno rfl (yno rfl (yno rfl (cg rfl rfl rfl (iI rfl rfl rfl (yp rfl (fun _=>(aN rfl)) ?_))))))))));refine aJ (a6 (aK (rfl) (zxx ?_)));exact⟨i2,rfl,hi2,hi2b,h2.chg0 (drw _)⟩
 ·rintro vs2 J2 w2 ⟨i2,rfl,hi2,hi2b,h2⟩;refine dX [0,1,10,11] (fun vs w'=>∃j2:Nat,vs=[.slice pv n cv,.int .i64 a,.int .i64 i2,.int .i64 j2]/\j2<=b1/\a<=j2/\SPm (.slice pv n cv) l0 w0 w') ?_ ?_
  ·refine aq (bf [0,1,10,11] (fun q2 vs w'=>∃j2:Nat,vs=[.slice pv n cv,.int .i64 a,.int .i64 i2,.int .i64 j2]/\j2+1<=q2/\j2<=b1/\a<=j2/\SPm (.slice pv n cv) l0 w0 w') (b1+1) ?_ ?_)
   ·exact⟨b1,rfl,by omega,aM _,by omega,h2⟩
   ·rintro q2 vs3 J3 w3 ⟨j2,rfl,hq2,hj2,hj2a,h3⟩;refine ae (ae ?_);obtain⟨l104,ho104,hp104,hk104⟩:=id h3;have hl104:l104.length=n:=hp104.length_eq.trans hn;refine aG bz (.pure 0 (.pure 1 (.pure 2 (.pure 3 (.pure 4 (.pure 5 (.pure 6 (.read 7 (.pure 8 (.pure 9 (.pure 10 (.read 11 (.eff 12 [] (.pure 13 (.pure 14 .nil))))))))))))))) (by kernel_rfl) ?_;refine ym rfl (ym rfl ?_);by_cases hij:i2<=j2
    ·refine yp rfl (fun _=>bJ (gd rfl rfl) (congrArg Value.bool (decide_eq_true ((by omega))))) ?_;refine ym rfl (ym rfl (ym rfl (yex rfl (aU (j2) aX I25 rfl (ho104.sl) rfl rfl (by first|rfl|omega) (by omega)) ?_)));rintro _ ⟨b105,o105,rfl,he105,hb105⟩;refine aH rfl rfl rfl bw rfl rfl ((ho104.sl.at he105 (getD_some (d:=0) (by omega))).c0 rfl) ?_;refine ym rfl (ym rfl (yex rfl (aU (a) aX I25 rfl (ho104.sl) rfl rfl (by first|rfl|omega) (by omega)) ?_));rintro _ ⟨b106,o106,rfl,he106,hb106⟩;refine aH rfl rfl rfl bw rfl rfl ((ho104.sl.at he106 (getD_some (d:=0) (by omega))).c0 rfl) ?_;refine ycl rfl qt (eL (l104.getD (j2) 0) (l104.getD (a) 0) _) ?_;rintro _ v107 ⟨rfl,hv107⟩;refine⟨trivial,?_⟩;refine yp rfl (fun _=>(cA rfl)) ?_;refine yp rfl (fun _=>(aQ rfl)) ?_;refine aJ (a6 ?_);have hcv107:Chg [] w3 v107:=by rw[hv107];exact Chg.heap rfl
     have hS107:SPm (.slice pv n cv) l0 w0 v107:=SPm.chg0 ⟨l104,ho104,hp104,hk104⟩ hcv107;refine bU rfl (fun hls=>?_) (fun hls=>?_)
     ·refine aw (a6 (aq (ag (zmv rfl (bg rfl rfl (by omega)) (za rfl ?_)))));refine a8 (ay (a6 ?_));have hob2:∃z,j2=z+1:=⟨j2-1,by omega⟩
      obtain⟨j2,rfl⟩:=hob2;have hob3:∃z,q2=z+1:=⟨q2-1,by omega⟩
      obtain⟨q2,rfl⟩:=hob3;refine aS (q2) (bx (by omega) ?_);exact⟨j2,(au rfl (au rfl (au rfl (au (bH (by omega)) bK)))),by omega,by omega,by omega,hS107⟩
     ·refine zxx ?_;exact⟨j2,rfl,hj2,hj2a,hS107⟩
    ·refine yp rfl (fun _=>bJ (gd rfl rfl) (congrArg Value.bool (decide_eq_false ((by omega))))) ?_;refine ym rfl (yno rfl (yno rfl (yno rfl (cg rfl rfl rfl (yno rfl (yno rfl (yno rfl (cg rfl rfl rfl (iI rfl rfl rfl (yno rfl (yp rfl (fun _=>(aN rfl)) ?_)))))))))));refine aJ (a6 (aK (rfl) (zxx ?_)));exact⟨j2,rfl,hj2,hj2a,h3.chg0 (drw _)⟩
  ·rintro vs3 J3 w3 ⟨j2,rfl,hj2,hj2a,h3⟩;refine ae (zSR (zmm rfl (a7 rfl (dt rfl rfl) ?_)));refine a8 (a6 (az rfl (fun hgt=>?_) (fun hgt=>?_)))
   ·refine ae ?_;obtain⟨l108,ho108,hp108,hk108⟩:=id h3;have hl108:l108.length=n:=hp108.length_eq.trans hn;refine aG bz (.pure 0 (.pure 1 (.pure 2 (.pure 3 (.pure 4 (.pure 5 (.pure 6 (.read 7 (.pure 8 (.pure 9 (.pure 10 (.read 11 (.pure 12 (.eff 13 [] (.pure 14 (.eff 15 [] .nil)))))))))))))))) (by kernel_rfl) ?_;refine ym rfl (ym rfl (ym rfl (ym rfl (ym rfl (ym rfl (yex rfl (aU (a) aX I25 rfl (ho108.sl) rfl rfl (by first|rfl|omega) (by omega)) ?_))))));rintro _ ⟨b109,o109,rfl,he109,hb109⟩;refine aH rfl rfl rfl bw rfl rfl ((ho108.sl.at he109 (getD_some (d:=0) (by omega))).c0 rfl) ?_;refine ym rfl (ym rfl (yex rfl (aU (j2) aX I25 rfl (ho108.sl) rfl rfl (by first|rfl|omega) (by omega)) ?_));rintro _ ⟨b110,o110,rfl,he110,hb110⟩;refine aH rfl rfl rfl bw rfl rfl ((ho108.sl.at he110 (getD_some (d:=0) (by omega))).c0 rfl) ?_;refine yex rfl (aU (j2) aX I25 rfl (ho108.sl) rfl rfl (by first|rfl|omega) (by omega)) ?_;rintro _ ⟨b111,o111,rfl,he111,hb111⟩;refine dr rfl (bR (a:=l108.getD (a) 0) I25 rfl (ho108.mod0 (drw _)) rfl (he111) rfl rfl (by omega)) ?_;rintro u111 ⟨hou111,hcu111,hsu111⟩;refine⟨trivial,?_⟩;refine yex rfl (aU (a) aX I25 rfl (hou111.sl) rfl rfl (by first|rfl|omega) (by simp;omega)) ?_;rintro _ ⟨b112,o112,rfl,he112,hb112⟩;refine dr rfl (bR (a:=l108.getD (j2) 0) I25 rfl (hou111) rfl (he112) rfl rfl (by simp;omega)) ?_;rintro u112 ⟨hou112,hcu112,hsu112⟩;refine⟨trivial,?_⟩;refine zPR (zma rfl (za rfl (a8 (a6 (zrt ?_)))));have hS112:SPm (.slice pv n cv) l0 w0 u112:=⟨_,hou112,(ez l108 (j2) (a) (by omega) (by omega)).trans hp108,((hk108.tr0 (drw _)).tr hcu111).tr hcu112⟩
    exact⟨⟨j2,true,rfl,by omega,by omega⟩,hS112⟩
   ·refine aw (a6 (ae ?_));have hob4:∃z,j2=z+1:=⟨j2-1,by omega⟩
    obtain⟨j2,rfl⟩:=hob4;obtain⟨l113,ho113,hp113,hk113⟩:=id h3;have hl113:l113.length=n:=hp113.length_eq.trans hn;refine aG bz (.pure 0 (.pure 1 (.pure 2 (.pure 3 (.pure 4 (.pure 5 (.pure 6 (.read 7 (.pure 8 (.pure 9 (.pure 10 (.read 11 (.pure 12 (.eff 13 [] (.pure 14 (.eff 15 [] .nil)))))))))))))))) (by kernel_rfl) ?_;refine ym rfl (ym rfl (ym rfl (ym rfl (ym rfl (ym rfl (yex rfl (aU (j2+1) aX I25 rfl (ho113.sl) rfl rfl (by first|rfl|omega) (by omega)) ?_))))));rintro _ ⟨b114,o114,rfl,he114,hb114⟩;refine aH rfl rfl rfl bw rfl rfl ((ho113.sl.at he114 (getD_some (d:=0) (by omega))).c0 rfl) ?_;refine ym rfl (ym rfl (yex rfl (aU (i2) aX I25 rfl (ho113.sl) rfl rfl (by first|rfl|omega) (by omega)) ?_));rintro _ ⟨b115,o115,rfl,he115,hb115⟩;refine aH rfl rfl rfl bw rfl rfl ((ho113.sl.at he115 (getD_some (d:=0) (by omega))).c0 rfl) ?_;refine yex rfl (aU (i2) aX I25 rfl (ho113.sl) rfl rfl (by first|rfl|omega) (by omega)) ?_;rintro _ ⟨b116,o116,rfl,he116,hb116⟩;refine dr rfl (bR (a:=l113.getD (j2+1) 0) I25 rfl (ho113.mod0 (drw _)) rfl (he116) rfl rfl (by omega)) ?_;rintro u116 ⟨hou116,hcu116,hsu116⟩;refine⟨trivial,?_⟩;refine yex rfl (aU (j2+1) aX I25 rfl (hou116.sl) rfl rfl (by first|rfl|omega) (by simp;omega)) ?_;rintro _ ⟨b117,o117,rfl,he117,hb117⟩;refine dr rfl (bR (a:=l113.getD (i2) 0) I25 rfl (hou116) rfl (he117) rfl rfl (by simp;omega)) ?_;rintro u117 ⟨hou117,hcu117,hsu117⟩;refine⟨trivial,?_⟩;refine zPR (zmv rfl (aB rfl rfl (by omega)) (za rfl ?_));refine zNR (zmv rfl (bg rfl rfl (by omega)) (za rfl ?_));refine a8 (a6 (ae (aq ?_)));have hS117:SPm (.slice pv n cv) l0 w0 u117:=⟨_,hou117,(ez l113 (i2) (j2+1) (by omega) (by omega)).trans hp113,((hk113.tr0 (drw _)).tr hcu116).tr hcu117⟩
    refine bf [0,1,10,11] (fun q vs w'=>∃i j:Nat,vs=[.slice pv n cv,.int .i64 a,.int .i64 i,.int .i64 j]/\j+2<=i+q/\a+1<=i/\i<=b/\a<=j/\j<b/\SPm (.slice pv n cv) l0 w0 w') (n+2) ?_ ?_
    ·exact⟨i2+1,j2,(au rfl (au rfl (au rfl (au (bH (by omega)) bK)))),by omega,by omega,by omega,by omega,by omega,hS117⟩
    ·rintro q vs J w4 ⟨i,j,rfl,hq,h1a,h1b,h1c,h1d,h1⟩;refine aq (dX [0,1,10,11] (fun vs w'=>∃i2:Nat,vs=[.slice pv n cv,.int .i64 a,.int .i64 i2,.int .i64 j]/\i<=i2/\i2<=b/\SPm (.slice pv n cv) l0 w0 w') ?_ ?_)
     ·refine aq (bf [0,1,10,11] (fun q2 vs w'=>∃i2:Nat,vs=[.slice pv n cv,.int .i64 a,.int .i64 i2,.int .i64 j]/\b+1<=i2+q2/\i<=i2/\i2<=b/\SPm (.slice pv n cv) l0 w0 w') (n+1) ?_ ?_)
      ·exact⟨i,rfl,by omega,aM _,by omega,h1⟩
      ·rintro q2 vs2 J2 w2 ⟨i2,rfl,hq2,hi2,hi2b,h2⟩;refine ae (ae ?_);obtain⟨l118,ho118,hp118,hk118⟩:=id h2;have hl118:l118.length=n:=hp118.length_eq.trans hn;refine aG bz (.pure 0 (.pure 1 (.pure 2 (.pure 3 (.pure 4 (.pure 5 (.pure 6 (.read 7 (.pure 8 (.pure 9 (.pure 10 (.read 11 (.eff 12 [] (.pure 13 .nil)))))))))))))) (by kernel_rfl) ?_;refine ym rfl (ym rfl ?_);by_cases hij:i2<=j
       ·refine yp rfl (fun _=>bJ (gd rfl rfl) (congrArg Value.bool (decide_eq_true ((by omega))))) ?_;refine ym rfl (ym rfl (ym rfl (yex rfl (aU (i2) aX I25 rfl (ho118.sl) rfl rfl (by first|rfl|omega) (by omega)) ?_)));rintro _ ⟨b119,o119,rfl,he119,hb119⟩;refine aH rfl rfl rfl bw rfl rfl ((ho118.sl.at he119 (getD_some (d:=0) (by omega))).c0 rfl) ?_;refine ym rfl (ym rfl (yex rfl (aU (a) aX I25 rfl (ho118.sl) rfl rfl (by first|rfl|omega) (by omega)) ?_));rintro _ ⟨b120,o120,rfl,he120,hb120⟩;refine aH rfl rfl rfl bw rfl rfl ((ho118.sl.at he120 (getD_some (d:=0) (by omega))).c0 rfl) ?_;refine ycl rfl qt (eL (l118.getD (i2) 0) (l118.getD (a) 0) _) ?_;rintro _ v121 ⟨rfl,hv121⟩;refine⟨trivial,?_⟩;refine yp rfl (fun _=>(aQ rfl)) ?_;refine aJ (a6 ?_);have hcv121:Chg [] w2 v121:=by rw[hv121];exact Chg.heap rfl
        have hS121:SPm (.slice pv n cv) l0 w0 v121:=SPm.chg0 ⟨l118,ho118,hp118,hk118⟩ hcv121;refine az rfl (fun hls=>?_) (fun hls=>?_)
        ·refine aw (a6 (aq (ag (zmv rfl (aB rfl rfl (by omega)) (za rfl ?_)))));refine a8 (ay (a6 ?_));have hob5:∃z,q2=z+1:=⟨q2-1,by omega⟩
         obtain⟨q2,rfl⟩:=hob5;refine aS (q2) (bx (by omega) ?_);exact⟨i2+1,rfl,by omega,by omega,by omega,hS121⟩
        ·refine zxx ?_;exact⟨i2,rfl,hi2,hi2b,hS121⟩
       ·refine yp rfl (fun _=>bJ (gd rfl rfl) (congrArg Value.bool (decide_eq_false ((by omega))))) ?_;refine ym rfl (yno rfl (yno rfl (yno rfl (cg rfl rfl rfl (yno rfl (yno rfl (yno rfl (cg rfl rfl rfl (iI rfl rfl rfl (yp rfl (fun _=>(aN rfl)) ?_))))))))));refine aJ (a6 (aK (rfl) (zxx ?_)));exact⟨i2,rfl,hi2,hi2b,h2.chg0 (drw _)⟩
     ·rintro vs2 J2 w2 ⟨i2,rfl,hi2,hi2b,h2⟩;refine dX [0,1,10,11] (fun vs w'=>∃j2:Nat,vs=[.slice pv n cv,.int .i64 a,.int .i64 i2,.int .i64 j2]/\j2<=j/\a<=j2/\SPm (.slice pv n cv) l0 w0 w') ?_ ?_
      ·refine aq (bf [0,1,10,11] (fun q2 vs w'=>∃j2:Nat,vs=[.slice pv n cv,.int .i64 a,.int .i64 i2,.int .i64 j2]/\j2+1<=q2/\j2<=j/\a<=j2/\SPm (.slice pv n cv) l0 w0 w') (j+1) ?_ ?_)
       ·exact⟨j,rfl,by omega,aM _,by omega,h2⟩
       ·rintro q2 vs3 J3 w3 ⟨j2,rfl,hq2,hj2,hj2a,h3⟩;refine ae (ae ?_);obtain⟨l122,ho122,hp122,hk122⟩:=id h3;have hl122:l122.length=n:=hp122.length_eq.trans hn;refine aG bz (.pure 0 (.pure 1 (.pure 2 (.pure 3 (.pure 4 (.pure 5 (.pure 6 (.read 7 (.pure 8 (.pure 9 (.pure 10 (.read 11 (.eff 12 [] (.pure 13 (.pure 14 .nil))))))))))))))) (by kernel_rfl) ?_;refine ym rfl (ym rfl ?_);by_cases hij:i2<=j2
        ·refine yp rfl (fun _=>bJ (gd rfl rfl) (congrArg Value.bool (decide_eq_true ((by omega))))) ?_;refine ym rfl (ym rfl (ym rfl (yex rfl (aU (j2) aX I25 rfl (ho122.sl) rfl rfl (by first|rfl|omega) (by omega)) ?_)));rintro _ ⟨b123,o123,rfl,he123,hb123⟩;refine aH rfl rfl rfl bw rfl rfl ((ho122.sl.at he123 (getD_some (d:=0) (by omega))).c0 rfl) ?_;refine ym rfl (ym rfl (yex rfl (aU (a) aX I25 rfl (ho122.sl) rfl rfl (by first|rfl|omega) (by omega)) ?_));rintro _ ⟨b124,o124,rfl,he124,hb124⟩;refine aH rfl rfl rfl bw rfl rfl ((ho122.sl.at he124 (getD_some (d:=0) (by omega))).c0 rfl) ?_;refine ycl rfl qt (eL (l122.getD (j2) 0) (l122.getD (a) 0) _) ?_;rintro _ v125 ⟨rfl,hv125⟩;refine⟨trivial,?_⟩;refine yp rfl (fun _=>(cA rfl)) ?_;refine yp rfl (fun _=>(aQ rfl)) ?_;refine aJ (a6 ?_);have hcv125:Chg [] w3 v125:=by rw[hv125];exact Chg.heap rfl
         have hS125:SPm (.slice pv n cv) l0 w0 v125:=SPm.chg0 ⟨l122,ho122,hp122,hk122⟩ hcv125;refine bU rfl (fun hls=>?_) (fun hls=>?_)
         ·refine aw (a6 (aq (ag (zmv rfl (bg rfl rfl (by omega)) (za rfl ?_)))));refine a8 (ay (a6 ?_));have hob6:∃z,j2=z+1:=⟨j2-1,by omega⟩
          obtain⟨j2,rfl⟩:=hob6;have hob7:∃z,q2=z+1:=⟨q2-1,by omega⟩
          obtain⟨q2,rfl⟩:=hob7;refine aS (q2) (bx (by omega) ?_);exact⟨j2,(au rfl (au rfl (au rfl (au (bH (by omega)) bK)))),by omega,by omega,by omega,hS125⟩
         ·refine zxx ?_;exact⟨j2,rfl,hj2,hj2a,hS125⟩
        ·refine yp rfl (fun _=>bJ (gd rfl rfl) (congrArg Value.bool (decide_eq_false ((by omega))))) ?_;refine ym rfl (yno rfl (yno rfl (yno rfl (cg rfl rfl rfl (yno rfl (yno rfl (yno rfl (cg rfl rfl rfl (iI rfl rfl rfl (yno rfl (yp rfl (fun _=>(aN rfl)) ?_)))))))))));refine aJ (a6 (aK (rfl) (zxx ?_)));exact⟨j2,rfl,hj2,hj2a,h3.chg0 (drw _)⟩
      ·rintro vs3 J3 w3 ⟨j2,rfl,hj2,hj2a,h3⟩;refine ae (zSR (zmm rfl (a7 rfl (dt rfl rfl) ?_)));refine a8 (a6 (az rfl (fun hgt2=>?_) (fun hgt2=>?_)))
       ·refine aO (an (jj rfl (an (aE (a6 ?_)))));refine ae ?_;obtain⟨l126,ho126,hp126,hk126⟩:=id h3;have hl126:l126.length=n:=hp126.length_eq.trans hn;refine aG bz (.pure 0 (.pure 1 (.pure 2 (.pure 3 (.pure 4 (.pure 5 (.pure 6 (.read 7 (.pure 8 (.pure 9 (.pure 10 (.read 11 (.pure 12 (.eff 13 [] (.pure 14 (.eff 15 [] .nil)))))))))))))))) (by kernel_rfl) ?_;refine ym rfl (ym rfl (ym rfl (ym rfl (ym rfl (ym rfl (yex rfl (aU (a) aX I25 rfl (ho126.sl) rfl rfl (by first|rfl|omega) (by omega)) ?_))))));rintro _ ⟨b127,o127,rfl,he127,hb127⟩;refine aH rfl rfl rfl bw rfl rfl ((ho126.sl.at he127 (getD_some (d:=0) (by omega))).c0 rfl) ?_;refine ym rfl (ym rfl (yex rfl (aU (j2) aX I25 rfl (ho126.sl) rfl rfl (by first|rfl|omega) (by omega)) ?_));rintro _ ⟨b128,o128,rfl,he128,hb128⟩;refine aH rfl rfl rfl bw rfl rfl ((ho126.sl.at he128 (getD_some (d:=0) (by omega))).c0 rfl) ?_;refine yex rfl (aU (j2) aX I25 rfl (ho126.sl) rfl rfl (by first|rfl|omega) (by omega)) ?_;rintro _ ⟨b129,o129,rfl,he129,hb129⟩;refine dr rfl (bR (a:=l126.getD (a) 0) I25 rfl (ho126.mod0 (drw _)) rfl (he129) rfl rfl (by omega)) ?_;rintro u129 ⟨hou129,hcu129,hsu129⟩;refine⟨trivial,?_⟩;refine yex rfl (aU (a) aX I25 rfl (hou129.sl) rfl rfl (by first|rfl|omega) (by simp;omega)) ?_;rintro _ ⟨b130,o130,rfl,he130,hb130⟩;refine dr rfl (bR (a:=l126.getD (j2) 0) I25 rfl (hou129) rfl (he130) rfl rfl (by simp;omega)) ?_;rintro u130 ⟨hou130,hcu130,hsu130⟩;refine⟨trivial,?_⟩;refine zPR (zma rfl (za rfl (a8 (a6 (zrf ?_)))));have hS130:SPm (.slice pv n cv) l0 w0 u130:=⟨_,hou130,(ez l126 (j2) (a) (by omega) (by omega)).trans hp126,((hk126.tr0 (drw _)).tr hcu129).tr hcu130⟩
        exact⟨⟨j2,false,rfl,by omega,by omega⟩,hS130⟩
       ·refine aw (a6 (ae ?_));have hob8:∃z,q=z+1:=⟨q-1,by omega⟩
        obtain⟨q,rfl⟩:=hob8;have hob9:∃z,j2=z+1:=⟨j2-1,by omega⟩
        obtain⟨j2,rfl⟩:=hob9;obtain⟨l131,ho131,hp131,hk131⟩:=id h3;have hl131:l131.length=n:=hp131.length_eq.trans hn;refine aG bz (.pure 0 (.pure 1 (.pure 2 (.pure 3 (.pure 4 (.pure 5 (.pure 6 (.read 7 (.pure 8 (.pure 9 (.pure 10 (.read 11 (.pure 12 (.eff 13 [] (.pure 14 (.eff 15 [] .nil)))))))))))))))) (by kernel_rfl) ?_;refine ym rfl (ym rfl (ym rfl (ym rfl (ym rfl (ym rfl (yex rfl (aU (j2+1) aX I25 rfl (ho131.sl) rfl rfl (by first|rfl|omega) (by omega)) ?_))))));rintro _ ⟨b132,o132,rfl,he132,hb132⟩;refine aH rfl rfl rfl bw rfl rfl ((ho131.sl.at he132 (getD_some (d:=0) (by omega))).c0 rfl) ?_;refine ym rfl (ym rfl (yex rfl (aU (i2) aX I25 rfl (ho131.sl) rfl rfl (by first|rfl|omega) (by omega)) ?_));rintro _ ⟨b133,o133,rfl,he133,hb133⟩;refine aH rfl rfl rfl bw rfl rfl ((ho131.sl.at he133 (getD_some (d:=0) (by omega))).c0 rfl) ?_;refine yex rfl (aU (i2) aX I25 rfl (ho131.sl) rfl rfl (by first|rfl|omega) (by omega)) ?_;rintro _ ⟨b134,o134,rfl,he134,hb134⟩;refine dr rfl (bR (a:=l131.getD (j2+1) 0) I25 rfl (ho131.mod0 (drw _)) rfl (he134) rfl rfl (by omega)) ?_;rintro u134 ⟨hou134,hcu134,hsu134⟩;refine⟨trivial,?_⟩;refine yex rfl (aU (j2+1) aX I25 rfl (hou134.sl) rfl rfl (by first|rfl|omega) (by simp;omega)) ?_;rintro _ ⟨b135,o135,rfl,he135,hb135⟩;refine dr rfl (bR (a:=l131.getD (i2) 0) I25 rfl (hou134) rfl (he135) rfl rfl (by simp;omega)) ?_;rintro u135 ⟨hou135,hcu135,hsu135⟩;refine⟨trivial,?_⟩;refine zPR (zmv rfl (aB rfl rfl (by omega)) (za rfl ?_));refine a8 (a6 (ag (zmv rfl (bg rfl rfl (by omega)) (za rfl ?_))));refine a8 (ay (a6 ?_));have hS135:SPm (.slice pv n cv) l0 w0 u135:=⟨_,hou135,(ez l131 (i2) (j2+1) (by omega) (by omega)).trans hp131,((hk131.tr0 (drw _)).tr hcu134).tr hcu135⟩
        refine aS (q) (bx (by omega) ?_);exact⟨i2+1,j2,(au rfl (au rfl (au rfl (au (bH (by omega)) bK)))),by omega,by omega,by omega,by omega,by omega,hS135⟩
theorem pdqP_ok{pv:Option Addr}{n cv:Nat}{l0:List UInt32}{w0:World}(hn:l0.length=n)(hm:n<=1000):∀(d:Nat) (w:World) (a b lim:Nat),b-a=d->a<=b->b<=n->lim<=100->SPm (.slice pv n cv) l0 w0 w ->
  Ret Tryz.prog 174 #[.slice pv n cv,.int .i64 a,.int .i64 b,.int .i64 lim] w fun _ w'=>SPm (.slice pv n cv) l0 w0 w':=by
 intro d
 induction d using Nat.strongRecOn with
 | _ d ih =>
  intro w a b lim hd hab hbn hlim h;refine enter [] Tryz.func174 rfl rfl (al rfl) (zSR (za rfl (zNR (za rfl (a8 (a6 (aq (bf [0,1,2,3,8,9] (fun q vs w'=>∃(a b lim:Nat) (t8 t9:Bool),vs=[.slice pv n cv,.int .i64 a,.int .i64 b,.int .i64 lim,.bool t8,.bool t9]/\b+1<=a+q/\b<=a+d/\a<=b/\b<=n/\lim<=100/\SPm (.slice pv n cv) l0 w0 w') (d+1) ?_ ?_))))))))
  ·exact⟨a,b,lim,true,true,rfl,by omega,by omega,hab,hbn,hlim,h⟩
  ·rintro q vs J w1 ⟨a,b,lim,t8,t9,rfl,hq,hd2,hab,hbn,hlim,h1⟩;refine aq (zSR (zmm rfl (a7 rfl (bg rfl rfl (by omega)) (za rfl ?_))));refine a8 (a6 (ae (zSR (zmv rfl (gd rfl rfl) (a8 (a6 ?_))))));have hob1:∃m:Nat,m=b-a:=⟨_,rfl⟩
   obtain⟨m,hme⟩:=hob1;have hmi:(b:Int)-(a:Int)=(m:Int):=by omega
   rw[hmi];refine az rfl (fun h12=>?_) (fun h12=>?_)
   ·refine zSR (zmm rfl (zm rfl (ah rfl C215 (insP_ok h1 hn hm a b hab hbn) ?_)));rintro _ w2 h2;refine a8 (a6 (bC (aR (aZ (aR (aZ (dj ?_)))))));exact h2
   ·refine aw (a6 (ae (zSR (zmv rfl (dB rfl rfl) ?_))));refine a8 (a6 (az rfl (fun hl0=>?_) (fun hl0=>?_)))
    ·refine zSR (zmm rfl (zm rfl (ah rfl C216 (heap_ok h1 hn hm a b (by omega) hbn) ?_)));rintro _ w2 h2;refine a8 (a6 (bC (aR (aZ (aR (aZ (dj ?_)))))));exact h2
    ·refine aw (a6 ?_);have hob2:∃z,q=z+1:=⟨q-1,by omega⟩
     obtain⟨q,rfl⟩:=hob2;refine dX [0,1,2,3,8,9,10] (fun vs w'=>∃lim:Nat,vs=[.slice pv n cv,.int .i64 a,.int .i64 b,.int .i64 lim,.bool t8,.bool t9,.int .i64 m]/\lim<=100/\SPm (.slice pv n cv) l0 w0 w') ?_ ?_
     ·refine zSR (zmv rfl (cA rfl) (a8 (a6 (bU rfl (fun hb=>?_) (fun hb=>?_)))))
      ·refine zSR (zmm rfl (zm rfl (ah rfl C217 (Hv h1 hn hm a b (by omega) hbn) ?_)));rintro _ w2 h2;refine a8 (a6 (ag (zmv rfl (bg rfl rfl (by omega)) (za rfl ?_))));refine a8 (a6 ?_);have hob3:∃z,lim=z+1:=⟨lim-1,by omega⟩
       obtain⟨lim,rfl⟩:=hob3;exact⟨lim,au rfl (au rfl (au rfl (au (bH (by omega)) (au rfl (au rfl (au rfl bK)))))),by omega,h2⟩
      ·refine aw (a6 ?_);exact⟨lim,rfl,hlim,h1⟩
     ·rintro vs2 J2 w2 ⟨lim,rfl,hlim,h2⟩;refine zSR (zmm rfl (zm rfl (ah rfl C218 (GI h2 hn hm a b (by omega) hbn) ?_)));rintro _ w3 ⟨⟨p,hint,rfl,hp1,hp2,hh1,hh2⟩,h3⟩;refine zm rfl (zx rfl (zx rfl (zaa rfl (a8 (a6 (dX [0,1,2,3,8,9,10,11,12] (fun vs w'=>∃(p:Nat) (hint:Int),vs=[.slice pv n cv,.int .i64 a,.int .i64 b,.int .i64 lim,.bool t8,.bool t9,.int .i64 m,.int .i64 p,.int .i64 hint]/\a<=p/\p<b/\SPm (.slice pv n cv) l0 w0 w') ?_ ?_))))))
      ·refine zSR (zmv rfl (dB rfl rfl) ?_);refine a8 (a6 (az rfl (fun hdec=>?_) (fun hdec=>?_)))
       ·refine zSR (zmm rfl (zm rfl (ah rfl C219 (revR_ok h3 hn hm a b (by omega) hbn) ?_)));rintro _ w4 h4;refine zNR (zmv rfl (bg rfl rfl (by omega)) (zmm rfl (a7 rfl (bg rfl rfl (by omega)) (a7 rfl (bg rfl rfl (by omega)) (za rfl ?_)))));refine a8 (a6 (ag (za rfl (a8 (a6 ?_)))));exact⟨b-1-(p-a),1,au rfl (au rfl (au rfl (au rfl (au rfl (au rfl (au rfl (au (bH (by omega)) (au rfl bK)))))))),by omega,by omega,h4⟩
       ·refine aw (a6 ?_);exact⟨p,hint,rfl,hp1,hp2,h3⟩
      ·rintro vs3 J3 w4 ⟨p,hint,rfl,hp1,hp2,h4⟩;refine dX [0,1,2,3,8,9,10,11] (fun vs w'=>∃t8 t9:Bool,vs=[.slice pv n cv,.int .i64 a,.int .i64 b,.int .i64 lim,.bool t8,.bool t9,.int .i64 m,.int .i64 p]/\SPm (.slice pv n cv) l0 w0 w') ?_ ?_
       ·refine zSR (zmm rfl ?_);rcases Bool.eq_false_or_eq_true t8 with rfl|rfl
        ·refine aj rfl (zmv rfl (aQ rfl) (zm rfl ?_));rcases Bool.eq_false_or_eq_true t9 with rfl|rfl
         ·refine aj rfl (zm rfl (aj rfl (a7 rfl (dB rfl rfl) (a7 rfl (aQ rfl) (a8 (a6 (az rfl (fun hinc=>?_) (fun hinc=>?_))))))))
          ·refine zSR (zmm rfl (zm rfl (ah rfl C220 (GO h4 hn hm a b (by omega) hbn) ?_)));rintro _ w5 ⟨⟨t,rfl⟩,h5⟩;refine a8 (a6 (bU rfl (fun ht=>?_) (fun ht=>?_)))
           ·refine bC (aR (aZ (aR (aZ (dj ?_)))));exact h5
           ·refine aw (a6 ?_);exact⟨_,_,rfl,h5⟩
          ·refine aw (a6 ?_);exact⟨_,_,rfl,h4⟩
         ·refine aD rfl rfl (aD rfl rfl (a7 rfl (aN rfl) (a8 (a6 (aK (rfl) (aw (a6 ?_)))))));exact⟨_,_,rfl,h4⟩
        ·refine aD rfl rfl (a7 rfl (aN rfl) (zm rfl (aD rfl rfl (aD rfl rfl (a7 rfl (aN rfl) (a8 (a6 (aK (rfl) (aw (a6 ?_))))))))));exact⟨_,_,rfl,h4⟩
       ·rintro vs4 J4 w5 ⟨t8,t9,rfl,h5⟩;refine dX [0,1,2,3,10,11] (fun vs w'=>vs=[.slice pv n cv,.int .i64 a,.int .i64 b,.int .i64 lim,.int .i64 m,.int .i64 p]/\SPm (.slice pv n cv) l0 w0 w') ?_ ?_
        ·refine ae ?_;obtain⟨l136,ho136,hp136,hk136⟩:=id h5;have hl136:l136.length=n:=hp136.length_eq.trans hn;refine aG bz (.pure 0 (.pure 1 (.pure 2 (.pure 3 (.pure 4 (.pure 5 (.pure 6 (.read 7 (.pure 8 (.pure 9 (.pure 10 (.read 11 (.eff 12 [] (.pure 13 (.pure 14 .nil))))))))))))))) (by kernel_rfl) ?_;refine ym rfl ?_;by_cases ha0:0<a
         ·refine yp rfl (fun _=>bJ (dt rfl rfl) (congrArg Value.bool (decide_eq_true ((by omega))))) ?_;refine ym rfl (ym rfl (ym rfl (yp rfl (fun _=>(bg rfl rfl (by omega))) ?_)));refine yex rfl (aU (a-1) aX I25 rfl (ho136.sl) rfl rfl (by first|rfl|omega) (by omega)) ?_;rintro _ ⟨b137,o137,rfl,he137,hb137⟩;refine aH rfl rfl rfl bw rfl rfl ((ho136.sl.at he137 (getD_some (d:=0) (by omega))).c0 rfl) ?_;refine ym rfl (ym rfl (yex rfl (aU (p) aX I25 rfl (ho136.sl) rfl rfl (by first|rfl|omega) (by omega)) ?_));rintro _ ⟨b138,o138,rfl,he138,hb138⟩;refine aH rfl rfl rfl bw rfl rfl ((ho136.sl.at he138 (getD_some (d:=0) (by omega))).c0 rfl) ?_;refine ycl rfl qt (eL (l136.getD (a-1) 0) (l136.getD (p) 0) _) ?_;rintro _ v139 ⟨rfl,hv139⟩;refine⟨trivial,?_⟩;refine yp rfl (fun _=>(cA rfl)) ?_;refine yp rfl (fun _=>(aQ rfl)) ?_;refine aJ (a6 ?_);have hcv139:Chg [] w5 v139:=by rw[hv139];exact Chg.heap rfl
          have hS139:SPm (.slice pv n cv) l0 w0 v139:=SPm.chg0 ⟨l136,ho136,hp136,hk136⟩ hcv139;refine bU rfl (fun hls=>?_) (fun hls=>?_)
          ·refine zSR (zmm rfl (zmm rfl (ah rfl C222 (GP hS139 hn hm a b p (by omega) hbn hp1 hp2) ?_)));rintro _ w6 ⟨⟨c,rfl,hc1,hc2⟩,h6⟩;refine za rfl (zNR (zma rfl (a8 (a6 (aO (an (aE (a6 (aS (q) (bx (by omega) ?_))))))))));exact⟨c,b,lim,t8,t9,rfl,by omega,by omega,by omega,hbn,hlim,h6⟩
          ·refine aw (a6 ?_);exact⟨rfl,hS139⟩
         ·refine yp rfl (fun _=>bJ (dt rfl rfl) (congrArg Value.bool (decide_eq_false ((by omega))))) ?_;refine ym rfl (yno rfl (yno rfl (yno rfl (yno rfl (cg rfl rfl rfl (yno rfl (yno rfl (yno rfl (cg rfl rfl rfl (iI rfl rfl rfl (yno rfl (yp rfl (fun _=>(aN rfl)) ?_))))))))))));refine aJ (a6 (aK (rfl) (aw (a6 ?_))));exact⟨rfl,h5.chg0 (drw _)⟩
        ·rintro vs5 J5 w6 ⟨rfl,h6⟩;refine zSR (zmm rfl (zmm rfl (ah rfl C223 (GN h6 hn hm a b p (by omega) hbn hp1 hp2) ?_)));rintro _ w7 ⟨⟨c,t,rfl,hc1,hc2⟩,h7⟩;refine zm rfl (zx rfl (zx rfl (zaa rfl (zNR (zma rfl (zNR (zmm rfl (a7 rfl (bg rfl rfl (by omega)) (zmm rfl (a7 rfl (bg rfl rfl (by omega)) (zaa rfl ?_)))))))))));refine zNR (zmv rfl (lp rfl rfl (by omega)) (za rfl ?_));refine zNR (zmm rfl (a7 rfl (bL rfl rfl) (a8 (a6 (az rfl (fun hlr=>?_) (fun hlr=>?_))))))
         ·refine zSR (zmm rfl (a7 rfl (fH rfl rfl) (za rfl ?_)));refine zNR (zmm rfl (zmm rfl (ah rfl C174 (ih (c-a) (by omega) _ a c lim rfl hc1 (by omega) hlim h7) ?_)));rintro _ w8 h8;refine a8 (a6 (ag (zmv rfl (aB rfl rfl (by omega)) (za rfl ?_))));refine a8 (ay (a6 (aS (q) (bx (by omega) ?_))));exact⟨c+1,b,lim,_,t,rfl,by omega,by omega,by omega,hbn,hlim,h8⟩
         ·refine zSR (zmm rfl (a7 rfl (fH rfl rfl) (za rfl ?_)));refine zNR (zmm rfl (a7 rfl (aB rfl rfl (by omega)) (zmm rfl ?_)));refine ah rfl C174 (ih (b-(c+1)) (by omega) _ (c+1) b lim rfl (by omega) hbn hlim h7) ?_;rintro _ w8 h8;refine a8 (a6 (ag (zma rfl (a8 (ay (a6 (aS (q) (bx (by omega) ?_))))))));exact⟨a,c,lim,_,t,rfl,by omega,by omega,hc1,by omega,hlim,h8⟩
theorem yb{pv:Option Addr}{n cv:Nat}{l0:List UInt32}{w:World}(ho:Own w (.slice pv n cv) l0)(hn:l0.length=n)(hm:n<=1000) :
  Ret Tryz.prog 115 #[.slice pv n cv] w fun _ w'=>SPm (.slice pv n cv) l0 w w':=by
 by_cases h0:n=0
 ·subst hn;refine(Fq _ l0 w ho (by omega)).mono ?_;rintro r w' ⟨h1,h2⟩;exact⟨nj l0,h1,pO _,h2⟩
 ·have h64:(dh (n:Int)).toNat=n:=by rw[dN,mj (show n<18446744073709551616 by omega)]
  refine enter [] Tryz.func115 rfl rfl (al rfl) (zSR (zmv rfl (aA rfl aX) (za rfl (a8 (a6 (ag (zmm rfl (zmv rfl (cX rfl uU3 oZ) (ah rfl C132 (Bi (dh n) _ (by omega) (by omega)) ?_)))))))));rintro _ w1 ⟨⟨k,rfl,hk,_⟩,rfl⟩;refine ah rfl C174 (pdqP_ok hn hm n _ 0 n k rfl (by omega) (aM _) (by omega) (SPm.start ho)) ?_;rintro _ w2 h2;refine a8 (g0 ?_);exact h2
def Rch(V:UInt32->Bs)(rs:List UInt32)(x:UInt32):Prop:=∃r∈rs,∃d pg m,isT V d r pg m/\x∈pg
def Std(s:TP)(rs:List UInt32):Prop:=∀r∈rs,∃d pg m,isT s.V d r pg m/\(∀x∈pg,s.P.now.written x=true)/\pg.Nodup/\d<=40
theorem Rch.cls{V:UInt32->Bs}{rs:List UInt32}{f:UInt32->Bool}(h:∀x,f x=true↔Rch V rs x)(q:List UInt32):ClS V f q:=fun x _ hfx d pg' m' ht' y hy=>by
 obtain⟨r,hr,d1,pg1,m1,h1,h2⟩:=(h x).1 hfx;obtain⟨d2,pg2,m2,h3,h4⟩:=zt h1 x h2
 have:=jh ht' h3
 subst this;exact(h y).2 ⟨r,hr,d1,pg1,m1,h1,h4 y hy⟩
theorem Rch.more{V:UInt32->Bs}{rs:List UInt32}{f f':UInt32->Bool}{r:UInt32}{d:Nat}{pg:List UInt32}{m:List Pr}(h:∀x,f x=true↔Rch V rs x)(ht:isT V d r pg m)(hf:∀x,f' x=(f x||pg.elem x)):∀x,f' x=true↔Rch V (rs++[r]) x:=fun x=>by
 rw[hf,Bool.or_eq_true_iff,h x]
 constructor
 ·rintro(⟨r2,hr2,q⟩|g)
  ·exact⟨r2,cG _ hr2,q⟩
  ·exact⟨r,by simp,d,pg,m,ht,by simpa using g⟩
 ·rintro⟨r2,hr2,d2,pg2,m2,h2,hx⟩;rcases List.mem_append.1 hr2 with g|g
  ·exact .inl ⟨r2,g,d2,pg2,m2,h2,hx⟩
  ·rw[g8] at g;subst g;rw[jh h2 ht] at hx;exact .inr (by simpa using hx)
theorem Dp{sn dn:List (Bs×UInt32)}(h:(snV dn).Perm (snV sn))(p:Bs×UInt32):p∈dn↔p∈sn:=by
 have key:∀{a b:List (Bs×UInt32)},(∀q,q∈snV a->q∈snV b)->p∈a->p∈b:=fun hh hp=>by
  obtain⟨q,hq,e⟩:=List.mem_map.1 (hh _ (List.mem_map.2 ⟨p,hp,rfl⟩));have e1:=congrArg Prod.fst e;have e2:=congrArg Prod.snd e;have e1:q.1=p.1:=e1;have e2:Value.int .u32 q.2.toNat=.int .u32 p.2.toNat:=e2;have e2:q.2=p.2:=UInt32.toNat_inj.1 (by injection e2 with _ e3;omega)
  have:q=p:=Prod.ext e1 e2
  rw[<-this];exact hq
 exact⟨key (fun q=>h.subset (a:=q)),key (fun q=>h.symm.subset (a:=q))⟩
theorem vq(c:TC)(w:World)(s:TP)(sb mr:Nat)(v1 v2 v3:Value)(root:UInt32)(sn:List (Bs×UInt32))(h:c.pg w s)(hB:Blk w sb [c.pv,v1,v2,v3])(hM:MapAt w mr (snV sn))(hT:Std s (root::sn.map (·.2))) :
  Ret Tryz.prog 79 #[.pointer (some ⟨sb,0,none⟩),.int .u32 root.toNat,.map (some mr)] w fun r w'=>(∃(qb:Nat) (f:PgF),r=.tuple #[.map (some qb),.int .i64 0]/\SetAt w' qb f/\(∀x,f x=true↔Rch s.V (root::sn.map (·.2)) x)/\w.heap.size<=qb)/\c.pg w' s/\Chg [] w w':=by
 have hFl:=h.lt;have hw0:=(PS.now h).1;have hmr:=hM.lt;have hsb:=hB.lt;obtain⟨d0,pg0,m0,ht0,hwr0,hnd0,hd0⟩:=hT root cK;refine enter [6,7] Tryz.func79 rfl rfl (al rfl) (zSR (zaa rfl (zNR (aY rfl (nD UInt32) ?_))));rintro _ w1 ⟨qb,rfl,hnq,hM1,hc1,hl1⟩;refine za rfl (a8 (a6 (ae (zSR (zm rfl (zn rfl rfl (a7 rfl (aa dF rfl I24 rfl rfl) ?_)))))));have hk1:=hc1.1;have hqF:qb∉c.F/\c.w0.heap.size<=qb:=⟨fun hh=>by have:=hFl _ hh;omega,by omega⟩
 have hqn:∀x∈c.F,x∉[qb]:=fun x hx hh=>by simp at hh;subst hh;exact hqF.1 hx
 have hB1:=hB.chg0 hc1;refine a7 rfl (aC nt rfl rfl (hB1.c rfl)) (zmm rfl (ah rfl C66 (E9 c qb s hqF d0 w1 root pg0 m0 lJ (h.chg0 hc1) (SetAt.nil hM1) ht0 hwr0 hd0 hnd0 (ClS.none _ _)) ?_));rintro _ w2 ⟨rfl,f2,hS2,hf2,hp2,hc2⟩;refine za rfl (zNR (zmv rfl (bS rfl rfl) (a8 (a6 ?_))));have hr2:∀x,f2 x=true↔Rch s.V [root] x:=Rch.more (rs:=[]) (f:=lJ) (fun x=>⟨fun hh=>(by cases hh),fun⟨r,hr,_⟩=>(by simp at hr)⟩) ht0 hf2;have hc02:Chg [] w w2:=hc1.t1 hc2 hnq;have hk2:=hc2.1;refine aI rfl (fun h=>h rfl) ?_;refine aw (a6 (ae (zSR (zm rfl ?_))));have hM2:=hM.mod hc02 (by simp);refine dK rfl (ow fJ rfl hM2) ?_;rintro w3 ⟨hit,hc3,hs3⟩;refine a8 (a6 (aq (bf [0,8,25] (fun n vs w'=>∃(left:List (Bs×Value)) (dn:List (Bs×UInt32)) (f:PgF),vs=[.pointer (some ⟨sb,0,none⟩),.map (some qb),.pointer (some ⟨w2.heap.size,0,none⟩)]/\left.length=n/\IterAt w' w2.heap.size mr (snV sn) left/\(snV dn++left).Perm (snV sn)/\SetAt w' qb f/\(∀x,f x=true↔Rch s.V (root::dn.map (·.2)) x)/\c.pg w' s/\Chg [] w w') (sn.length) ?_ ?_)))
 ·exact⟨snV sn,[],f2,rfl,jw _,hit,.refl _,hS2.chg0 hc3,hr2,hp2.chg0 hc3,hc02.tr hc3⟩
 ·rintro n vs J w4 ⟨left,dn,f4,rfl,hln,hit4,hpm4,hS4,hr4,hp4,hc4⟩;refine ae (ag ?_);have hnl:dn.length+n=sn.length:=by have:=hpm4.length_eq;rw[aF,jw,jw,hln] at this;exact this
  refine lS rfl (hit4) rfl ?_ ?_
  ·rintro h0;refine zx rfl (a8 (a6 (ae (aK (rfl) (aO (an (an (aE (a6 (zSR (zma rfl (za rfl (a8 (a6 (zrf ?_)))))))))))))));subst h0;rw[cy] at hpm4;refine⟨⟨qb,f4,rfl,hS4,fun x=>?_,hnq⟩,hp4,hc4⟩;rw[hr4 x]
   constructor
   ·rintro⟨r,hr,q⟩;refine⟨r,?_,q⟩;rcases List.mem_cons.1 hr with rfl|hr
    ·exact cK
    ·have hob1:=List.mem_map.1 hr;obtain⟨p,hp,rfl⟩:=hob1;exact bN _ (List.mem_map.2 ⟨p,(Dp hpm4 p).1 hp,rfl⟩)
   ·rintro⟨r,hr,q⟩;refine⟨r,?_,q⟩;rcases List.mem_cons.1 hr with rfl|hr
    ·exact cK
    ·have hob2:=List.mem_map.1 hr;obtain⟨p,hp,rfl⟩:=hob2;exact bN _ (List.mem_map.2 ⟨p,(Dp hpm4 p).2 hp,rfl⟩)
  ·rintro a k v b' w5 hsp hit5 hcur hc5 hs5;refine zx rfl (a8 (a6 (ae (bh (rfl) (aw (a6 (aq (ae (ag ?_)))))))));obtain⟨n,rfl⟩:∃z,n=z+1:=⟨n-1,by have:=congrArg List.length hsp;simp only[aF,bY] at this;omega⟩
   have hkv:(k,v)∈snV sn:=hpm4.subset (by rw[hsp];simp);have hob3:=List.mem_map.1 hkv;obtain⟨p,hpm,hpe⟩:=hob3;have hv:v=.int .u32 p.2.toNat:=(congrArg Prod.snd hpe).symm;have hkp:k=p.1:=(congrArg Prod.fst hpe).symm;subst hv hkp;refine a7 rfl (oy rfl hcur) (zx rfl (za rfl (zNR (zm rfl (zn rfl rfl (a7 rfl (aa dF rfl I24 rfl rfl) ?_))))));have hqi:w2.heap.size∉c.F:=fun hh=>by have:=hFl _ hh;omega
   have hc45:Chg [] w w5:=hc4.t1 hc5 (by have:=hc02.1;omega);have hB5:=hB.chg0 hc45;refine a7 rfl (aC nt rfl rfl (hB5.c rfl)) (zmm rfl ?_);have hp5:c.pg w5 s:=h.chg0 hc45;have hS5:SetAt w5 qb f4:=hS4.mod hc5 (by simp;omega);have hob4:=hT p.2 (bN _ (List.mem_map.2 ⟨p,hpm,rfl⟩));obtain⟨d,pg,m,ht,hwr,hnd,hd⟩:=hob4;refine ah rfl C66 (E9 c qb s hqF d w5 p.2 pg m f4 hp5 hS5 ht hwr hd hnd (Rch.cls hr4 pg)) ?_;rintro _ w6 ⟨rfl,f6,hS6,hf6,hp6,hc6⟩;refine za rfl (zNR (zmv rfl (bS rfl rfl) (a8 (a6 ?_))));have hr6:=Rch.more hr4 ht hf6;refine aI rfl (fun h=>h rfl) ?_;refine aw (ay (a6 (aS (n) (bx (by omega) ?_))));refine⟨a++b',dn++[p],f6,rfl,by have:=congrArg List.length hsp;simp only[aF,bY] at this ⊢;omega,hit5.mod hc6 (by simp;omega) (by simp;omega),?_,hS6,?_,hp6,hc45.t1 hc6 hnq⟩
   ·refine List.Perm.trans ?_ hpm4;rw[hsp];unfold snV;rw[g9,bO];refine pJ _ ?_;exact(List.perm_middle (l₁:=a) (l₂:=b')).symm
   ·rw[g9];exact hr6
end Go.Proofs.YtpbfapbajmdlkaaGreat
namespace Go.Proofs.YtpbfapbajmdlkaaGreat
open Go Go.Sac Go.RowKit Go.Maps Go.Sort
set_option maxRecDepth 100000 in
set_option maxHeartbeats 1000000 in
theorem wX {H : Type} (F : Fence) (n : Nat) (h10 : F.fn 189) (hro : F.round = none) (hn : 1 ≤ n) (l Bm b nn : Nat) (D0 : DataW H) {R : Value → Option (DataW H × List MemPlace)} (J : List Int → World → Prop)
    (hY : ∀ pre x W, J pre W → pre.length < Maps.size D0 → YieldAt F (n - 1) Tryz.prog l #[(kE .u32) x] W fun e W' => e = .returned (.bool true) ∧ J (pre ++ [x]) W' ∧ KeepsWalks W W')
    (W : World) (hJ : AbidesFrom W.heap.size J) (hm : W.cell? ⟨Bm, 0, none⟩ = some (.map (some b))) (hown : W.ownsMap Tryz.prog 25 R b nn D0) (h0 : J [] W) :
    CallsIn F n Tryz.prog 189 #[.func (.yield l) #[] #[], .pointer (some ⟨Bm, 0, none⟩)] W fun e W' => (∃ v, e = .returned v) ∧ ∃ ss : List Int, ss.Perm (intKeys D0) ∧ J ss W' := by
  refine callsIn_of_wp Tryz.func189 rfl h10 ?_ hro
  simp only [Tryz.ntmps189, List.size_toArray, List.length_cons, List.length_nil, Nat.reduceAdd, Nat.reduceSub, Array.replicate_succ, Array.replicate_zero, List.push_toArray, List.append_toArray, List.nil_append, List.cons_append]
  gi_wp2_with (first
    | (gi_at_range; refine wpListIn_range_own _ rfl _ 164 rfl 25 4 (int_keyed bw) eA _ b nn _ rfl hown ?_; intro w0 hrg0 hg0 hs0)
    | gi_in)
  go_frame
  gi_loopw [3] (fun _ wr => ∃ (left : Lit → Bool) (cnt : Nat) (ss : List Int), wr.ranges Tryz.prog 25 R b W.heap.size nn D0 left cnt ∧ ss.length + cnt ≤ Maps.size D0 ∧ Came .u32 D0 left ss ∧ J ss wr)
    (fun _ wr => wr.rangeLeft b W.heap.size)
  case atStart =>
    exact ⟨_, _, [], hrg0, by simp, Came.start .u32 D0, hJ [] W w0 none h0 hg0 (fun r e => by cases e)⟩
  case round =>
    obtain ⟨left, cnt, ss, hrg, hcs, hC, hJs⟩ := hrel
    gi_wp2_with (first
      | (gi_at_next; refine wpListIn_next_ranges _ rfl _ rfl 25 (int_keyed bw) R (kE .u32) id (fun key kl hk => by obtain ⟨x, hx, _⟩ := Maps.keyOf_int_inv bw hk; exact ⟨x, hx⟩) (fun v _ _ => ⟨v, rfl⟩) b W.heap.size nn _ _ _ rfl hrg ?_ ?_)
      | gi_in)
    ·
      intro hc0 hl0
      gi_wp2
      go_end0
      exact ⟨⟨_, rfl⟩, ss, hC.perm hown (int_keyed bw) bw hl0, hJs⟩
    ·
      intro x c kl yd yp w2 cnt2 hkey hlk hv hat hrg2 hlt hg2 hs2 hen
      obtain ⟨x', ex, rfl, _⟩ := Maps.keyOf_int_inv bw hkey
      obtain rfl : x = x' := AP ex
      have hJ2 : J ss w2 := hJ ss wr w2 (some W.heap.size) hJs hg2 (fun r e => by cases e; exact ⟨Nat.le_refl _, hrg.iter_walk⟩)
      obtain ⟨fn, tmps, assign, body, hy, hR⟩ := hY ss x w2 hJ2 (by omega)
      clear hs2
      gi_wp2
      refine hR.mono ?_
      rintro e W3 ⟨rfl, hJ3, hk3⟩
      gi_wp2
      have hrg3 := hrg2.of_walks hk3
      go_roundw
      case rel => exact ⟨_, cnt2, ss ++ [x], hrg3, by simp; omega, hC.step hlk hat, hJ3⟩
      case measure => rw [hrg3.left_eq, hrg.left_eq]; exact hlt
theorem vQ {H : Type} (F : Fence) (n : Nat) (h10 : F.fn 189) (hro : F.round = none) (hn : 1 ≤ n) (Bm b nn : Nat) (D0 : DataW H) {R : Value → Option (DataW H × List MemPlace)} (w : World) (hBm : Bm < w.heap.size)
    (hm : w.cell? ⟨Bm, 0, none⟩ = some (.map (some b))) (hown : w.ownsMap Tryz.prog 25 R b nn D0) :
    SeqGives F n Tryz.prog 189 #[.pointer (some ⟨Bm, 0, none⟩)] (kE .u32) (fun ss => ss.Perm (intKeys D0)) (Maps.size D0) w := fun l J W hW hJ hY h0 => by
  have hown' : W.ownsMap Tryz.prog 25 R b nn D0 := by
    have hbl := hown.lt
    obtain ⟨es, clock, hb, Ft, hs, hD⟩ := hown
    exact ⟨es, clock, (hW.block b hbl).trans hb, Ft, hs, hD⟩
  exact wX F n h10 hro hn l Bm b nn D0 J hY W hJ ((hW.cell (p := ⟨Bm, 0, none⟩) hBm).trans hm) hown' h0
end Go.Proofs.YtpbfapbajmdlkaaGreat
namespace Go.Proofs.YtpbfapbajmdlkaaGreat
open Go Go.Sac Go.Maps
set_option maxRecDepth 100000
set_option maxHeartbeats 4000000
theorem HO(w:World)(r:Nat) :
  Ret Tryz.prog 133 #[.map (some r)] w fun v w'=>∃q,v=.func (.func 189) #[] #[.pointer (some ⟨q,0,none⟩)]/\Blk w' q [.map (some r)]/\w.heap.size<=q/\Chg [] w w':=by
 refine enter [2] Tryz.func133 rfl rfl (al rfl) (zSR (aY rfl (cT (l:=[.map (some r)]) rfl rfl) ?_));rintro _ w1 ⟨q,rfl,hq,hB,hc,hl⟩;refine za rfl (zNR (a7 rfl (De rfl) (za rfl (a8 (a6 (zrf ?_))))));exact⟨q,rfl,hB,hq,hc⟩
theorem Bg(w:World)(q r:Nat)(f:PgF)(n:Nat)(hn:n<=1000)(hB:Blk w q [.map (some r)])(hm:SetAt w r f)(hf:∀x,f x=true->x.toNat<n) :
  Ret Tryz.prog 114 #[.func (.func 189) #[] #[.pointer (some ⟨q,0,none⟩)]] w fun v w'=>∃l:List UInt32,Own w' v l/\l.Nodup/\(∀x,x∈l↔f x=true)/\l.length<=n/\Chg [] w w'/\In v [] w.heap.size:=by
 obtain⟨m,hm,hg⟩:=hm;have hnd:(m.map (·.1)).Nodup:=by obtain⟨es,cl,_,_,hn,_⟩:=hm;exact hn
 have hmem:∀x,x∈m.map (·.1)↔f x=true:=fun x=>by
  have h1:=hg x
  constructor
  ·intro hx;by_cases hfx:f x=true
   ·exact hfx
   ·rw[if_neg hfx] at h1;have hob1:=List.mem_map.1 hx;obtain⟨p,hp,rfl⟩:=hob1
    have:=(fg hnd).2 (show(p.1,p.2)∈m from hp)
    rw[this] at h1;cases h1
  ·intro hfx;rw[if_pos hfx] at h1;exact List.mem_map.2 ⟨_,(fg hnd).1 h1,rfl⟩
 have hsort:∀l:List UInt32,l.Perm (m.map (·.1))->nj l=zf f n:=fun l hl =>
  A1 (by omega) (hl.nodup_iff.2 hnd) (fun x=>by rw[hl.mem_iff];exact hmem x) hf
 have hlen:∀l:List UInt32,l.Perm (m.map (·.1))->l.length<=n:=fun l hl=>by
  rw[<-qT,hsort l hl];exact ti f n
 have hml:m.length<=n:=by have:=hlen _ (.refl _);simpa using this
 obtain⟨D0,hown,hperm,hsz⟩:=ph bw hm (by unfold maxLen;omega);have hseq:SeqGives Fence.wide 3 Tryz.prog 189 #[.pointer (some ⟨q,0,none⟩)] (kE .u32) (fun ss=>ss.Perm (intKeys D0)) (Maps.size D0) w :=
  vQ Fence.wide _ trivial rfl (by omega) q r m.length D0 w hB.lt (hB.c rfl) hown
 have cC:=nT Fence.wide 5 trivial trivial rfl (by omega) 189 #[.pointer (some ⟨q,0,none⟩)] trivial (enters_of Tryz.func189 (by kernel_rfl) rfl) _ _ (by rw[hsz];unfold maxLen;omega) (by rw[hsz];omega) _ hseq;refine Calls.mono (callsIn_wide.1 cC) ?_;rintro e w' ⟨v,ss,rfl,hS,hrow,hnil,hb⟩;have hp2:ss.Perm ((m.map (·.1)).map fun p=>(p.toNat:Int)):=by rw[fC];exact hS.trans hperm
 have hob2:=ri hp2;obtain⟨l,hl,rfl⟩:=hob2;rw[df,fC] at hrow;have hob3:=tk (l:=l) hrow;obtain⟨h1,h2⟩:=hob3;exact⟨v,rfl,l,h1,hl.nodup_iff.2 hnd,fun x=>by rw[hl.mem_iff];exact hmem x,hlen l hl,⟨hb.size,fun b hb' _=>hb.block b hb',hb.os,hb.output⟩,h2⟩
theorem CW(w:World)(q r:Nat)(f:PgF)(n:Nat)(hn:n<=1000)(hB:Blk w q [.map (some r)])(hm:SetAt w r f)(hf:∀x,f x=true->x.toNat<n) :
  Ret Tryz.prog 67 #[.func (.func 189) #[] #[.pointer (some ⟨q,0,none⟩)]] w fun v w'=>∃l:List UInt32,Own w' v l/\l.Nodup/\(∀x,x∈l↔f x=true)/\l.length<=n/\Chg [] w w'/\In v [] w.heap.size:=by
 refine enter [2] Tryz.func67 rfl rfl (al rfl) (zSR (za rfl (zNR (zm rfl (ah rfl C114 (Bg w q r f n hn hB hm hf) ?_)))));rintro v1 w1 ⟨l,ho1,hnd1,hm1,hl1,hc1,hi1⟩;have hob4:=ho1.form rfl;obtain⟨pv,cv,rfl⟩:=hob4;refine za rfl (zNR (zm rfl (ah rfl C115 (yb ho1 rfl (by omega)) ?_)));rintro _ w2 ⟨l2,ho2,hp2,hc2⟩;refine zNR (zma rfl (a8 (a6 (zrf ?_))));exact⟨l2,ho2,hp2.nodup_iff.2 hnd1,fun x=>by rw[hp2.mem_iff];exact hm1 x,by rw[hp2.length_eq];exact hl1,hc1.t0 hc2 (fun x hx=>hi1.ge x hx),hi1⟩
theorem wz(w:World)(R:PR)(b:Nat)(k:List UInt8)(P:Pg)(h:PagerAt w R b k P)(n:Nat)(hn:n<=1000)(hf:∀x,P.now.used x=true->x.toNat<n) :
  Ret Tryz.prog 80 #[.pointer (some ⟨R.pb,0,none⟩)] w fun v w'=>∃l:List UInt32,Own w' v l/\l.Nodup/\(∀x,x∈l↔P.now.used x=true)/\l.length<=n/\Chg [] w w'/\In v [] w.heap.size:=by
 refine enter [2] Tryz.func80 rfl rfl (al rfl) (zSR (za rfl (zNR (zm rfl (zn rfl rfl (a7 rfl (aa dx rfl gE rfl rfl) (a7 rfl (aa eM rfl kg rfl rfl) (a7 rfl (aC eA rfl rfl (h.a 2 (by decide) rfl)) ?_))))))));refine ah rfl C133 (HO w R.u) ?_;rintro _ w1 ⟨q,rfl,hB,hq,hc1⟩;refine ah rfl C67 (CW w1 q R.u _ n hn hB (h.2.1.chg0 hc1) hf) ?_;rintro v2 w2 ⟨l,ho2,hnd,hm,hl,hc2,hi2⟩;refine za rfl (a8 (a6 (zrf ?_)));exact⟨l,ho2,hnd,hm,hl,hc1.tr hc2,hi2.mono (fun x hx=>.inl hx) hc1.1⟩
end Go.Proofs.YtpbfapbajmdlkaaGreat
namespace Go.Proofs.YtpbfapbajmdlkaaGreat
open Go Go.Sac
set_option maxRecDepth 100000
set_option maxHeartbeats 4000000
structure Frg(s s':TP)(L:List UInt32)(g:UInt32->Bool):Prop where
 used:∀x,s'.P.now.used x=(s.P.now.used x && !(L.elem x&&g x))
 writ:∀x,s'.P.now.written x=(s.P.now.written x && !(L.elem x&&g x))
 kept:s'.P.kept=s.P.kept
 v:s'.V=s.V
 k:s'.k=s.k
section
variable {c:TC}{w w':World}{s s1 s':TP}{L:List UInt32}{g:UInt32->Bool}
theorem Frg.nil(s:TP)(g:UInt32->Bool):Frg s s [] g:=⟨fun x=>by simp,fun x=>by simp,rfl,rfl,rfl⟩
theorem Frg.free(h:c.pg w s)(hf:Frg s1 s L g)(x:UInt32)(hx:x∉L)(hu:s1.P.now.used x=true)(hg:g x=true) :
  Ret Tryz.prog 128 #[c.pv,.int .u32 x.toNat] w fun _ w'=>(∃s',c.pg w' s'/\Frg s1 s' (L++[x]) g)/\Chg c.F w w':=by
 have hu2:s.P.now.used x=true:=by
  have e:L.elem x=false:=by simpa using hx
  rw[hf.used,hu,e];rfl
 refine(vX h x hu2).mono ?_;rintro v w' ⟨_,hS,hc⟩;refine⟨⟨⟨s.k,s.ds,{ s.P with now:={ s.P.now with used:=eN s.P.now.used x,written:=eN s.P.now.written x } },s.V⟩,hS,⟨fun y=>?_,fun y=>?_,hf.kept,hf.v,hf.k⟩⟩,hc⟩
 ·show eN s.P.now.used x y=_;unfold eN;rw[hf.used];by_cases e:y=x
  ·subst e;simp[hg]
  ·simp[e,List.elem_eq_mem]
 ·show eN s.P.now.written x y=_;unfold eN;rw[hf.writ];by_cases e:y=x
  ·subst e;simp[hg]
  ·simp[e,List.elem_eq_mem]
theorem Frg.skip(hf:Frg s1 s L g){x:UInt32}(hg:g x=false):Frg s1 s (L++[x]) g:=by
 refine⟨fun y=>?_,fun y=>?_,hf.kept,hf.v,hf.k⟩
 ·rw[hf.used];by_cases e:y=x
  ·subst e;simp[hg]
  ·simp[e,List.elem_eq_mem]
 ·rw[hf.writ];by_cases e:y=x
  ·subst e;simp[hg]
  ·simp[e,List.elem_eq_mem]
theorem Std.writ{rs:List UInt32}(h:Std s rs){x:UInt32}(hx:Rch s.V rs x):s.P.now.written x=true:=by
 obtain⟨r,hr,d,pg,m,h1,h2⟩:=hx;obtain⟨d2,pg2,m2,h3,h4,_⟩:=h r hr;rw[jh h1 h3] at h2;exact h4 x h2
end
structure Cmt(c c':TC)(w':World)(s s':TP)(root:UInt32)(sn:List (Bs×UInt32)):Prop where
 at_:c'.pg w' s'
 c:c'={ c with R:={ c.R with u:=c'.R.u,r:=c'.R.r,ku:=c'.R.ku,kr:=c'.R.kr } }
 v:s'.V=s.V
 rt:s'.P.now.root=root
 txt:∃l,l.Perm sn/\s'.P.now.txt=gQ l
 used:∀x,s'.P.now.used x=true↔Rch s.V (root::sn.map (·.2)) x
 writ:∀x,Rch s.V (root::sn.map (·.2)) x->s'.P.now.written x=true
 com:Com s'
 st:s'.P.kept.st=s'.P.now
 pend:s'.ds.pend=[]
 k:s'.k=s.k+1
theorem sQ(c:TC)(w:World)(s:TP)(sb mr:Nat)(v1 v2 v3:Value)(root:UInt32)(sn:List (Bs×UInt32))(h:c.pg w s)(hB:Blk w sb [c.pv,v1,v2,v3])(hM:MapAt w mr (snV sn))(hT:Std s (root::sn.map (·.2)))(hbF:sb∉c.F/\c.w0.heap.size<=sb)(hmF:mr∉c.F/\mr≠sb)(hl:sn.length<=12)(h10:∀p∈sn,p.1.length<=10)(hk:s.k+1<=40000) :
  Ret Tryz.prog 75 #[.pointer (some ⟨sb,0,none⟩),.int .u32 root.toNat,.map (some mr)] w fun r w'=>r=.int .i64 0/\(∃(c':TC) (s':TP),Cmt c c' w' s s' root sn/\(∀x∈c'.F,x∈c.F∨w.heap.size<=x))/\Blk w' sb [c.pv,.int .u32 root.toNat,.map (some mr),v3]/\MapAt w' mr (snV sn)/\Chg (sb::c.F) w w':=by
 have hFl:=h.lt;have hmr:=hM.lt;have hsb:=hB.lt;have hn4:=h.n4;refine enter [6] Tryz.func75 rfl rfl (al rfl) (zSR (za rfl (zNR (zmm rfl (zm rfl (ah rfl C79 (vq c w s sb mr v1 v2 v3 root sn h hB hM hT) ?_))))));rintro _ w1 ⟨⟨qb,f,rfl,hS1,hf,hqn⟩,hp1,hc1⟩;refine zm rfl (zx rfl (zx rfl (zaa rfl (a8 (a6 (ae (zSR (zmv rfl (bS rfl rfl) (a8 (a6 (aI rfl (fun h=>h rfl) ?_)))))))))));refine aw (a6 (ae (zSR (zm rfl (zn rfl rfl (a7 rfl (aa dF rfl I24 rfl rfl) ?_))))));have hB1:=hB.chg0 hc1;have hM1:=hM.mod hc1 (by simp);refine a7 rfl (aC nt rfl rfl (hB1.c rfl)) (ah rfl C80 (wz w1 c.R c.b c.key s.P hp1.2.1 c.n (by omega) (fun x hx=>hp1.2.2.2.1.ok.used x hx)) ?_);rintro v2' w2 ⟨l,ho2,hnd,hm,hll,hc2,hi2⟩;have hob1:=ho2.form (n:=l.length) rfl;obtain⟨pl,cl,rfl⟩:=hob1;refine a7 rfl (aA rfl aX) (zm rfl (a8 (a6 (aq ?_))));have hc02:=hc1.tr hc2;have hqF:qb∉c.F:=fun hh=>by have:=hFl _ hh;omega
 have hlF:∀x∈ax (.slice pl l.length cl),x∉c.F:=fun x hx hh=>by have:=hi2.ge x hx;have:=hFl x hh;have:=hc1.1;omega
 have hB2:=hB1.chg0 hc2;have hM2:=hM1.mod hc2 (by simp);have hS2:=hS1.chg0 hc2;have hfu:∀x,f x=true->s.P.now.used x=true:=fun x hx=>h.wu (hT.writ ((hf x).1 hx));refine bf [0,1,2,7,29,30,31] (fun n vs w'=>∃(i:Nat) (s':TP),vs=[.pointer (some ⟨sb,0,none⟩),.int .u32 root.toNat,.map (some mr),.map (some qb),.slice pl l.length cl,.int .i64 l.length,.int .i64 i]/\i+n=l.length/\c.pg w' s'/\Frg s s' (l.take i) (fun x => !f x)/\Chg c.F w2 w') (l.length) ?_ ?_
 ·exact⟨0,s,rfl,by omega,hp1.chg0 hc2,Frg.nil _ _,Chg.refl' _ _⟩
 ·rintro n vs J w3 ⟨i,s3,rfl,hin,hp3,hf3,hc3⟩;refine zSR (a7 rfl (bL rfl rfl) ?_);refine a8 (a6 (ae ?_));have hB3:=hB2.chg hc3 hbF.1;refine az rfl (fun hlt=>?_) (fun hlt=>?_)
  ·refine aw (a6 (ae (aq (ae (ag ?_)))));have hob2:∃z,n=z+1:=⟨n-1,by omega⟩
   obtain⟨n,rfl⟩:=hob2;have hob3:∃a,l[i]?=some a:=⟨l[i]'(by omega),bX _⟩
   obtain⟨x,hx⟩:=hob3;have htk:l.take (i+1)=l.take i++[x]:=by rw[j9,hx];rfl
   have hnx:x∉l.take i:=by
    have:=hnd.sublist (oh (i+1) l)
    rw[htk,jY] at this;exact fun hh=>this.2.2 x hh x (by simp) rfl
   have hxu:=(hm x).1 (j5 hx);have hl3:=ho2.mod hc3 hlF;have hS3:SetAt w3 qb f:=hS2.mod hc3 hqF;obtain⟨st,hst,hsl⟩:=hS3;refine bF rfl (aU (i) aX I25 rfl (hl3.sl) rfl rfl (by first|rfl|omega) (by omega)) ?_;rintro _ ⟨bi,oi,rfl,hei,hbi⟩;refine a7 rfl (aC bw rfl rfl (((hl3.sl.at hei hx).c0 rfl))) (za rfl (zNR (zmm rfl ?_)));have hlook:(cw x st).getD (.bool false)=.bool (f x):=by
    rw[SetAt.look hsl]
   refine a7 rfl (bJ (fe (k:=x) qR (dq bw) I4 rfl rfl rfl hst) hlook) ?_;refine a7 rfl (cA rfl) (a8 (a6 (bU rfl (fun hfx=>?_) (fun hfx=>?_))))
   ·refine ag (zm rfl (zn rfl rfl (a7 rfl (aa dF rfl I24 rfl rfl) ?_)));refine a7 rfl (aC nt rfl rfl (hB3.c rfl)) (zm rfl (ah rfl C128 (hf3.free hp3 x hnx hxu hfx) ?_));rintro _ w4 ⟨⟨s4,hp4,hf4⟩,hc4⟩;refine a8 (ay (a6 (ag (a7 rfl (aB rfl rfl (by omega)) (zm rfl ?_)))));refine a8 (a6 (aS (n) (bx (by omega) ?_)));exact⟨i+1,s4,rfl,by omega,hp4,by rw[htk];exact hf4,hc3.tr hc4⟩
   ·refine aw (ay (a6 (ag (a7 rfl (aB rfl rfl (by omega)) (zm rfl ?_)))));refine a8 (a6 (aS (n) (bx (by omega) ?_)));exact⟨i+1,s3,rfl,by omega,hp3,by rw[htk];exact hf3.skip hfx,hc3⟩
  ·refine aO (an (an (aE (a6 (zSR (zm rfl ?_))))));have hil:i=l.length:=by omega
   subst hil;rw[cZ] at hf3;have hus:∀x,s3.P.now.used x=f x:=fun x=>by
    rw[hf3.used];cases hfx:f x with
    | true => rw [hfu x hfx]; simp
    | false =>
     cases hux:s.P.now.used x with
     | false => rfl
     | true =>
      have:l.elem x=true:=by simpa using (hm x).2 hux
      rw[this];rfl
   have hws:∀x,f x=true->s3.P.now.written x=true:=fun x hx=>by
    rw[hf3.writ,hT.writ ((hf x).1 hx)];simp[hx]
   have hM3:MapAt w3 mr (snV sn):=hM2.mod hc3 hmF.1;refine a7 rfl (bP dF I143 rfl (zs:=[.pointer none,.int .u32 0,.map none,.bool false]) rfl rfl (bI rfl rfl rfl (al rfl) (dP (cs':=[.pointer none,.int .u32 0,.map (some mr),.bool false]) rfl))) ?_;refine aY rfl (cT (l:=[.pointer none,.int .u32 0,.map (some mr),.bool false]) rfl rfl) ?_;rintro _ w4 ⟨nb,rfl,hnn,hN4,hc4,hl4⟩;refine za rfl (a8 (a6 (ae (ae ?_))));have hB4:=hB3.chg0 hc4;have hM4:MapAt w4 mr (snV sn):=hM3.mod hc4 (by simp);refine aG bz (.pure 0 (.pure 1 (.pure 2 (.read 3 (.pure 4 (.pure 5 (.eff 6 [3] (.eff 7 [] (.pure 8 .nil))))))))) (by kernel_rfl) ?_;refine ym rfl (yn rfl (yp rfl (fun _=>(aa dF rfl I24 rfl rfl)) ?_));refine aH rfl rfl rfl nt rfl rfl (hB4.c rfl) (ym rfl (ym rfl (ycl rfl C71 ((DD _ nb mr _ _ _ sn (hN4.chg0 (drw _)) (hM4.mod (drw _) (by simp)) hl h10 :)) ?_)));rintro _ w5 ⟨ml,hml,rfl,hc5⟩;have hc5:Chg [] w4 w5:=(drw w4).tr hc5;refine⟨⟨(hB4.chg0 hc5).c rfl,trivial⟩,?_⟩;have hp5:c.pg w5 s3:=(hp3.chg0 hc4).chg0 hc5;have hmz:(gQ ml).length<=200:=by
    have:=kC ml (fun q hq=>h10 q (hml.subset hq))
    have:=hml.length_eq
    omega
   refine ycl rfl C70 ((wj hp5 (by rw[hf3.k];exact hk) root (gQ ml) hmz (fun x hx=>hws x (by rw[<-hus];unfold Pg.fresh at hx;exact(Bool.and_eq_true_iff.1 hx).1)) :)) ?_;rintro _ w6 ⟨rfl,⟨u,r',ku,kr,ds',hR6,hS6,hpd,_⟩,hc6⟩;refine⟨trivial,?_⟩;refine ya rfl (zPR (zmv rfl (bS rfl rfl) (a8 (a6 (aI rfl (fun h=>h rfl) ?_)))));refine zKR (zmm rfl (zmm rfl (zn rfl rfl (a7 rfl (aa dF rfl I25 rfl rfl) ?_))));have hc6:Chg c.F w5 w6:=hc6;have hB6:=((hB4.chg0 hc5).chg hc6 hbF.1)
   have hM6:MapAt w6 mr (snV sn):=(hM4.mod hc5 (by simp)).mod hc6 hmF.1;refine aP rfl (bG I25 rfl rfl (hB6) rfl rfl ((by decide:1<4)) rfl (rfl)) ?_;rintro w7 ⟨hB7,hc7,hs7⟩;refine zn rfl rfl (a7 rfl (aa dF rfl oe rfl rfl) (aP rfl (bG oe rfl rfl (hB7) rfl rfl ((by decide:2<4)) rfl (rfl)) ?_));rintro w8 ⟨hB8,hc8,hs8⟩;refine zNR (za rfl (a8 (a6 (zrf ?_))));have hsz:w.heap.size<=w5.heap.size:=by have:=hc02.1;have:=hc3.1;have:=hc4.1;have:=hc5.1;omega
   have hsbn:∀x∈PF ({ c.R with u:=u,r:=r',ku:=ku,kr:=kr }:PR)++DF c.b c.kv c.r,x∉[sb]:=fun x hx hh=>by
    simp at hh;subst hh;rcases List.mem_append.1 hx with g|g
    ·rcases hR6 x g with q|q
     ·exact hbF.1 (cG _ q)
     ·omega
    ·exact hbF.1 (cj _ g)
   have hge:∀x∈[sb],c.w0.heap.size<=x:=fun x hx=>by simp at hx;subst hx;exact hbF.2
   have hS8:=(hS6.chg hc7 hsbn hge).chg hc8 hsbn hge;have hSV:s3.V=s.V:=hf3.v;refine⟨rfl,⟨{ c with R:={ c.R with u:=u,r:=r',ku:=ku,kr:=kr } },⟨s3.k+1,ds',{ s3.P with now:=(eh s3.P root (gQ ml)).st,kept:=eh s3.P root (gQ ml),at_:=(s3.P.at_+1) % 2 },s3.V⟩,⟨hS8,rfl,hSV,rfl,⟨ml,hml,rfl⟩,fun x=>?_,fun x hx=>hws x ((hf x).2 hx),⟨fun x=>rfl,fun x=>rfl,fun x hx=>?_⟩,rfl,hpd,by show s3.k+1=_;rw[hf3.k]⟩,fun x hx=>?_⟩,hB8,?_,?_⟩
   ·show s3.P.now.used x=true↔_;rw[hus];exact hf x
   ·exact hp5.wu hx
   ·rcases List.mem_append.1 hx with g|g
    ·rcases hR6 x g with q|q
     ·exact .inl (cG _ q)
     ·exact .inr (by omega)
    ·exact .inl (cj _ g)
   ·exact(hM6.mod hc7 (by simp;exact hmF.2)).mod hc8 (by simp;exact hmF.2)
   ·have m1:Chg (sb::c.F) w w3:=(hc02.tr0' (hc3.mono (fun x hx _=>bN _ hx)))
    have m2:Chg (sb::c.F) w5 w6:=hc6.mono (fun x hx _=>bN _ hx);have m3:Chg (sb::c.F) w6 w7:=hc7.mono (fun x hx _=>by simp at hx;subst hx;exact cK);have m4:Chg (sb::c.F) w7 w8:=hc8.mono (fun x hx _=>by simp at hx;subst hx;exact cK);exact((((m1.tr0 hc4).tr0 hc5).tr m2).tr m3).tr m4
abbrev Sx:=Bs×UInt32×List Pr
def eD(sx:List Sx):List (Bs×UInt32):=sx.map fun p=>(p.1,p.2.1)
def z6(sx:List Sx):List UInt32:=sx.map (·.2.1)
theorem u4(sx:List Sx):(eD sx).map (·.2)=z6 sx:=by unfold eD z6;rw[fC];rfl
def Tre(s:TP)(r:UInt32)(m:List Pr):Prop:=m.length<=1000/\∃d pg,isT s.V d r pg m/\(∀x∈pg,s.P.now.written x=true)/\pg.Nodup
theorem oM{V:UInt32->Bs}{d:Nat}{id:UInt32}{pg:List UInt32}{m:List Pr}(h:isT V d id pg m)(hm:m.length<=1000):d<=10/\pg.length<=2*m.length+1:=by
 cases m with
 | nil =>
  cases d with
  | zero => have := h.1; exact ⟨by decide, by rw [this]; simp⟩
  | succ d =>
   obtain⟨ks,ts,h1,_,_,h4,_,h6⟩:=h;have h2:=vS h1;cases ts with
   | nil => simp at h2
   | cons t ts =>
    have:=(h6 t cK).2
    rw[fN] at h4;exact absurd (List.append_eq_nil_iff.1 h4.symm).1 this
 | cons p m =>
  have h1:=Az h;have h2:=DH h (by simp);refine⟨Nat.le_of_not_lt (fun hd=>?_),by omega⟩;have h3:2 ^ 12<=2 ^ (d+1):=mz (by decide) (by omega);have h4:(2:Nat) ^ 12=4096:=rfl;omega
structure StoreAt(c:TC)(w:World)(s:TP)(sb mr:Nat)(root:UInt32)(m:List Pr)(sx:List Sx):Prop where
 pg:c.pg w s
 blk:Blk w sb [c.pv,.int .u32 root.toNat,.map (some mr),.bool false]
 map:MapAt w mr (snV (eD sx))
 sF:sb∉c.F/\c.w0.heap.size<=sb
 mF:mr∉c.F/\mr≠sb/\c.w0.heap.size<=mr
 live:Tre s root m
 olds:∀p∈sx,Tre s p.2.1 p.2.2
 names:∀p∈sx,p.1.length<=10
 few:sx.length<=4
 used:∀x,s.P.now.used x=true↔Rch s.V (root::z6 sx) x
 com:Com s
 st:s.P.kept.st=s.P.now
 pend:s.ds.pend=[]
 rt:s.P.now.root=root
 txt:∃l,l.Perm (eD sx)/\s.P.now.txt=gQ l
def C0(m:List Pr)(sx:List Sx):Nat:=2*m.length+1+(sx.map fun p=>2*p.2.2.length+1).sum
theorem room_ge{P:Pg}{n:Nat}(hn:n<=400)(L:List UInt32)(h:∀x,P.free x=false->x∈L):n<=fZ P n+L.length:=by
 have hsub:∀i∈List.range n,i∈(List.range n).filter (fun i=>P.free (UInt32.ofNat i))++L.map (·.toNat):=fun i hi=>by
  rw[fQ,uh];cases hf:P.free (UInt32.ofNat i) with
  | true => exact .inl ⟨hi, rfl⟩
  | false =>
   refine .inr (List.mem_map.2 ⟨_,h _ hf,?_⟩);rw[ug] at hi;rw[fF];omega
 have:=m5 _ _ List.nodup_range hsub
 rw[Bl,aF,df] at this;exact this
theorem Rch.list{s:TP}{root:UInt32}{m:List Pr}:∀{sx:List Sx},Tre s root m->(∀p∈sx,Tre s p.2.1 p.2.2)->∃L:List UInt32,(∀x,Rch s.V (root::z6 sx) x->x∈L)/\L.length<=C0 m sx
 | [], h, _ => by
  obtain⟨hm,d,pg,ht,_,_⟩:=h;refine⟨pg,fun x ⟨r,hr,d2,pg2,m2,h1,h2⟩=>?_,?_⟩
  ·have hr:r=root:=by simpa [z6] using hr
   subst hr;rw[jh h1 ht] at h2;exact h2
  ·have:=(oM ht hm).2
   unfold C0
   simpa using this
 | p :: sx, h, ho => by
  obtain⟨L,h1,h2⟩:=Rch.list (sx:=sx) h (fun q hq=>ho q (bN _ hq));obtain⟨hm,d,pg,ht,_,_⟩:=ho p cK;refine⟨L++pg,fun x ⟨r,hr,d2,pg2,m2,g1,g2⟩=>?_,?_⟩
  ·rcases List.mem_cons.1 hr with rfl|hr
   ·exact cG _ (h1 x ⟨_,cK,d2,pg2,m2,g1,g2⟩)
   ·rcases List.mem_cons.1 hr with e|hr
    ·have e:r=p.2.1:=e;subst e;rw[jh g1 ht] at g2;exact cj _ g2
    ·exact cG _ (h1 x ⟨r,bN _ hr,d2,pg2,m2,g1,g2⟩)
  ·have:=(oM ht hm).2
   rw[aF];unfold C0 at h2 ⊢;rw[eR,List.sum_cons];omega
section
variable {c:TC}{w w':World}{s s0 s':TP}{sb mr d:Nat}{root id:UInt32}{m m':List Pr}{sx:List Sx}{pg:List UInt32}
theorem Tre.std(h:Tre s root m):∃d pg m,isT s.V d root pg m/\(∀x∈pg,s.P.now.written x=true)/\pg.Nodup/\d<=40:=by
 obtain⟨hm,d,pg,h1,h2,h3⟩:=h
 have:=(oM h1 hm).1
 exact⟨d,pg,m,h1,h2,h3,by omega⟩
theorem Tre.std_all(h:Tre s root m)(ho:∀p∈sx,Tre s p.2.1 p.2.2):Std s (root::(eD sx).map (·.2)):=fun r hr=>by
 rw[u4] at hr;rcases List.mem_cons.1 hr with rfl|hr
 ·exact h.std
 ·obtain⟨p,hp,rfl⟩:=List.mem_map.1 hr;exact(ho p hp).std
theorem Edt.tre(h:Edt c w s0 s id d pg m')(ht:Tre s0 root m):Tre s root m:=by
 obtain⟨hm,d,pg,h1,h2,h3⟩:=ht;exact⟨hm,d,pg,nU h1 (fun x hx=>(h.old x (h2 x hx)).2),fun x hx=>(h.old x (h2 x hx)).1,h3⟩
theorem Edt.room(h:Edt c w s0 s id d pg m')(h0:Com s0)(hn:c.n<=400)(L:List UInt32)(hL:∀x,s0.P.now.used x=true->x∈L)(hm:m'.length<=1000):c.n<=fZ s.P c.n+L.length+(2*m'.length+1):=by
 have h1:=room_ge (P:=s.P) hn (L++pg) (fun x hx=>by
  unfold Pg.free at hx;have hx:s.P.now.used x=true∨s.P.kept.used x=true:=by
   cases hu:s.P.now.used x with
   | true => exact .inl rfl
   | false => rw [hu] at hx; exact .inr (by simpa using hx)
  rcases hx with g|g
  ·rcases h.used x g with q|q
   ·exact cG _ (hL x q)
   ·exact cj _ q
  ·rw[h.kept,h0.1] at g;exact cG _ (hL x g))
 have h2:=(oM h.tr.tree hm).2;rw[aF] at h1;omega
end
theorem Edt.chg0{c:TC}{w w':World}{s0 s:TP}{id:UInt32}{d:Nat}{pg:List UInt32}{m:List Pr}(h:Edt c w s0 s id d pg m)(hm:Chg [] w w'):Edt c w' s0 s id d pg m:=⟨h.tr.chg0 hm,h.kept,h.old,h.used⟩
theorem StoreAt.commit{c c':TC}{w w':World}{s s':TP}{sb mr:Nat}{root:UInt32}{m:List Pr}{sx:List Sx}(hc:Cmt c c' w' s s' root (eD sx))(hf:∀x∈c'.F,x∈c.F∨w.heap.size<=x)(hB:Blk w' sb [c.pv,.int .u32 root.toNat,.map (some mr),.bool false])(hM:MapAt w' mr (snV (eD sx)))(hs:sb<w.heap.size/\sb∉c.F/\c.w0.heap.size<=sb)(hm:mr<w.heap.size/\mr∉c.F/\mr≠sb/\c.w0.heap.size<=mr)(hl:Tre s root m)(ho:∀p∈sx,Tre s p.2.1 p.2.2)(hn:∀p∈sx,p.1.length<=10)(h4:sx.length<=4):StoreAt c' w' s' sb mr root m sx:=by
 have e0:c'.w0=c.w0:=by rw[hc.c]
 have e1:c'.pv=c.pv:=by rw[hc.c]
 have hmv:∀{r:UInt32} {m:List Pr},r∈root::z6 sx->Tre s r m->Tre s' r m:=fun hr ⟨q,d,pg,h1,h2,h3⟩=>by
  refine⟨q,d,pg,by rw[hc.v];exact h1,fun x hx=>hc.writ x ?_,h3⟩;rw[u4];exact⟨_,hr,d,pg,_,h1,hx⟩
 refine⟨hc.at_,by rw[e1];exact hB,hM,⟨fun hh=>?_,by rw[e0];exact hs.2.2⟩,⟨fun hh=>?_,hm.2.2.1,by rw[e0];exact hm.2.2.2⟩,hmv cK hl,fun p hp=>hmv (bN _ (List.mem_map.2 ⟨p,hp,rfl⟩)) (ho p hp),hn,h4,fun x=>?_,hc.com,hc.st,hc.pend,hc.rt,hc.txt⟩
 ·rcases hf _ hh with q|q
  ·exact hs.2.1 q
  ·omega
 ·rcases hf _ hh with q|q
  ·exact hm.2.1 q
  ·omega
 ·rw[hc.used,hc.v,u4]
def oX(m:List Pr)(l:List Wr):List Pr:=l.foldl updW m
theorem G9{m:List Pr}(a:Wr)(hs:eF m):(updW m a).length<=m.length+1:=by
 unfold updW
 split
 ·have:(kf m a.k).length<=m.length:=uj _ _
  omega
 ·exact xI _ hs
theorem Do_ok(c:TC)(w:World)(s:TP)(sb mr:Nat)(root:UInt32)(m:List Pr)(sx:List Sx)(lv:Value)(l:List Wr)(h:StoreAt c w s sb mr root m sx)(hl:Sl w lv l)(hlF:∀x∈ax lv,x∉c.F)(hb:isB l=true)(hm:m.length+l.length<=900)(hk:s.k+24*l.length+1<=40000)(hr:C0 m sx+2*(m.length+l.length)+30<=c.n) :
  Ret Tryz.prog 32 #[.pointer (some ⟨sb,0,none⟩),lv] w fun r w'=>r=.int .i64 0/\(∃(c':TC) (s':TP) (id:UInt32),StoreAt c' w' s' sb mr id (oX m l) sx/\c'={ c with R:={ c.R with u:=c'.R.u,r:=c'.R.r,ku:=c'.R.ku,kr:=c'.R.kr } }/\(∀x∈c'.F,x∈c.F∨w.heap.size<=x)/\s'.k<=s.k+24*l.length+1)/\Chg (sb::c.F) w w':=by
 obtain⟨pl,cl,rfl⟩:=hl.form rfl;have hl40:l.length<=40:=by unfold isB at hb;exact of_decide_eq_true (Bool.and_eq_true_iff.1 hb).2
 have hgood:∀a∈l,a.good=true:=by
  unfold isB at hb;exact List.all_eq_true.1 (Bool.and_eq_true_iff.1 (Bool.and_eq_true_iff.1 hb).1).1
 obtain⟨L,hL1,hL2⟩:=Rch.list h.live h.olds;have hn4:=h.pg.n4;refine enter [4] Tryz.func32 rfl rfl (al rfl) (zSR (za rfl (a8 (a6 (ae (aq (zSR (zm rfl (zn rfl rfl (a7 rfl (aa dF rfl I4 rfl rfl) (a7 rfl (aC uU4 rfl rfl (h.blk.c rfl)) (za rfl (a8 (a6 (aK (rfl) (zSR (zm rfl (ah rfl C72 (vR w _ l hl (by omega)) ?_))))))))))))))))));rintro _ w1 ⟨rfl,hc1⟩;rw[hb];refine a7 rfl (cA rfl) (za rfl (a8 (a6 (aK (rfl) (aw (ay (a6 (zSR (zm rfl (zn rfl rfl (a7 rfl (aa dF rfl I25 rfl rfl) ?_)))))))))));have hB1:=h.blk.chg0 hc1;have hsw:=h.blk.lt;have hmw:=h.map.lt;refine a7 rfl (aC bw rfl rfl (hB1.c rfl)) (za rfl (a8 (a6 (ae (zSR (zmv rfl (aA rfl wI) (zm rfl (a8 (a6 (aq ?_))))))))));have hob1:=h.live;obtain⟨hm0,d0,pg0,ht0,hw0,hn0⟩:=hob1;have hE0:Edt c w1 s s root d0 pg0 m:=⟨⟨h.pg.chg0 hc1,ht0,hw0,hn0⟩,rfl,fun x hx=>⟨hx,rfl⟩,fun x hx=>.inl hx⟩
 refine bf [0,5,23,24,25] (fun n vs w'=>∃(i:Nat) (s':TP) (id:UInt32) (d:Nat) (pg:List UInt32),vs=[.pointer (some ⟨sb,0,none⟩),.int .u32 id.toNat,.slice pl l.length cl,.int .i64 l.length,.int .i64 i]/\i+n=l.length/\Edt c w' s s' id d pg (oX m (l.take i))/\(oX m (l.take i)).length<=m.length+i/\s'.k<=s.k+24*i/\Chg c.F w1 w') (l.length) ?_ ?_
 ·exact⟨0,s,root,d0,pg0,rfl,by omega,hE0,aM _,by omega,Chg.refl' _ _⟩
 ·rintro n vs J w3 ⟨i,s3,id,d,pg,rfl,hin,hE3,hml,hk3,hc3⟩;refine zSR (a7 rfl (bL rfl rfl) ?_);refine a8 (a6 (ae ?_));have hB3:=hB1.chg hc3 h.sF.1;have hl3:=(hl.mod0 hc1).mod hc3 hlF;refine az rfl (fun hlt=>?_) (fun hlt=>?_)
  ·refine aw (a6 (ae (aq (ae (ag ?_)))));have hob2:∃z,n=z+1:=⟨n-1,by omega⟩
   obtain⟨n,rfl⟩:=hob2;have hob3:∃a,l[i]?=some a:=⟨l[i]'(by omega),bX _⟩
   obtain⟨a,ha⟩:=hob3;have hag:=hgood a (j5 ha);have hup:oX m (l.take (i+1))=updW (oX m (l.take i)) a:=by
    unfold oX;rw[j9,ha];simp
   have hsrt:=(iY hE3.tr.tree).2;have hd10:=oM hE3.tr.tree (by omega);have hroom:=hE3.room h.com hn4.2 L (fun x hx=>hL1 x ((h.used x).1 hx)) (by omega);refine bF rfl (aU (i) wI I66 rfl (hl3) rfl rfl (by first|rfl|omega) (by omega)) ?_;rintro _ ⟨bi,oi,rfl,hei,hbi⟩;refine a7 rfl (cM pM rfl I66 rfl (hl3.at hei ha) rfl) (aY rfl (dk (l:=[str [],str [],.bool false]) I66 rfl rfl) ?_);rintro _ w4 ⟨ab,rfl,hn4',hA4,hc4,hl4'⟩;refine aP rfl (cF (l:=[str a.k,str a.v,.bool a.d]) I66 rfl rfl (hA4) rfl (rfl) (aM 3) (Flat.cell a) (rfl)) ?_;rintro w5 ⟨hA5,hc5,hs5⟩;refine zNR (zmm rfl ?_);have hA5:Blk w5 ab (Flat.enc a):=hA5;have hc35:Chg [] w3 w5:=hc4.t1 hc5 hn4';have hB5:=hB3.chg0 hc35;refine a7 rfl (FR (Flat.enc a) pM rfl I66 rfl hA5 rfl rfl) (ah rfl C73 (G4 c w5 s s3 id d pg _ a sb _ _ _ (hE3.chg0 hc35) h.com hB5 h.sF.1 hag (by omega) (by omega) (by omega)) ?_);rintro _ w6 ⟨⟨id6,d6,pg6,s6,rfl,hE6,hk6,hd6⟩,hc6⟩;refine zm rfl (zx rfl (zx rfl (zaa rfl (a8 (a6 (ae (zSR (zmv rfl (bS rfl rfl) (a8 (a6 (aI rfl (fun h=>h rfl) ?_)))))))))));refine aw (a6 (ag (zma rfl (a8 (ay (a6 (ag (a7 rfl (aB rfl rfl (by omega)) (zm rfl ?_)))))))));refine a8 (a6 (aS (n) (bx (by omega) ?_)));exact⟨i+1,s6,id6,d6,pg6,rfl,by omega,by rw[hup];exact hE6,by rw[hup];have:=G9 (m:=oX m (l.take i)) a hsrt;omega,by omega,(hc3.tr0 hc35).tr hc6⟩
  ·refine aO (an (an (aE (a6 (zSR (zmm rfl (zm rfl (zn rfl rfl (a7 rfl (aa dF rfl oe rfl rfl) ?_)))))))));have hil:i=l.length:=by omega
   subst hil;rw[cZ] at hE3 hml;have hM3:MapAt w3 mr (snV (eD sx)):=(h.map.mod hc1 (by simp)).mod hc3 h.mF.1;have hlv:Tre s3 id (oX m l):=⟨by omega,d,pg,hE3.tr.tree,hE3.tr.wr,hE3.tr.nd⟩
   have hol:∀p∈sx,Tre s3 p.2.1 p.2.2:=fun p hp=>hE3.tre (h.olds p hp);refine a7 rfl (aC fJ rfl rfl (hB3.c rfl)) (ah rfl C75 ((sQ c w3 s3 sb mr _ _ _ id (eD sx) hE3.tr.at_ hB3 hM3 (hlv.std_all hol) h.sF ⟨h.mF.1,h.mF.2.1⟩ (by unfold eD;rw[df];have:=h.few;omega) (fun p hp=>by obtain⟨q,hq,rfl⟩:=List.mem_map.1 hp;exact h.names q hq) (by omega) :)) ?_);rintro _ w4 ⟨rfl,⟨c',s',hC,hcf⟩,hB4,hM4,hc4⟩;refine za rfl (a8 (a6 (zrf ?_)));have k13:w.heap.size<=w3.heap.size:=by have:=hc1.1;have:=hc3.1;omega
   refine⟨rfl,⟨c',s',id,StoreAt.commit (w:=w3) hC hcf hB4 hM4 ⟨by omega,h.sF⟩ ⟨by omega,h.mF⟩ hlv hol h.names h.few,hC.c,fun x hx=>(hcf x hx).imp (fun q=>q) (fun q=>by omega),by rw[hC.k];omega⟩,?_⟩;exact(hc1.tr0' (hc3.mono (fun x hx _=>bN _ hx))).tr hc4
end Go.Proofs.YtpbfapbajmdlkaaGreat
namespace Go.Proofs.YtpbfapbajmdlkaaGreat
open Go Go.Sac Go.Maps
set_option maxRecDepth 100000
set_option maxHeartbeats 4000000
theorem HP(w:World)(r:Nat) :
  Ret Tryz.prog 68 #[.map (some r)] w fun v w'=>∃q,v=.func (.func 116) #[] #[.pointer (some ⟨q,0,none⟩)]/\Blk w' q [.map (some r)]/\w.heap.size<=q/\Chg [] w w':=by
 refine enter [2] Tryz.func68 rfl rfl (al rfl) (zSR (aY rfl (cT (l:=[.map (some r)]) rfl rfl) ?_));rintro _ w1 ⟨q,rfl,hq,hB,hc,hl⟩;refine za rfl (zNR (a7 rfl (De rfl) (za rfl (a8 (a6 (zrf ?_))))));exact⟨q,rfl,hB,hq,hc⟩
theorem Bh(w:World)(q r:Nat)(f:PgF)(n:Nat)(hn:n<=1000)(hB:Blk w q [.map (some r)])(hm:SetAt w r f)(hf:∀x,f x=true->x.toNat<n) :
  Ret Tryz.prog 114 #[.func (.func 116) #[] #[.pointer (some ⟨q,0,none⟩)]] w fun v w'=>∃l:List UInt32,Own w' v l/\l.Nodup/\(∀x,x∈l↔f x=true)/\l.length<=n/\Chg [] w w'/\In v [] w.heap.size:=by
 obtain⟨m,hm,hg⟩:=hm;have hnd:(m.map (·.1)).Nodup:=by obtain⟨es,cl,_,_,hn,_⟩:=hm;exact hn
 have hmem:∀x,x∈m.map (·.1)↔f x=true:=fun x=>by
  have h1:=hg x
  constructor
  ·intro hx;by_cases hfx:f x=true
   ·exact hfx
   ·rw[if_neg hfx] at h1;have hob1:=List.mem_map.1 hx;obtain⟨p,hp,rfl⟩:=hob1
    have:=(fg hnd).2 (show(p.1,p.2)∈m from hp)
    rw[this] at h1;cases h1
  ·intro hfx;rw[if_pos hfx] at h1;exact List.mem_map.2 ⟨_,(fg hnd).1 h1,rfl⟩
 have hsort:∀l:List UInt32,l.Perm (m.map (·.1))->nj l=zf f n:=fun l hl =>
  A1 (by omega) (hl.nodup_iff.2 hnd) (fun x=>by rw[hl.mem_iff];exact hmem x) hf
 have hlen:∀l:List UInt32,l.Perm (m.map (·.1))->l.length<=n:=fun l hl=>by
  rw[<-qT,hsort l hl];exact ti f n
 have hml:m.length<=n:=by have:=hlen _ (.refl _);simpa using this
 obtain⟨D0,hown,hperm,hsz⟩:=ph bw hm (by unfold maxLen;omega);have hseq:SeqGives Fence.wide 3 Tryz.prog 116 #[.pointer (some ⟨q,0,none⟩)] (kE .u32) (fun ss=>ss.Perm (intKeys D0)) (Maps.size D0) w :=
  vP Fence.wide _ trivial rfl (by omega) q r m.length D0 w hB.lt (hB.c rfl) hown
 have cC:=nT Fence.wide 5 trivial trivial rfl (by omega) 116 #[.pointer (some ⟨q,0,none⟩)] trivial (enters_of Tryz.func116 (by kernel_rfl) rfl) _ _ (by rw[hsz];unfold maxLen;omega) (by rw[hsz];omega) _ hseq;refine Calls.mono (callsIn_wide.1 cC) ?_;rintro e w' ⟨v,ss,rfl,hS,hrow,hnil,hb⟩;have hp2:ss.Perm ((m.map (·.1)).map fun p=>(p.toNat:Int)):=by rw[fC];exact hS.trans hperm
 have hob2:=ri hp2;obtain⟨l,hl,rfl⟩:=hob2;rw[df,fC] at hrow;have hob3:=tk (l:=l) hrow;obtain⟨h1,h2⟩:=hob3;exact⟨v,rfl,l,h1,hl.nodup_iff.2 hnd,fun x=>by rw[hl.mem_iff];exact hmem x,hlen l hl,⟨hb.size,fun b hb' _=>hb.block b hb',hb.os,hb.output⟩,h2⟩
theorem CX(w:World)(q r:Nat)(f:PgF)(n:Nat)(hn:n<=1000)(hB:Blk w q [.map (some r)])(hm:SetAt w r f)(hf:∀x,f x=true->x.toNat<n) :
  Ret Tryz.prog 67 #[.func (.func 116) #[] #[.pointer (some ⟨q,0,none⟩)]] w fun v w'=>∃l:List UInt32,Own w' v l/\l.Nodup/\(∀x,x∈l↔f x=true)/\l.length<=n/\Chg [] w w'/\In v [] w.heap.size:=by
 refine enter [2] Tryz.func67 rfl rfl (al rfl) (zSR (za rfl (zNR (zm rfl (ah rfl C114 (Bh w q r f n hn hB hm hf) ?_)))));rintro v1 w1 ⟨l,ho1,hnd1,hm1,hl1,hc1,hi1⟩;have hob4:=ho1.form rfl;obtain⟨pv,cv,rfl⟩:=hob4;refine za rfl (zNR (zm rfl (ah rfl C115 (yb ho1 rfl (by omega)) ?_)));rintro _ w2 ⟨l2,ho2,hp2,hc2⟩;refine zNR (zma rfl (a8 (a6 (zrf ?_))));exact⟨l2,ho2,hp2.nodup_iff.2 hnd1,fun x=>by rw[hp2.mem_iff];exact hm1 x,by rw[hp2.length_eq];exact hl1,hc1.t0 hc2 (fun x hx=>hi1.ge x hx),hi1⟩
end Go.Proofs.YtpbfapbajmdlkaaGreat
namespace Go.Proofs.YtpbfapbajmdlkaaGreat
open Go Go.Sac
set_option maxRecDepth 100000
set_option maxHeartbeats 4000000
section
variable {c:TC}{w w':World}{s:TP}{sb mr:Nat}{root:UInt32}{m:List Pr}{sx:List Sx}
theorem StoreAt.chg0(h:StoreAt c w s sb mr root m sx)(hc:Chg [] w w'):StoreAt c w' s sb mr root m sx :=
 ⟨h.pg.chg0 hc,h.blk.chg0 hc,h.map.mod hc (by simp),h.sF,h.mF,h.live,h.olds,h.names,h.few,h.used,h.com,h.st,h.pend,h.rt,h.txt⟩
theorem Tre.tr(ht:Tre s root m)(h:c.pg w s):∃d pg,TR c w s root d pg m/\d<=40/\m.length<=1000:=by
 obtain⟨hm,d,pg,h1,h2,h3⟩:=ht
 have:=(oM h1 hm).1
 exact⟨d,pg,⟨h,h1,h2,h3⟩,by omega,hm⟩
theorem Tre.sort(ht:Tre s root m):eF m:=by obtain⟨_,d,pg,h1,_,_⟩:=ht;exact(iY h1).2
theorem SGet_ok(h:StoreAt c w s sb mr root m sx)(key v:Bs)(b:Bool)(hv:(lK m key).getD []=v)(hb:ft m key=b) :
  Ret Tryz.prog 47 #[.pointer (some ⟨sb,0,none⟩),str key] w fun r w'=>r=.tuple #[str v,.bool b]/\Chg [] w w':=by
 obtain⟨d,pg,ht,hd,hm⟩:=h.live.tr h.pg;refine enter [4,5] Tryz.func47 rfl rfl (al rfl) (zSR (zaa rfl (a8 (a6 (ae (aG bz (.pure 0 (.pure 1 (.pure 2 (.read 3 (.pure 4 (.pure 5 (.pure 6 (.read 7 (.pure 8 (.eff 9 [] (.pure 10 (.pure 11 (.pure 12 (.pure 13 (.pure 14 (.pure 15 (.pure 16 .nil))))))))))))))))) (by kernel_rfl) ?_))))));refine ym rfl (yn rfl (yp rfl (fun _=>(aa dF rfl I24 rfl rfl)) ?_));refine aH rfl rfl rfl nt rfl rfl (h.blk.c rfl) (ym rfl (yn rfl (yp rfl (fun _=>(aa dF rfl I25 rfl rfl)) ?_)));refine aH rfl rfl rfl bw rfl rfl (h.blk.c rfl) (ym rfl (ycl rfl C23 ((get9 (ht.chg0 (drw _)) key v b hv hb hd :)) ?_));rintro _ w1 ⟨rfl,_,hc1⟩;refine⟨trivial,?_⟩;refine ym rfl (yx rfl (yx rfl (yx rfl (ya rfl (ya rfl (ya rfl (aJ (a6 (ae (zSR (zmv rfl (bS rfl rfl) (a8 (a6 ?_)))))))))))));have hc1:Chg [] w w1:=(drw w).tr hc1;refine aI rfl (fun h=>h rfl) ?_;refine zKR (zmm rfl (zaa rfl (a8 (a6 (zrf ?_)))));exact⟨rfl,hc1⟩
theorem SLen_ok(h:StoreAt c w s sb mr root m sx) :
  Ret Tryz.prog 39 #[.pointer (some ⟨sb,0,none⟩)] w fun r w'=>r=.int .i64 m.length/\Chg [] w w':=by
 have hob1:=h.live.tr h.pg;obtain⟨d,pg,ht,hd,hm⟩:=hob1;refine enter [2] Tryz.func39 rfl rfl (al rfl) (zSR (za rfl (a8 (a6 (ae (aG bz (.pure 0 (.pure 1 (.pure 2 (.read 3 (.pure 4 (.pure 5 (.pure 6 (.read 7 (.eff 8 [] (.pure 9 (.pure 10 (.pure 11 (.pure 12 (.pure 13 .nil)))))))))))))) (by kernel_rfl) ?_))))));refine ym rfl (yn rfl (yp rfl (fun _=>(aa dF rfl I24 rfl rfl)) ?_));refine aH rfl rfl rfl nt rfl rfl (h.blk.c rfl) (ym rfl (yn rfl (yp rfl (fun _=>(aa dF rfl I25 rfl rfl)) ?_)));refine aH rfl rfl rfl bw rfl rfl (h.blk.c rfl) (ycl rfl C27 ((len9 (ht.chg0 (drw _)) hd (by omega) :)) ?_);rintro _ w1 ⟨rfl,_,hc1⟩;refine⟨trivial,?_⟩;refine ym rfl (yx rfl (yx rfl (ya rfl (ya rfl (zPR (zma rfl (a8 (a6 (zrf ?_)))))))));have hc1:Chg [] w w1:=(drw w).tr hc1;exact⟨rfl,hc1⟩
theorem Gm{p:Sx}(h:StoreAt c w s sb mr root m sx)(hp:p∈sx):cw p.1 (snV (eD sx))=some (.int .u32 p.2.1.toNat):=by
 refine(fg h.map.nodup).2 ?_;unfold snV eD;rw[fC];exact List.mem_map.2 ⟨p,hp,rfl⟩
theorem sn_no{nm:Bs}(h:StoreAt c w s sb mr root m sx)(hp:∀p∈sx,p.1≠nm):cw nm (snV (eD sx))=none:=by
 cases hg:cw nm (snV (eD sx)) with
 | none => rfl
 | some v =>
  have:=(fg h.map.nodup).1 hg
  unfold snV eD at this;rw[fC] at this;have hob3:=List.mem_map.1 this;obtain⟨p,hp1,e⟩:=hob3;exact absurd (congrArg Prod.fst e) (hp p hp1)
theorem Fs(h:StoreAt c w s sb mr root m sx)(p:Sx)(hp:p∈sx)(key v:Bs)(b:Bool)(hv:(lK p.2.2 key).getD []=v)(hb:ft p.2.2 key=b) :
  Ret Tryz.prog 34 #[.pointer (some ⟨sb,0,none⟩),str p.1,str key] w fun r w'=>r=.tuple #[str v,.bool b,.int .i64 0]/\Chg [] w w':=by
 have hob4:=(h.olds p hp).tr h.pg;obtain⟨d,pg,ht,hd,hm⟩:=hob4;have hlook:Value.tuple #[(cw p.1 (snV (eD sx))).getD (.int .u32 0),.bool (cw p.1 (snV (eD sx))).isSome]=.tuple #[.int .u32 p.2.1.toNat,.bool true]:=by rw[Gm h hp];rfl
 refine enter [6,7,8] Tryz.func34 rfl rfl (al rfl) (zSR (zaa rfl (za rfl (zNR (zm rfl (zn rfl rfl (a7 rfl (aa dF rfl oe rfl rfl) (a7 rfl (aC fJ rfl rfl (h.blk.c rfl)) (zmv rfl (bJ (jv (k:=p.1) fJ (gH uU9) I25 rfl rfl rfl h.map) hlook) ?_)))))))));refine zm rfl (zx rfl (zx rfl (zaa rfl (a8 (a6 (ae (zSR (zmv rfl (cA rfl) (a8 (a6 (aK (rfl) (zKR (zm rfl (zn rfl rfl (a7 rfl (aa dF rfl I24 rfl rfl) (a7 rfl (aC nt rfl rfl (h.blk.c rfl)) (zmm rfl (ah rfl C23 (get9 ht key v b hv hb hd) ?_))))))))))))))))));rintro _ w1 ⟨rfl,_,hc1⟩;refine zx rfl (zx rfl (zx rfl (zaa rfl (za rfl (a8 (a6 (zrf ?_)))))));exact⟨rfl,hc1⟩
theorem Fu(h:StoreAt c w s sb mr root m sx)(nm key:Bs)(hp:∀p∈sx,p.1≠nm) :
  Ret Tryz.prog 34 #[.pointer (some ⟨sb,0,none⟩),str nm,str key] w fun r w'=>r=.tuple #[str [],.bool false,.int .i64 100]/\w=w':=by
 have hlook:Value.tuple #[(cw nm (snV (eD sx))).getD (.int .u32 0),.bool (cw nm (snV (eD sx))).isSome]=.tuple #[.int .u32 0,.bool false]:=by rw[sn_no h hp];rfl
 refine enter [6,7,8] Tryz.func34 rfl rfl (al rfl) (zSR (zaa rfl (za rfl (zNR (zm rfl (zn rfl rfl (a7 rfl (aa dF rfl oe rfl rfl) (a7 rfl (aC fJ rfl rfl (h.blk.c rfl)) (zmv rfl (bJ (jv (k:=nm) fJ (gH uU9) I25 rfl rfl rfl h.map) hlook) ?_)))))))));refine zm rfl (zx rfl (zx rfl (zaa rfl (a8 (a6 (ae (zSR (zmv rfl (cA rfl) (a8 (a6 (bh (rfl) (zSR (zaa rfl (za rfl (a8 (a6 (zrt ?_)))))))))))))))));exact⟨rfl,rfl⟩
theorem HI(h:StoreAt c w s sb mr root m sx) :
  Ret Tryz.prog 38 #[.pointer (some ⟨sb,0,none⟩)] w fun r w'=>(∃(av bv:Value) (la lb:List UInt32),r=.tuple #[av,bv]/\Own w' av la/\Own w' bv lb/\la.length=lb.length/\la.length<=C0 m sx)/\Chg [] w w':=by
 have hn4:=h.pg.n4;have hob6:=Rch.list h.live h.olds;obtain⟨L,hL1,hL2⟩:=hob6;refine enter [2,3] Tryz.func38 rfl rfl (al rfl) (zSR (zaa rfl (a8 (a6 (ae (aG bz (.pure 0 (.pure 1 (.pure 2 (.pure 3 (.read 4 (.pure 5 (.pure 6 (.pure 7 (.read 8 (.eff 9 [] (.pure 10 (.pure 11 (.pure 12 (.pure 13 (.pure 14 .nil))))))))))))))) (by kernel_rfl) ?_))))));refine ym rfl (ym rfl (yn rfl (yp rfl (fun _=>(aa dF rfl I25 rfl rfl)) ?_)));refine aH rfl rfl rfl bw rfl rfl (h.blk.c rfl) (ym rfl (yn rfl (yp rfl (fun _=>(aa dF rfl oe rfl rfl)) ?_)));refine aH rfl rfl rfl fJ rfl rfl (h.blk.c rfl) (ycl rfl C79 ((vq c _ s sb mr _ _ _ root (eD sx) (h.pg.chg0 (drw _)) (h.blk.chg0 (drw _)) (h.map.mod (drw _) (by simp)) (h.live.std_all h.olds) :)) ?_);rintro _ w1 ⟨⟨qb,f,rfl,hS1,hf,hqn⟩,hp1,hc1⟩;refine⟨trivial,?_⟩;refine ym rfl (yx rfl (yx rfl (ya rfl (ya rfl (zPR (zm rfl (zn rfl rfl (a7 rfl (aa dF rfl I24 rfl rfl) ?_))))))));have hc1:Chg [] w w1:=(drw w).tr hc1;have hB1:=h.blk.chg0 hc1;refine a7 rfl (aC nt rfl rfl (hB1.c rfl)) (ah rfl C80 (wz w1 c.R c.b c.key s.P hp1.2.1 c.n (by omega) (fun x hx=>hp1.2.2.2.1.ok.used x hx)) ?_);rintro av w2 ⟨la,hoa,hna,hma,_,hc2,hia⟩;refine zm rfl (ah rfl C68 (HP _ qb) ?_);rintro _ w3 ⟨q,rfl,hB3,hq3,hc3⟩;have hu:∀x,f x=true↔s.P.now.used x=true:=fun x=>by rw[hf x,h.used x,u4]
 refine ah rfl C67 (CX w3 q qb f c.n (by omega) hB3 ((hS1.chg0 hc2).chg0 hc3) (fun x hx=>hp1.2.2.2.1.ok.used x ((hu x).1 hx))) ?_;rintro bv w4 ⟨lb,hob,hnb,hmb,_,hc4,hib⟩;refine zaa rfl (a8 (a6 (zrf ?_)));have hperm:la.Perm lb:=(yD hna hnb).2 (fun x=>by rw[hma x,hmb x,hu x]);refine⟨⟨av,bv,la,lb,rfl,hoa.mod0 (hc3.tr hc4),hob,hperm.length_eq,?_⟩,hc1.tr (hc2.tr (hc3.tr hc4))⟩
 have:=m5 la L hna (fun x hx=>hL1 x ((h.used x).1 ((hma x).1 hx)))
 omega
end
end Go.Proofs.YtpbfapbajmdlkaaGreat
