/- Batch upon batch over the same keys: never a page more than there must be, on a small disk, too. It holds for every input; there are no conditions. -/
import Derived.Test.YtpbfapbajmdlkaaGreatQ4
import Derived.Test.YtpbfapbajmdlkaaGreatQLaid2
import Derived.Test.YtpbfapbajmdlkaaGreatSac1
namespace Go.Proofs.YtpbfapbajmdlkaaGreat
open Go Go.Sac
set_option maxRecDepth 100000
set_option maxHeartbeats 4000000
def okC(ch:UInt8):Bool:=(decide (ch≥97)&&decide (ch<=122))||(decide (ch≥48)&&decide (ch<=57))
def oS(nm:Bs):Bool:=nm.all okC&&decide (1<=nm.length)&&decide (nm.length<=10)
theorem ES(w:World)(nm:Bs)(hl:nm.length<=100000) :
  Ret Tryz.prog 76 #[str nm] w fun v w'=>v=.bool (oS nm)/\w=w':=by
 refine enter [2] Tryz.func76 rfl rfl (al rfl) (zSR (za rfl (a8 (a6 (ae (zSR (zmv rfl (jc rfl uU9) (zm rfl (a8 (a6 (aq (bf [0,6,7] (fun n vs w'=>∃i:Nat,vs=[str nm,.int .i64 nm.length,.int .i64 i]/\i+n=nm.length/\(nm.take i).all okC=true/\w=w') (nm.length) ?_ ?_))))))))))))
 ·exact⟨0,rfl,by omega,rfl,rfl⟩
 ·rintro n vs J w1 ⟨i,rfl,hin,hall,rfl⟩;refine zSR (a7 rfl (bL rfl rfl) ?_);refine a8 (a6 (ae (az rfl (fun hlt=>?_) (fun hlt=>?_))))
  ·refine aw (a6 (ae (aq (zSR (zma rfl (zNR (zmm rfl ?_)))))));have hob1:∃z,n=z+1:=⟨n-1,by omega⟩
   obtain⟨n,rfl⟩:=hob1;have hob2:∃a,nm[i]?=some a:=⟨nm[i]'(by omega),bX _⟩
   obtain⟨ch,hch⟩:=hob2;have hno:okC ch=false->oS nm=false:=fun h=>by
    unfold oS;rw[List.all_eq_false.2 ⟨ch,j5 hch,by simp[h]⟩];rfl
   have hall2:okC ch=true->(nm.take (i+1)).all okC=true:=fun h=>by
    rw[j9,hch,List.all_append,hall];simp[h]
   refine a7 rfl (mG (l:=nm) (b:=ch) uU9 rfl rfl (uw _) (by rw[j8];exact hch)) ?_;refine za rfl (zNR (zm rfl ?_));by_cases h1:ch≥97
   ·refine a7 rfl (bJ (ox (b:=97) rfl rfl) (congrArg Value.bool (decide_eq_true (h1)))) ?_;refine zm rfl (aj rfl (zm rfl (aj rfl ?_)));by_cases h2:ch<=122
    ·refine a7 rfl (bJ (u0 (b:=122) rfl rfl) (congrArg Value.bool (decide_eq_true (h2)))) ?_;refine a7 rfl (aQ rfl) (zm rfl (aD rfl rfl (aD rfl rfl (aD rfl rfl (aD rfl rfl (aD rfl rfl (aD rfl rfl (a7 rfl (aQ rfl) (a7 rfl (cA rfl) (a8 (a6 ?_)))))))))));have hg:okC ch=true:=by unfold okC;rw[decide_eq_true h1,decide_eq_true h2];rfl
     refine aK (rfl) ?_;refine aw (ay (a6 (ag (a7 rfl (aB rfl rfl (by omega)) (zm rfl ?_)))));refine a8 (a6 (aS (n) (bx (by omega) ?_)));exact⟨i+1,rfl,by omega,hall2 hg,rfl⟩
    ·refine a7 rfl (bJ (u0 (b:=122) rfl rfl) (congrArg Value.bool (decide_eq_false (h2)))) ?_;refine a7 rfl (aQ rfl) (zm rfl (aj rfl (zm rfl (aj rfl ?_))));have hno2:(decide (ch≥97)&&decide (ch<=122))=false:=by rw[decide_eq_false h2,Bool.and_false]
     by_cases h3:ch≥48
     ·refine a7 rfl (bJ (ox (b:=48) rfl rfl) (congrArg Value.bool (decide_eq_true (h3)))) ?_;refine aj rfl (zm rfl (aj rfl (zm rfl (aj rfl (a7 rfl (u0 (b:=57) rfl rfl) (aj rfl (a7 rfl (aQ rfl) (a7 rfl (aN rfl) (a7 rfl (cA rfl) ?_)))))))));refine a8 (a6 (bU rfl (fun h4=>?_) (fun h4=>?_)))
      ·refine zSR (za rfl (a8 (a6 (bC (aZ (aR (aR (aZ (aR (dj ?_))))))))));have h4:¬ch<=57:=by simpa using h4
       have hg:okC ch=false:=by unfold okC;rw[decide_eq_false h4,hno2];simp
       exact⟨congrArg Value.bool (hno hg).symm,rfl⟩
      ·refine aw (ay (a6 (ag (a7 rfl (aB rfl rfl (by omega)) (zm rfl ?_)))));refine a8 (a6 ?_);have h4:ch<=57:=by simpa using h4
       have hg:okC ch=true:=by unfold okC;rw[decide_eq_true h3,decide_eq_true h4];simp
       refine aS (n) (bx (by omega) ?_);exact⟨i+1,rfl,by omega,hall2 hg,rfl⟩
     ·refine a7 rfl (bJ (ox (b:=48) rfl rfl) (congrArg Value.bool (decide_eq_false (h3)))) ?_;refine aj rfl (zm rfl (aD rfl rfl (aD rfl rfl (aj rfl (a7 rfl (aN rfl) (a7 rfl (aN rfl) (a7 rfl (cA rfl) (a8 (a6 ?_)))))))));have hg:okC ch=false:=by unfold okC;rw[decide_eq_false h3,hno2];simp
      refine bh (rfl) ?_;refine zSR (za rfl (a8 (a6 (bC (aZ (aR (aR (aZ (aR (dj ?_))))))))));exact⟨congrArg Value.bool (hno hg).symm,rfl⟩
   ·refine a7 rfl (bJ (ox (b:=97) rfl rfl) (congrArg Value.bool (decide_eq_false (h1)))) ?_;refine zm rfl (aD rfl rfl (aD rfl rfl (a7 rfl (aN rfl) (zm rfl (aj rfl (zm rfl (aj rfl ?_)))))));have hno2:(decide (ch≥97)&&decide (ch<=122))=false:=by rw[decide_eq_false h1,Bool.false_and]
    by_cases h3:ch≥48
    ·refine a7 rfl (bJ (ox (b:=48) rfl rfl) (congrArg Value.bool (decide_eq_true (h3)))) ?_;refine aj rfl (zm rfl (aj rfl (zm rfl (aj rfl (a7 rfl (u0 (b:=57) rfl rfl) (aj rfl (a7 rfl (aQ rfl) (a7 rfl (aN rfl) (a7 rfl (cA rfl) ?_)))))))));refine a8 (a6 (bU rfl (fun h4=>?_) (fun h4=>?_)))
     ·refine zSR (za rfl (a8 (a6 (bC (aZ (aR (aR (aZ (aR (dj ?_))))))))));have h4:¬ch<=57:=by simpa using h4
      have hg:okC ch=false:=by unfold okC;rw[decide_eq_false h4,hno2];simp
      exact⟨congrArg Value.bool (hno hg).symm,rfl⟩
     ·refine aw (ay (a6 (ag (a7 rfl (aB rfl rfl (by omega)) (zm rfl ?_)))));refine a8 (a6 ?_);have h4:ch<=57:=by simpa using h4
      have hg:okC ch=true:=by unfold okC;rw[decide_eq_true h3,decide_eq_true h4];simp
      refine aS (n) (bx (by omega) ?_);exact⟨i+1,rfl,by omega,hall2 hg,rfl⟩
    ·refine a7 rfl (bJ (ox (b:=48) rfl rfl) (congrArg Value.bool (decide_eq_false (h3)))) ?_;refine aj rfl (zm rfl (aD rfl rfl (aD rfl rfl (aj rfl (a7 rfl (aN rfl) (a7 rfl (aN rfl) (a7 rfl (cA rfl) (a8 (a6 ?_)))))))));have hg:okC ch=false:=by unfold okC;rw[decide_eq_false h3,hno2];simp
     refine bh (rfl) ?_;refine zSR (za rfl (a8 (a6 (bC (aZ (aR (aR (aZ (aR (dj ?_))))))))));exact⟨congrArg Value.bool (hno hg).symm,rfl⟩
  ·refine aO (an (an (aE (a6 (zSR (zmv rfl (jc rfl uU9) ?_))))));have hil:i=nm.length:=by omega
   subst hil;rw[cZ] at hall;have hres:∀g:Bool,g=(decide (1<=nm.length)&&decide (nm.length<=10))->Value.bool g=Value.bool (oS nm):=fun g h=>by
    rw[h];unfold oS;rw[hall,ju]
   by_cases h1:1<=nm.length
   ·refine a7 rfl (bJ (fH rfl rfl) (congrArg Value.bool (decide_eq_true (by omega)))) ?_;refine zm rfl (aj rfl (zm rfl (aj rfl (a7 rfl (jc rfl uU9) (aj rfl (a7 rfl (gd rfl rfl) (a7 rfl (aQ rfl) (za rfl (a8 (a6 (zrf ?_)))))))))));refine⟨hres _ ?_,rfl⟩;rw[decide_eq_true h1,ju,um,decide_eq_true_iff,decide_eq_true_iff];omega
   ·refine a7 rfl (bJ (fH rfl rfl) (congrArg Value.bool (decide_eq_false (by omega)))) ?_;refine zm rfl (aD rfl rfl (aD rfl rfl (aD rfl rfl (a7 rfl (aN rfl) (za rfl (a8 (a6 (zrf ?_))))))));exact⟨hres _ (by rw[decide_eq_false h1];rfl),rfl⟩
theorem rE(w:World)(nm:Bs)(b:Bool)(hb:oS nm=b)(hl:nm.length<=100000) :
  Ret Tryz.prog 76 #[str nm] w fun v w'=>v=.bool b/\w=w':=by
 subst hb;exact ES w nm hl
def qj(nm:Bs):List Sx->List Sx
 | [] => []
 | p :: l => if nm = p.1 then l else p :: qj nm l
theorem Dq(nm:Bs):∀sx:List Sx,snV (eD (qj nm sx))=ke nm (snV (eD sx))
 | [] => rfl
 | p :: l => by
  show snV (eD (if nm=p.1 then l else p::qj nm l))=if nm=p.1 then snV (eD l) else (p.1,.int .u32 p.2.1.toNat)::ke nm (snV (eD l))
  by_cases h:nm=p.1
  ·rw[if_pos h,if_pos h]
  ·rw[if_neg h,if_neg h,<-Dq nm l];rfl
theorem yT(p:Sx):∀sx:List Sx,(∀q∈sx,q.1≠p.1)->snV (eD (sx++[p]))=dT p.1 (.int .u32 p.2.1.toNat) (snV (eD sx))
 | [], _ => rfl
 | q :: l, h => by
  show(q.1,Value.int .u32 q.2.1.toNat)::snV (eD (l++[p]))=if p.1=q.1 then _ else (q.1,.int .u32 q.2.1.toNat)::dT p.1 _ (snV (eD l))
  rw[if_neg (fun e=>h q cK e.symm),yT p l (fun q hq=>h q (bN _ hq))]
theorem wh{nm:Bs}:∀{sx:List Sx} {p:Sx},p∈qj nm sx->p∈sx
 | [], p, h => h
 | q :: l, p, h => by
  unfold qj at h
  split at h
  ·exact bN _ h
  ·rcases List.mem_cons.1 h with rfl|h
   ·exact cK
   ·exact bN _ (wh h)
theorem B1(nm:Bs):∀sx:List Sx,(qj nm sx).length<=sx.length
 | [] => aM _
 | q :: l => by
  unfold qj
  have:=B1 nm l
  split
  ·simp
  ·simp only[bY];omega
theorem yg(w:World)(r:Nat)(m:List (Bs×Value))(hm:MapAt w r m) :
  Ret Tryz.prog 77 #[.map (some r)] w fun v w'=>∃q,v=.map (some q)/\MapAt w' q m/\Chg [] w w'/\w.heap.size<=q :=
 y5 Tryz.cloneB w r m hm
def Aft(c:TC)(w w':World)(s:TP)(sb:Nat)(root:UInt32)(m:List Pr)(sx:List Sx):Prop :=
 ∃(c':TC) (s':TP) (mr:Nat),StoreAt c' w' s' sb mr root m sx/\c'={ c with R:={ c.R with u:=c'.R.u,r:=c'.R.r,ku:=c'.R.ku,kr:=c'.R.kr } }/\(∀x∈c'.F,x∈c.F∨w.heap.size<=x)/\s'.k<=s.k+1/\w.heap.size<=mr
section
variable {c:TC}{w w':World}{s:TP}{sb mr:Nat}{root:UInt32}{m:List Pr}{sx:List Sx}
theorem DG(h:StoreAt c w s sb mr root m sx)(nm:Bs)(b:Bool)(hb:b=decide (∃p∈sx,p.1=nm)):∃v:Value,Value.tuple #[(cw nm (snV (eD sx))).getD (.int .u32 0),.bool (cw nm (snV (eD sx))).isSome]=.tuple #[v,.bool b]:=by
 by_cases hp:∃p∈sx,p.1=nm
 ·rw[decide_eq_true hp] at hb;obtain⟨p,hp,rfl⟩:=hp;rw[Gm h hp,hb];exact⟨_,rfl⟩
 ·rw[decide_eq_false hp] at hb;rw[sn_no h (fun p hp' e=>hp ⟨p,hp',e⟩),hb];exact⟨_,rfl⟩
theorem CY(h:StoreAt c w s sb mr root m sx)(nm:Bs)(hl:nm.length<=100000)(hn:oS nm=true)(hp:∃p∈sx,p.1=nm) :
  Ret Tryz.prog 33 #[.pointer (some ⟨sb,0,none⟩),str nm] w fun r w'=>r=.int .i64 101/\w=w':=by
 have hob1:=DG h nm true (decide_eq_true hp).symm;obtain⟨v,hv⟩:=hob1;refine enter [4] Tryz.func33 rfl rfl (al rfl) (zSR (za rfl (zNR (zm rfl (zn rfl rfl (a7 rfl (aa dF rfl oe rfl rfl) (a7 rfl (aC fJ rfl rfl (h.blk.c rfl)) (zmv rfl (bJ (jv (k:=nm) fJ (gH uU9) I25 rfl rfl rfl h.map) hv) ?_))))))));refine zm rfl (zx rfl (zx rfl (zaa rfl (a8 (a6 (ae (aq (zSR (zm rfl (zn rfl rfl (a7 rfl (aa dF rfl I4 rfl rfl) (a7 rfl (aC uU4 rfl rfl (h.blk.c rfl)) (za rfl (a8 (a6 (aK (rfl) (zSR (zm rfl (ah rfl C76 (rE w nm true hn hl) ?_)))))))))))))))))));rintro _ w1 ⟨rfl,rfl⟩;refine a7 rfl (cA rfl) (za rfl (a8 (a6 (aK (rfl) (zSR (zma rfl (a8 (a6 (bh (rfl) (zSR (za rfl (a8 (a6 (zrb ?_))))))))))))));exact⟨rfl,rfl⟩
theorem Snap_ok(h:StoreAt c w s sb mr root m sx)(nm:Bs)(hn:oS nm=true)(hp:¬∃p∈sx,p.1=nm)(h4:sx.length<4)(hk:s.k+1<=40000) :
  Ret Tryz.prog 33 #[.pointer (some ⟨sb,0,none⟩),str nm] w fun r w'=>r=.int .i64 0/\Aft c w w' s sb root m (sx++[(nm,root,m)])/\Chg (sb::c.F) w w':=by
 have h10:nm.length<=10:=by unfold oS at hn;exact of_decide_eq_true (Bool.and_eq_true_iff.1 hn).2
 have hob3:=DG h nm false (decide_eq_false hp).symm;obtain⟨v,hv⟩:=hob3;have hsl:(snV (eD sx)).length=sx.length:=by rw[jw];exact df ..
 have hF:=h.pg.lt;have hsw:=h.blk.lt;have hmw:=h.map.lt;have hw0:=(PS.now h.pg).1;refine enter [4] Tryz.func33 rfl rfl (al rfl) (zSR (za rfl (zNR (zm rfl (zn rfl rfl (a7 rfl (aa dF rfl oe rfl rfl) (a7 rfl (aC fJ rfl rfl (h.blk.c rfl)) (zmv rfl (bJ (jv (k:=nm) fJ (gH uU9) I25 rfl rfl rfl h.map) hv) ?_))))))));refine zm rfl (zx rfl (zx rfl (zaa rfl (a8 (a6 (ae (aq (zSR (zm rfl (zn rfl rfl (a7 rfl (aa dF rfl I4 rfl rfl) (a7 rfl (aC uU4 rfl rfl (h.blk.c rfl)) (za rfl (a8 (a6 (aK (rfl) (zSR (zm rfl (ah rfl C76 (rE w nm true hn (by omega)) ?_)))))))))))))))))));rintro _ w1 ⟨rfl,rfl⟩;refine a7 rfl (cA rfl) (za rfl (a8 (a6 (aK (rfl) (zSR (zma rfl (a8 (a6 (aK (rfl) (zSR (zm rfl (zn rfl rfl (a7 rfl (aa dF rfl oe rfl rfl) (a7 rfl (aC fJ rfl rfl (h.blk.c rfl)) (a7 rfl (bJ (xq fJ rfl h.map) (congrArg (fun n:Nat=>Value.int .i64 n) hsl)) ?_)))))))))))))));refine a7 rfl (fH rfl rfl) (za rfl (a8 (a6 (aI rfl (by omega) ?_))));refine aw (ay (a6 (zSR (zm rfl (zn rfl rfl (a7 rfl (aa dF rfl oe rfl rfl) ?_))))));refine a7 rfl (aC fJ rfl rfl (h.blk.c rfl)) (ah rfl C77 (yg _ mr _ h.map) ?_);rintro _ w2 ⟨q,rfl,hQ2,hc2,hqw⟩;refine za rfl (zNR (zmm rfl (zm rfl (zn rfl rfl (a7 rfl (aa dF rfl I25 rfl rfl) ?_)))));have hB2:=h.blk.chg0 hc2;refine a7 rfl (aC bw rfl rfl (hB2.c rfl)) (aP rfl (gm (k:=nm) fJ (gH uU9) rfl rfl rfl hQ2) ?_);rintro w3 ⟨hQ3,hc3,hs3⟩;refine zNR (zmm rfl (zn rfl rfl (a7 rfl (aa dF rfl I25 rfl rfl) ?_)));have hQ3:MapAt w3 q (snV (eD (sx++[(nm,root,m)]))):=by rw[yT (nm,root,m) sx (fun p hp' e=>hp ⟨p,hp',e⟩)];exact hQ3
 have hqF:q∉c.F:=fun hh=>by have:=hF _ hh;omega
 have hqs:q≠sb:=by omega
 have hB3:=hB2.chg hc3 (by simp;omega);have hp3:c.pg w3 s:=(h.pg.chg0 hc2).chg hc3 (fun x hx hh=>by simp at hh;subst hh;exact hqF hx) (fun x hx=>by simp at hx;subst hx;omega);have hol:∀p∈sx++[((nm,root,m):Sx)],Tre s p.2.1 p.2.2:=fun p hp'=>by
  rcases List.mem_append.1 hp' with g|g
  ·exact h.olds p g
  ·rw[g8] at g;subst g;exact h.live
 have hnm:∀p∈sx++[((nm,root,m):Sx)],p.1.length<=10:=fun p hp'=>by
  rcases List.mem_append.1 hp' with g|g
  ·exact h.names p g
  ·rw[g8] at g;subst g;exact h10
 have hle:(sx++[((nm,root,m):Sx)]).length<=4:=by rw[aF,gq];omega
 refine a7 rfl (aC bw rfl rfl (hB3.c rfl)) (zm rfl (ah rfl C75 ((sQ c w3 s sb q _ _ _ root (eD (sx++[(nm,root,m)])) hp3 hB3 hQ3 (h.live.std_all hol) h.sF ⟨hqF,hqs⟩ (by unfold eD;rw[df];omega) (fun p hp'=>by obtain⟨z,hz,rfl⟩:=List.mem_map.1 hp';exact hnm z hz) hk :)) ?_));rintro _ w4 ⟨rfl,⟨c',s',hC,hcf⟩,hB4,hM4,hc4⟩;refine za rfl (a8 (a6 (zrf ?_)));have k13:w.heap.size<=w3.heap.size:=by have:=hc2.1;omega
 have hqw3:=hQ3.lt;have hc03:Chg [] w w3:=hc2.t1 hc3 hqw;refine⟨rfl,⟨c',s',q,StoreAt.commit (w:=w3) hC hcf hB4 hM4 ⟨by omega,h.sF⟩ ⟨hqw3,hqF,hqs,by omega⟩ h.live hol hnm hle,hC.c,fun x hx=>(hcf x hx).imp (fun q=>q) (fun q=>by omega),by rw[hC.k];omega,hqw⟩,hc03.tr0' hc4⟩
theorem FC(h:StoreAt c w s sb mr root m sx)(nm:Bs)(hl:nm.length<=100000)(hn:oS nm=true)(hp:¬∃p∈sx,p.1=nm) :
  Ret Tryz.prog 36 #[.pointer (some ⟨sb,0,none⟩),str nm] w fun r w'=>r=.int .i64 100/\w=w':=by
 have hob4:=DG h nm false (decide_eq_false hp).symm;obtain⟨v,hv⟩:=hob4;refine enter [4] Tryz.func36 rfl rfl (al rfl) (zSR (za rfl (zNR (zm rfl (zn rfl rfl (a7 rfl (aa dF rfl oe rfl rfl) (a7 rfl (aC fJ rfl rfl (h.blk.c rfl)) (zmv rfl (bJ (jv (k:=nm) fJ (gH uU9) I25 rfl rfl rfl h.map) hv) ?_))))))));refine zm rfl (zx rfl (zx rfl (zaa rfl (a8 (a6 (ae (aq (zSR (zm rfl (zn rfl rfl (a7 rfl (aa dF rfl I4 rfl rfl) (a7 rfl (aC uU4 rfl rfl (h.blk.c rfl)) (za rfl (a8 (a6 (aK (rfl) (zSR (zm rfl (ah rfl C76 (rE w nm true hn hl) ?_)))))))))))))))))));rintro _ w1 ⟨rfl,rfl⟩;refine a7 rfl (cA rfl) (za rfl (a8 (a6 (aK (rfl) (zSR (zmv rfl (cA rfl) (za rfl (a8 (a6 (bh (rfl) (zSR (za rfl (a8 (a6 (zrb ?_)))))))))))))));exact⟨rfl,rfl⟩
theorem Drop_ok(h:StoreAt c w s sb mr root m sx)(nm:Bs)(hn:oS nm=true)(hp:∃p∈sx,p.1=nm)(hk:s.k+1<=40000) :
  Ret Tryz.prog 36 #[.pointer (some ⟨sb,0,none⟩),str nm] w fun r w'=>r=.int .i64 0/\Aft c w w' s sb root m (qj nm sx)/\Chg (sb::c.F) w w':=by
 have h10:nm.length<=10:=by unfold oS at hn;exact of_decide_eq_true (Bool.and_eq_true_iff.1 hn).2
 have hob6:=DG h nm true (decide_eq_true hp).symm;obtain⟨v,hv⟩:=hob6;have hF:=h.pg.lt;have hsw:=h.blk.lt;have hmw:=h.map.lt;have hw0:=(PS.now h.pg).1;refine enter [4] Tryz.func36 rfl rfl (al rfl) (zSR (za rfl (zNR (zm rfl (zn rfl rfl (a7 rfl (aa dF rfl oe rfl rfl) (a7 rfl (aC fJ rfl rfl (h.blk.c rfl)) (zmv rfl (bJ (jv (k:=nm) fJ (gH uU9) I25 rfl rfl rfl h.map) hv) ?_))))))));refine zm rfl (zx rfl (zx rfl (zaa rfl (a8 (a6 (ae (aq (zSR (zm rfl (zn rfl rfl (a7 rfl (aa dF rfl I4 rfl rfl) (a7 rfl (aC uU4 rfl rfl (h.blk.c rfl)) (za rfl (a8 (a6 (aK (rfl) (zSR (zm rfl (ah rfl C76 (rE w nm true hn (by omega)) ?_)))))))))))))))))));rintro _ w1 ⟨rfl,rfl⟩;refine a7 rfl (cA rfl) (za rfl (a8 (a6 (aK (rfl) (zSR (zmv rfl (cA rfl) (za rfl (a8 (a6 (aK (rfl) (aw (ay (a6 (zSR (zm rfl (zn rfl rfl (a7 rfl (aa dF rfl oe rfl rfl) (a7 rfl (aC fJ rfl rfl (h.blk.c rfl)) (ah rfl C77 (yg _ mr _ h.map) ?_)))))))))))))))))));rintro _ w2 ⟨q,rfl,hQ2,hc2,hqw⟩;refine za rfl (zNR (zmm rfl (dK rfl (uI (k:=nm) fJ (gH uU9) rfl rfl hQ2) ?_)));rintro w3 ⟨hQ3,hc3,hs3⟩;refine zNR (zmm rfl (zn rfl rfl (a7 rfl (aa dF rfl I25 rfl rfl) ?_)));have hB2:=h.blk.chg0 hc2;have hQ3:MapAt w3 q (snV (eD (qj nm sx))):=by rw[Dq];exact hQ3
 have hqF:q∉c.F:=fun hh=>by have:=hF _ hh;omega
 have hqs:q≠sb:=by omega
 have hB3:=hB2.chg hc3 (by simp;omega);have hp3:c.pg w3 s:=(h.pg.chg0 hc2).chg hc3 (fun x hx hh=>by simp at hh;subst hh;exact hqF hx) (fun x hx=>by simp at hx;subst hx;omega);have hol:∀p∈qj nm sx,Tre s p.2.1 p.2.2:=fun p hp'=>h.olds p (wh hp');have hnm:∀p∈qj nm sx,p.1.length<=10:=fun p hp'=>h.names p (wh hp');have hle:(qj nm sx).length<=4:=by have:=B1 nm sx;have:=h.few;omega
 refine a7 rfl (aC bw rfl rfl (hB3.c rfl)) (zm rfl (ah rfl C75 ((sQ c w3 s sb q _ _ _ root (eD (qj nm sx)) hp3 hB3 hQ3 (h.live.std_all hol) h.sF ⟨hqF,hqs⟩ (by unfold eD;rw[df];omega) (fun p hp'=>by obtain⟨z,hz,rfl⟩:=List.mem_map.1 hp';exact hnm z hz) hk :)) ?_));rintro _ w4 ⟨rfl,⟨c',s',hC,hcf⟩,hB4,hM4,hc4⟩;refine za rfl (a8 (a6 (zrf ?_)));have k13:w.heap.size<=w3.heap.size:=by have:=hc2.1;omega
 have hqw3:=hQ3.lt;have hc03:Chg [] w w3:=hc2.t1 hc3 hqw;refine⟨rfl,⟨c',s',q,StoreAt.commit (w:=w3) hC hcf hB4 hM4 ⟨by omega,h.sF⟩ ⟨hqw3,hqF,hqs,by omega⟩ h.live hol hnm hle,hC.c,fun x hx=>(hcf x hx).imp (fun q=>q) (fun q=>by omega),by rw[hC.k];omega,hqw⟩,hc03.tr0' hc4⟩
end
theorem Make_ok(w0 w:World)(b r n:Nat)(kv:Value)(key:List UInt8)(hd:RunD w0 w b kv r (dsN (32+8*n)))(hn:4<=n/\n<=400)(hkl:key.length=32) :
  Ret Tryz.prog 30 #[.pointer (some ⟨b,0,none⟩),cE key] w fun v w'=>∃(c:TC) (s:TP) (sb mr:Nat) (id:UInt32),v=.tuple #[.pointer (some ⟨sb,0,none⟩),.int .i64 0]/\StoreAt c w' s sb mr id [] []/\c.w0=w0/\c.b=b/\c.kv=kv/\c.r=r/\c.n=n/\c.key=key/\s.k<=4/\Chg (DF b kv r) w w'/\w.heap.size<=sb/\w.heap.size<=mr/\∀x∈c.F,x∈DF b kv r∨w.heap.size<=x:=by
 have hDl:=hd.1.lt;have hDg:=hd.2.2;have hwz:=hd.2.1.1;refine enter [4,5] Tryz.func30 rfl rfl (al rfl) (zSR (cU (l:=key) rfl rfl ?_));rintro w1 kb hkn hK1 hc1 hl1;refine zaa rfl (zNR (zm rfl ?_));have hd1:RunD w0 w1 b kv r (dsN (32+8*n)):=⟨hd.1.chg hc1 (by simp),hd.2.1.tr hc1,hd.2.2⟩
 refine a7 rfl (cJ 32 gC rfl I63 rfl rfl (hK1) (hkl)) (ah rfl C55 (Cz (n:=n) V0 hd1 hn hkl) ?_);rintro _ w2 ⟨R,a,ds2,rfl,hS2,hc2,hR2⟩;refine zm rfl (zx rfl (zx rfl (zaa rfl (a8 (a6 (ae (zSR (zmv rfl (bS rfl rfl) (a8 (a6 (aI rfl (fun h=>h rfl) ?_)))))))))));refine zKR (zm rfl ?_);have hroom:fZ (pgZ a) n=n:=Ew (fun x=>rfl);refine ah rfl C56 (Fo ⟨w0,b,kv,r,R,n,key⟩ w2 ⟨1,ds2,pgZ a,V0⟩ hS2 (by show 1+1<=40000;decide)) ?_;rintro v3 w3 ⟨hr3,hc3⟩;have hge:=PS.ge hS2;have hlt2:=PS.lt hS2;rcases hr3 with⟨_,_,hno⟩|⟨id,s3,rfl,hp3,hx3,hk3,hit3⟩
 ·have hno:fZ (pgZ a) n=0:=hno;omega
 ·refine zm rfl (zx rfl (zx rfl (zaa rfl (a8 (a6 (ae (zSR (zmv rfl (bS rfl rfl) (a8 (a6 (aI rfl (fun h=>h rfl) ?_)))))))))));refine zKR (zmm rfl ?_);have hF3:=hp3.lt;refine aY rfl (nD (List UInt8)) ?_;rintro _ w4 ⟨mr,rfl,hmn,hM4,hc4,hl4⟩;refine a7 rfl (bP dF I143 rfl (zs:=[.pointer none,.int .u32 0,.map none,.bool false]) rfl rfl (bI rfl rfl rfl (al rfl) (bI rfl rfl rfl (al rfl) (bI rfl rfl rfl (al rfl) (dP (cs':=[.pointer (some ⟨R.pb,0,none⟩),.int .u32 id.toNat,.map (some mr),.bool false]) rfl))))) ?_;refine aY rfl (cT (l:=[.pointer (some ⟨R.pb,0,none⟩),.int .u32 id.toNat,.map (some mr),.bool false]) rfl rfl) ?_;rintro _ w5 ⟨sb,rfl,hsn,hB5,hc5,hl5⟩;refine za rfl (a8 (a6 (ae (zSR (zmm rfl (zm rfl ?_))))));have hM5:MapAt w5 mr (snV []):=hM4.mod hc5 (by simp);refine ah rfl C71 (DD w5 sb mr _ _ _ [] hB5 hM5 (by decide) (fun p hp=>by simp at hp)) ?_;rintro _ w6 ⟨ml,hml,rfl,hc6⟩;have hp6:=((hp3.chg0 hc4).chg0 hc5).chg0 hc6;have hmz:(gQ ml).length<=200:=by
   rw[List.perm_nil.1 hml];decide
  have hid:s3.P.now.written id=true:=(hx3.mem (by simp)).2;have hus:∀x,s3.P.now.used x=true↔x=id:=fun x=>by
   rw[hx3.used];show([id].elem x||false)=true↔_;simp
  refine ah rfl C70 ((wj hp6 (by have:s3.k<=1+1:=hk3;omega) id (gQ ml) hmz (fun x hx=>by unfold Pg.fresh at hx;have:=(hus x).1 (Bool.and_eq_true_iff.1 hx).1;rw[this];exact hid) :)) ?_;rintro _ w7 ⟨rfl,⟨u,r',ku,kr,ds',hR7,hS7,hpd,_⟩,hc7⟩;refine za rfl (zNR (zmv rfl (bS rfl rfl) (a8 (a6 (aI rfl (fun h=>h rfl) ?_)))));refine zKR (zma rfl (za rfl (a8 (a6 (zrf ?_)))));have hc7:Chg (PF R++DF b kv r) w6 w7:=hc7;have hc36:Chg [] w3 w6:=hc4.tr (hc5.tr hc6);have hmF:mr∉PF R++DF b kv r:=fun hh=>by have:=hF3 _ hh;omega
  have hsF:sb∉PF R++DF b kv r:=fun hh=>by have:=hF3 _ hh;have:=hc4.1;omega
  have hge3:=hp3.ge;have k1:=hc1.1;have k2:=hc2.1;have k3:=hc3.1;have k4:=hc4.1;have k5:=hc5.1;have k6:=hc6.1;have hB7:=(hB5.chg0 hc6).chg hc7 hsF;have hM7:MapAt w7 mr (snV (eD [])):=(hM5.mod hc6 (by simp)).mod hc7 hmF;have hC:Cmt ⟨w0,b,kv,r,R,n,key⟩ { (⟨w0,b,kv,r,R,n,key⟩:TC) with R:={ R with u:=u,r:=r',ku:=ku,kr:=kr } } w7 s3 ⟨s3.k+1,ds',{ s3.P with now:=(eh s3.P id (gQ ml)).st,kept:=eh s3.P id (gQ ml),at_:=(s3.P.at_+1) % 2 },s3.V⟩ id (eD []):=by
   refine⟨hS7,rfl,rfl,rfl,⟨ml,hml,rfl⟩,fun x=>?_,fun x hx=>?_,⟨fun x=>rfl,fun x=>rfl,fun x hx=>hp6.wu hx⟩,rfl,hpd,rfl⟩
   ·show s3.P.now.used x=true↔_;rw[hus x]
    constructor
    ·rintro rfl;exact⟨x,by simp[eD],0,[x],[],hit3,by simp⟩
    ·rintro⟨r2,hr2,d2,pg2,m2,h1,h2⟩;have hr2:r2=id:=by simpa [eD] using hr2
     subst hr2;rw[jh h1 hit3] at h2
     simpa using h2
   ·obtain⟨r2,hr2,d2,pg2,m2,h1,h2⟩:=hx;have hr2:r2=id:=by simpa [eD] using hr2
    subst hr2;rw[jh h1 hit3] at h2
    have:x=r2:=by simpa using h2
    rw[this];exact hid
  have hcf:∀x∈({ (⟨w0,b,kv,r,R,n,key⟩:TC) with R:={ R with u:=u,r:=r',ku:=ku,kr:=kr } }:TC).F,x∈(⟨w0,b,kv,r,R,n,key⟩:TC).F∨w6.heap.size<=x:=fun x hx=>by
   rcases List.mem_append.1 hx with g|g
   ·rcases hR7 x g with q|q
    ·exact .inl (cG _ q)
    ·exact .inr q
   ·exact .inl (cj _ g)
  have hsb6:sb<w6.heap.size:=by omega
  have hmr6:mr<w6.heap.size:=by omega
  refine⟨_,_,sb,mr,id,rfl,StoreAt.commit (w:=w6) (m:=[]) (sx:=[]) hC hcf hB7 hM7 ⟨hsb6,hsF,by show w0.heap.size<=sb;omega⟩ ⟨hmr6,hmF,by omega,by show w0.heap.size<=mr;omega⟩ ⟨by decide,0,[id],hit3,fun x hx=>by simp at hx;subst hx;exact hid,by simp⟩ (fun p hp=>by simp at hp) (fun p hp=>by simp at hp) (by decide),rfl,rfl,rfl,rfl,rfl,rfl,by show s3.k+1<=4;have:s3.k<=1+1:=hk3;omega,?_,by omega,by omega,fun x hx=>?_⟩
  ·have hRn:∀x∈PF R++DF b kv r,x∈DF b kv r∨w.heap.size<=x:=fun x hx=>by
    rcases List.mem_append.1 hx with g|g
    ·exact .inr (by have:=hR2 x g;omega)
    ·exact .inl g
   have m1:Chg (DF b kv r) w w2:=hc1.tr0' hc2;have m2:Chg (DF b kv r) w w3:=m1.trans hc3 (fun x hx _=>hx) (fun x hx hl=>by
    rcases hRn x hx with g|g
    ·exact g
    ·omega)
   exact(m2.tr0 hc36).trans hc7 (fun x hx _=>hx) (fun x hx hl=>by
    rcases hRn x hx with g|g
    ·exact g
    ·omega)
  ·rcases hcf x hx with g|g
   ·rcases List.mem_append.1 g with q|q
    ·exact .inr (by have:=hR2 x q;omega)
    ·exact .inl q
   ·exact .inr (by omega)
theorem Gn{l:List (Bs×UInt32)}{i:Nat}{p:Bs×UInt32}(h:l[i]?=some p):(l.drop i).flatMap snB=txt p.1++(be 4 p.2.toNat++(l.drop (i+1)).flatMap snB):=by
 obtain⟨hi,rfl⟩:=List.getElem?_eq_some_iff.1 h;rw[jt hi,pH];unfold snB;rw[bO]
theorem txtT{s z:Bs}(h:s.length<=10):dw ((txt s++z).take 2)=s.length/\((txt s++z).drop 2).take s.length=s/\(txt s++z).drop (2+s.length)=z/\(txt s++z).length=2+s.length+z.length:=by
 unfold txt;have h2:(be 2 s.length).length=2:=aL _ _;refine⟨?_,?_,?_,?_⟩
 ·rw[bO,cI h2,gw,fh (by omega)]
 ·rw[bO,eG h2,cI rfl]
 ·rw[eG (by rw[aF,h2])]
 ·rw[aF,aF,h2]
theorem HG{c:TC}{w0 w:World}{s:TP}{sb mr a k:Nat}{root:UInt32}{m:List Pr}{sx:List Sx}{ds:DSt}(h:StoreAt c w0 s sb mr root m sx)(hd:RunD c.w0 w c.b c.kv c.r ds)(hC:PCra c.n k c.key ds a s.P.kept s.V)(hk:k+1<=40000) :
  Ret Tryz.prog 41 #[.pointer (some ⟨c.b,0,none⟩),cE c.key] w fun v w'=>∃(R:PR) (s':TP) (sb' mr':Nat) (sx':List Sx),v=.tuple #[.pointer (some ⟨sb',0,none⟩),.int .i64 0]/\StoreAt ⟨c.w0,c.b,c.kv,c.r,R,c.n,c.key⟩ w' s' sb' mr' root m sx'/\sx'.Perm sx/\s'.k<=k+1/\Chg (DF c.b c.kv c.r) w w'/\w.heap.size<=sb'/\w.heap.size<=mr'/\∀x∈PF R,w.heap.size<=x:=by
 have hkl:c.key.length=32:=h.pg.2.2.2.2;have hDl:=hd.1.lt;have hDg:=hd.2.2;have hwz:=hd.2.1.1;have hn4:=h.pg.n4;obtain⟨l,hl,htx⟩:=h.txt;obtain⟨sx',hsx,hsl⟩:=sk (fun p:Sx=>(p.1,p.2.1)) hl;have hsl:eD sx'=l:=hsl;have hlen:l.length=sx'.length:=by rw[<-hsl];exact df ..
 have hlx:sx'.length<=4:=by rw[hsx.length_eq];exact h.few
 have h10:∀p∈sx',p.1.length<=10:=fun p hp=>h.names p (hsx.subset hp);have hnd:(sx'.map (·.1)).Nodup:=by
  have h1:=h.map.nodup;rw[uZ] at h1;have h2:(eD sx).map (·.1)=sx.map (·.1):=by unfold eD;rw[fC];rfl
  rw[h2] at h1;exact(hsx.map _).nodup_iff.2 h1
 have hkt:s.P.kept.txt=gQ l:=by
  have:=congrArg Pst.txt h.st
  exact this.trans htx
 have hkr:s.P.kept.root=root:=by
  have:=congrArg Pst.root h.st
  exact this.trans h.rt
 refine enter [4,5] Tryz.func41 rfl rfl (al rfl) (zSR (cU (l:=c.key) rfl rfl ?_));rintro w1 kb hkn hK1 hc1 hl1;refine zaa rfl (zNR (zm rfl ?_));have hd1:RunD c.w0 w1 c.b c.kv c.r ds:=⟨hd.1.chg hc1 (by simp),hd.2.1.tr hc1,hd.2.2⟩
 refine a7 rfl (cJ 32 gC rfl I63 rfl rfl (hK1) (hkl)) (ah rfl C81 (GU hd1 hC hk hkl) ?_);rintro _ w2 ⟨R,f,ds2,rfl,hS2,_,_,hpd2,hc2,hR2⟩;refine zm rfl (zx rfl (zx rfl (zaa rfl (a8 (a6 (ae (zSR (zmv rfl (bS rfl rfl) (a8 (a6 (aI rfl (fun h=>h rfl) ?_)))))))))));refine zKR (zmm rfl ?_);have hob1:∃c':TC,c'=⟨c.w0,c.b,c.kv,c.r,R,c.n,c.key⟩:=⟨_,rfl⟩
 obtain⟨c',hc'⟩:=hob1;have hlt2:=PS.lt hS2;have hge2:=PS.ge hS2;refine ah rfl C82 (Gv hS2) ?_;rintro v3 w3 ⟨hv3,hS3,hc3⟩;have hv3:v3=.int .u32 root.toNat:=by rw[hv3,<-hkr];rfl
 subst hv3;refine aY rfl (nD (List UInt8)) ?_;rintro _ w4 ⟨mq,rfl,hmn,hM4,hc4,hl4⟩;refine a7 rfl (bP dF I143 rfl (zs:=[.pointer none,.int .u32 0,.map none,.bool false]) rfl rfl (bI rfl rfl rfl (al rfl) (bI rfl rfl rfl (al rfl) (bI rfl rfl rfl (al rfl) (dP (cs':=[.pointer (some ⟨R.pb,0,none⟩),.int .u32 root.toNat,.map (some mq),.bool false]) rfl))))) ?_;refine aY rfl (cT (l:=[.pointer (some ⟨R.pb,0,none⟩),.int .u32 root.toNat,.map (some mq),.bool false]) rfl rfl) ?_;rintro _ w5 ⟨sq,rfl,hsn,hB5,hc5,hl5⟩;refine za rfl (zNR (zm rfl ?_));have hS5:=(hS3.chg0 hc4).chg0 hc5;have hM5:MapAt w5 mq (snV (eD (sx'.take 0))):=hM4.mod hc5 (by simp);refine ah rfl C84 (H2 hS5) ?_;rintro v6 w6 ⟨hv6,hS6,hc6⟩;have hv6:v6=str (gQ l):=by rw[hv6,<-hkt];rfl
 subst hv6;have hmz:(gQ l).length<=65:=by
  have:=kC l (fun p hp=>by rw[<-hsl] at hp;obtain⟨q,hq,rfl⟩:=List.mem_map.1 hp;exact h10 q hq)
  omega
 refine aY rfl (x_s2b uU9 aW uU5 rfl) ?_;rintro bv w7 ⟨hbo,hc7,hib⟩;refine ah rfl C83 (jl bv (gQ l) 1 w7 hbo.sl (by decide) (by omega)) ?_;rintro v8 w8 ⟨hv8,hh8⟩;have hb1:(be 1 l.length).length=1:=aL _ _;have e1:dw ((gQ l).take 1)=l.length:=by unfold gQ;rw[cI hb1,gw,fh (by omega)]
 have e2:(gQ l).drop 1=l.flatMap snB:=by unfold gQ;rw[eG hb1]
 unfold nV at hv8;rw[if_neg (by unfold gQ;rw[aF,hb1];omega),e1,e2] at hv8;obtain⟨rv,rfl,hrs,hrb⟩:=hv8;have hN:(UInt64.ofNat l.length).toNat=l.length:=mj (show l.length<18446744073709551616 by omega);have hc8:Chg [] w7 w8:=Chg.heap hh8;have hmw:=hM5.lt;have hsw:=hB5.lt;have k3:=hc3.1;have k4:=hc4.1;have k5:=hc5.1;have k6:=hc6.1;have hmb:mq∉ax bv:=fun hh=>by have:=hib.ge mq hh;omega
 have hms:mq≠sq:=by omega
 refine zm rfl (zx rfl (zx rfl (zx rfl (zaa rfl (za rfl (a8 (a6 (ae (zSR (za rfl (a8 (a6 (aq (bf [6,7,8,9,10,11] (fun q vs w'=>∃(i:Nat) (rv:Value),vs=[.pointer (some ⟨R.pb,0,none⟩),.int .i64 0,.pointer (some ⟨sq,0,none⟩),.int .u64 (UInt64.ofNat l.length).toNat,rv,.int .i64 i]/\i+q=l.length/\Sl w' rv ((l.drop i).flatMap snB)/\ax rv=ax bv/\MapAt w' mq (snV (eD (sx'.take i)))/\Blk w' sq [.pointer (some ⟨R.pb,0,none⟩),.int .u32 root.toNat,.map (some mq),.bool false]/\Chg [] w3 w') (l.length) ?_ ?_))))))))))))))
 ·exact⟨0,rv,rfl,by omega,by rw[gL];exact hrs,hrb,((hM5.mod hc6 (by simp)).mod hc7 (by simp)).mod hc8 (by simp),((hB5.chg0 hc6).chg0 hc7).chg0 hc8,hc4.tr (hc5.tr (hc6.tr (hc7.tr hc8)))⟩
 ·rintro q vs J w9 ⟨i,rv,rfl,hiq,hr9,hb9,hM9,hB9,hc9⟩;refine ae (zSR (zmm rfl (a7 rfl (fz rfl eo uU3 (by omega)) ?_)));by_cases hil:i<l.length
  ·refine a7 rfl (bJ (bL rfl rfl) (congrArg Value.bool (decide_eq_true (by omega)))) ?_;refine zm rfl (aj rfl (zm rfl (aj rfl (a7 rfl (dB rfl rfl) (a7 rfl (aQ rfl) (a8 (a6 (bM rfl (rfl) (aw (a6 (ae (aq (zSR (za rfl (zNR (a7 rfl (gB (v:=.int .u64 ((0:UInt64).toNat:Nat)) rfl) ?_))))))))))))))));refine a8 (a6 (ae (zSR (zm rfl ?_))));have hob2:∃z,q=z+1:=⟨q-1,by omega⟩
   obtain⟨q,rfl⟩:=hob2;have hob3:∃x,sx'[i]?=some x:=⟨sx'[i]'(by omega),bX _⟩
   obtain⟨x,hx⟩:=hob3;have hlx2:l[i]?=some (x.1,x.2.1):=by rw[<-hsl];unfold eD;rw[mh,hx];rfl
   have hx10:=h10 x (j5 hx);rw[Gn hlx2] at hr9;have hob4:=txtT (s:=x.1) (z:=be 4 x.2.1.toNat++(l.drop (i+1)).flatMap snB) hx10;obtain⟨t1,t2,t3,t4⟩:=hob4;have hzl:((l.drop (i+1)).flatMap snB).length<=64:=by
    have h1:=kC (l.drop (i+1)) (fun p hp=>by
     have hp:=List.mem_of_mem_drop hp;rw[<-hsl] at hp;obtain⟨q,hq,rfl⟩:=List.mem_map.1 hp;exact h10 q hq)
    unfold gQ at h1;rw[aF,aL,bD] at h1;omega
   have hb4:(be 4 x.2.1.toNat).length=4:=aL _ _;have hbz:(be 4 x.2.1.toNat++(l.drop (i+1)).flatMap snB).length=4+((l.drop (i+1)).flatMap snB).length:=by rw[aF,hb4]
   rw[hbz] at t4;refine ah rfl C85 (n3 rv _ 10 w9 hr9 (by rw[t4];omega) (by decide)) ?_;rintro va wa ⟨hva,hha⟩;unfold pj at hva;rw[t1,t2,t3,if_neg (by rw[t4];omega)] at hva;obtain⟨ra,rfl,hra,hrab⟩:=hva;refine zm rfl (zx rfl (zx rfl (zx rfl (zaa rfl (za rfl (zNR (zmv rfl (dB rfl rfl) (a8 (a6 (bM rfl (rfl) (ag (zm rfl (ah rfl C83 (jl ra _ 4 wa hra (by decide) (by rw[aF,hb4];omega)) ?_)))))))))))));rintro vb wb ⟨hvb,hhb⟩;unfold nV at hvb;rw[if_neg (by rw[aF,hb4];omega),cI hb4,eG hb4,gw,fh (by have:=x.2.1.toNat_lt;omega)] at hvb;obtain⟨rb,rfl,hrb2,hrbb⟩:=hvb;have hcb:Chg [] w9 wb:=(Chg.heap hha).tr (Chg.heap hhb);have hBb:=hB9.chg0 hcb;have hMb:MapAt wb mq (snV (eD (sx'.take i))):=hM9.mod hcb (by simp);refine zm rfl (zx rfl (zx rfl (zx rfl (zaa rfl (za rfl (a8 (a6 (ag (zm rfl (zn rfl rfl (a7 rfl (aa dF rfl oe rfl rfl) ?_)))))))))));have hu32:gD ((UInt64.ofNat x.2.1.toNat).toNat:Int)=x.2.1:=by rw[BH];simp
   refine a7 rfl (aC fJ rfl rfl (hBb.c rfl)) (zmm rfl (a7 rfl (ey rfl eo bw) ?_));rw[hu32];refine aP rfl (gm (k:=x.1) fJ (gH uU9) rfl rfl rfl hMb) ?_;rintro wc ⟨hMc,hcc,hsc⟩;refine a8 (ay (a6 (ag (zmv rfl (aB rfl rfl (by omega)) (za rfl ?_)))));refine a8 (a6 ?_);have htk:sx'.take (i+1)=sx'.take i++[x]:=by rw[j9,hx];rfl
   have hne:∀y∈sx'.take i,y.1≠x.1:=by
    have:=hnd.sublist ((oh (i+1) sx').map (·.1))
    rw[htk,g9,jY] at this;exact fun y hy e=>this.2.2 y.1 (List.mem_map.2 ⟨y,hy,rfl⟩) x.1 (by simp) e
   have hMc:MapAt wc mq (snV (eD (sx'.take (i+1)))):=by rw[htk,yT x _ hne];exact hMc
   have hbb:ax rb=ax bv:=hrbb.trans (hrab.trans hb9);refine aS (q) (bx (by omega) ?_);exact⟨i+1,rb,rfl,by omega,hrb2.mod hcc (fun y hy hh=>by simp at hh;subst hh;rw[hbb] at hy;exact hmb hy),hbb,hMc,hBb.chg hcc (by simp;exact hms.symm),(hc9.tr hcb).t1 hcc hmn⟩
  ·have hil2:i=l.length:=by omega
   subst hil2;refine a7 rfl (bJ (bL rfl rfl) (congrArg Value.bool (decide_eq_false (by omega)))) ?_;refine zm rfl (aD rfl rfl (aD rfl rfl (a7 rfl (aN rfl) (a8 (a6 (aK (rfl) (aO (an (an (aE (a6 (ae (zSR (zm rfl ?_))))))))))))));rw[bW (by omega)] at hM9;have hS9:=hS3.chg0 hc9;have hus:∀x,s.P.kept.st.used x=s.P.now.used x:=fun x=>by rw[h.st]
   have hws:∀x,s.P.kept.st.written x=s.P.now.written x:=fun x=>by rw[h.st]
   refine a7 rfl (bJ (bS rfl rfl) (congrArg Value.bool (decide_eq_false (fun h=>h rfl)))) ?_;refine zm rfl (aj rfl (zm rfl (aj rfl (ah rfl C80 (wz w9 R c.b c.key _ hS9.2.1 c.n (by omega) (fun x hx=>hS9.2.2.2.1.ok.used x hx)) ?_))));rintro uv wu ⟨lu,hou,hnu,hmu,_,hcu,hiu⟩;have hob5:=hou.form (n:=lu.length) rfl;obtain⟨pu,cu,rfl⟩:=hob5;have hru:root∈lu:=by
    rw[hmu root];show s.P.kept.st.used root=true;rw[hus root,h.used root];have hob6:=h.live;obtain⟨_,d,pg,ht,_,_⟩:=hob6;have hob7:=Hd ht;obtain⟨q,hq⟩:=hob7;exact⟨root,cK,d,pg,m,ht,by rw[hq];simp⟩
   have hlu:=List.length_pos_of_mem hru;refine aj rfl (a7 rfl (aA rfl aX) (aj rfl (a7 rfl (dB rfl rfl) (a7 rfl (aN rfl) (a8 (a6 (aI rfl (by omega) ?_)))))));refine zKR (zma rfl (za rfl (a8 (a6 (zrf ?_)))));have hS10:=hS9.chg0 hcu;have hmv:∀{r:UInt32} {m:List Pr},Tre s r m->Tre ⟨k+1,ds2,⟨s.P.kept.st,opS c.key ds s.P.kept,(a+1) % 2,0,f,false⟩,s.V⟩ r m:=fun⟨q,d,pg,h1,h2,h3⟩=>⟨q,d,pg,h1,fun x hx=>(hws x).trans (h2 x hx),h3⟩
   have hFq:∀x∈PF R++DF c.b c.kv c.r,x<w2.heap.size:=hlt2;have k2:=hc2.1;have k1:=hc1.1;refine⟨R,⟨k+1,ds2,⟨s.P.kept.st,opS c.key ds s.P.kept,(a+1) % 2,0,f,false⟩,s.V⟩,sq,mq,sx',rfl,⟨hS10,hB9.chg0 hcu,hM9.mod hcu (by simp),⟨fun hh=>by have:=hFq _ hh;omega,by show c.w0.heap.size<=sq;omega⟩,⟨fun hh=>by have:=hFq _ hh;omega,hms,by show c.w0.heap.size<=mq;omega⟩,hmv h.live,fun p hp=>hmv (h.olds p (hsx.subset hp)),h10,hlx,fun x=>?_,⟨fun x=>rfl,fun x=>rfl,fun x hx=>hS10.2.2.2.1.ok.written x hx⟩,rfl,hpd2,hkr,⟨l,by rw[hsl],hkt⟩⟩,hsx,aM _,?_,by omega,by omega,fun x hx=>by have:=hR2 x hx;omega⟩
   ·show s.P.kept.st.used x=true↔_;rw[hus x,h.used x];have hrs:∀r,r∈root::z6 sx'↔r∈root::z6 sx:=fun r=>by
     have:=(hsx.map (·.2.1)).mem_iff (a:=r)
     rw[bV,bV];unfold z6;rw[this]
    constructor
    ·rintro⟨r,hr,q⟩;exact⟨r,(hrs r).2 hr,q⟩
    ·rintro⟨r,hr,q⟩;exact⟨r,(hrs r).1 hr,q⟩
   ·exact((hc1.tr0' hc2).tr0 hc3).tr0 (hc9.tr hcu)
theorem CI{ds:DSt}(h0:ds.offAt=0)(hp:ds.pend=[]):ds.crash []=ds:=by
 obtain⟨s,o,kk,p⟩:=ds;cases hp;cases h0;simp[DSt.crash,lV,iP]
abbrev Sn:=Bs×List Pr
def snP(sx:List Sx):List Sn:=sx.map fun p=>(p.1,p.2.2)
def sj(m:List Pr)(sn:List Sn):Nat:=2*m.length+1+(sn.map fun p=>2*p.2.length+1).sum
theorem xK{m:List Pr}{a b:List Sn}(h:a.Perm b):sj m a=sj m b:=by
 unfold sj;rw[(h.map _).sum_nat]
theorem Dx(m:List Pr)(sx:List Sx):C0 m sx=sj m (snP sx):=by
 unfold C0 sj snP;rw[fC];rfl
def Gr(w:World)(F F':List Nat):Prop:=∀x∈F',x∈F∨w.heap.size<=x
def SS(w0:World)(F:List Nat)(w:World)(sv dv:Value)(key:List UInt8)(m:List Pr)(sn:List Sn)(n k:Nat):Prop :=
 ∃(c:TC) (s:TP) (sb mr:Nat) (root:UInt32) (sx:List Sx),StoreAt c w s sb mr root m sx/\c.w0=w0/\F=sb::mr::c.F/\sv=.pointer (some ⟨sb,0,none⟩)/\dv=.pointer (some ⟨c.b,0,none⟩)/\c.key=key/\(snP sx).Perm sn/\c.n=n/\s.k<=k
theorem y3{nm:Bs}:∀{sx:List Sx},(sx.map (·.1)).Nodup->snP (qj nm sx)=(snP sx).filter (fun p=>decide (p.1≠nm))
 | [], _ => rfl
 | p :: l, h => by
  rw[eR,jX] at h;unfold qj;by_cases e:nm=p.1
  ·rw[if_pos e];unfold snP;rw[eR,yq,if_neg (by simp[e])];refine(List.filter_eq_self.2 (fun q hq=>?_)).symm;obtain⟨z,hz,rfl⟩:=List.mem_map.1 hq;refine decide_eq_true (fun e2=>h.1 (List.mem_map.2 ⟨z,hz,?_⟩));rw[<-e];exact e2
  ·rw[if_neg e];have ih:=y3 (nm:=nm) h.2;unfold snP at ih ⊢;rw[eR,eR,yq,if_pos (by simpa using fun q=>e q.symm),ih]
theorem StoreAt.nd{c:TC}{w:World}{s:TP}{sb mr:Nat}{root:UInt32}{m:List Pr}{sx:List Sx}(h:StoreAt c w s sb mr root m sx):(sx.map (·.1)).Nodup:=by
 have h1:=h.map.nodup;rw[uZ] at h1;have h2:(eD sx).map (·.1)=sx.map (·.1):=by unfold eD;rw[fC];rfl
 rw[h2] at h1;exact h1
theorem Bd{w0 w:World}{b r n:Nat}{kv:Value}{key:List UInt8}(hd:RunD w0 w b kv r (dsN (32+8*n)))(hn:4<=n/\n<=400)(hkl:key.length=32) :
  Ret Tryz.prog 30 #[.pointer (some ⟨b,0,none⟩),cE key] w fun v w'=>∃F sv,v=.tuple #[sv,.int .i64 0]/\SS w0 F w' sv (.pointer (some ⟨b,0,none⟩)) key [] [] n 4/\Chg (DF b kv r) w w'/\Gr w (DF b kv r) F:=by
 refine(Make_ok w0 w b r n kv key hd hn hkl).mono ?_;rintro v w' ⟨c,s,sb,mr,id,rfl,hS,rfl,rfl,rfl,rfl,rfl,rfl,hk,hc,hsb,hmr,hF⟩;refine⟨_,_,rfl,⟨c,s,sb,mr,id,[],hS,rfl,rfl,rfl,rfl,rfl,.refl _,rfl,hk⟩,hc,fun x hx=>?_⟩;rcases List.mem_cons.1 hx with rfl|hx
 ·exact .inr hsb
 ·rcases List.mem_cons.1 hx with rfl|hx
  ·exact .inr hmr
  ·exact hF x hx
section
variable {w0 w w':World}{F:List Nat}{sv dv:Value}{key:List UInt8}{m:List Pr}{sn:List Sn}{n k:Nat}
theorem SS.now(h:SS w0 F w sv dv key m sn n k):Chg [] w0 w:=by
 obtain⟨c,s,sb,mr,root,sx,h,rfl,rfl,rfl,rfl,rfl,hp,rfl,hk⟩:=h;exact PS.now h.pg
theorem SS.lt(h:SS w0 F w sv dv key m sn n k):∀x∈F,x<w.heap.size:=by
 obtain⟨c,s,sb,mr,root,sx,h,rfl,rfl,rfl,rfl,rfl,hp,rfl,hk⟩:=h;intro x hx;rcases List.mem_cons.1 hx with rfl|hx
 ·exact h.blk.lt
 ·rcases List.mem_cons.1 hx with rfl|hx
  ·exact h.map.lt
  ·exact h.pg.lt x hx
theorem SS.ge(h:SS w0 F w sv dv key m sn n k):∀x∈F,w0.heap.size<=x:=by
 obtain⟨c,s,sb,mr,root,sx,h,rfl,rfl,rfl,rfl,rfl,hp,rfl,hk⟩:=h;intro x hx;rcases List.mem_cons.1 hx with rfl|hx
 ·exact h.sF.2
 ·rcases List.mem_cons.1 hx with rfl|hx
  ·exact h.mF.2.2
  ·exact h.pg.ge x hx
theorem StoreAt.chg{c:TC}{s:TP}{sb mr:Nat}{root:UInt32}{sx:List Sx}{S:List Nat}(h:StoreAt c w s sb mr root m sx)(hc:Chg S w w')(hn:∀x∈sb::mr::c.F,x∉S)(hs:∀x∈S,c.w0.heap.size<=x):StoreAt c w' s sb mr root m sx :=
 ⟨h.pg.chg hc (fun x hx=>hn x (bN _ (bN _ hx))) hs,h.blk.chg hc (hn _ cK),h.map.mod hc (hn _ (bN _ cK)),h.sF,h.mF,h.live,h.olds,h.names,h.few,h.used,h.com,h.st,h.pend,h.rt,h.txt⟩
theorem SS.chg{S:List Nat}(h:SS w0 F w sv dv key m sn n k)(hc:Chg S w w')(hn:∀x∈F,x∉S)(hs:∀x∈S,w0.heap.size<=x):SS w0 F w' sv dv key m sn n k:=by
 obtain⟨c,s,sb,mr,root,sx,h,rfl,rfl,rfl,rfl,rfl,hp,rfl,hk⟩:=h;exact⟨c,s,sb,mr,root,sx,h.chg hc hn hs,rfl,rfl,rfl,rfl,rfl,hp,rfl,hk⟩
theorem SS.chg0(h:SS w0 F w sv dv key m sn n k)(hc:Chg [] w w'):SS w0 F w' sv dv key m sn n k:=h.chg hc (by simp) (by simp)
theorem SS.sort(h:SS w0 F w sv dv key m sn n k):eF m:=by
 obtain⟨c,s,sb,mr,root,sx,h,rfl,rfl,rfl,rfl,rfl,hp,rfl,hk⟩:=h;exact h.live.sort
theorem SS.kle{k':Nat}(h:SS w0 F w sv dv key m sn n k)(hk:k<=k'):SS w0 F w sv dv key m sn n k':=by
 obtain⟨c,s,sb,mr,root,sx,h,h1,h2,h3,h4,h5,hp,h6,h7⟩:=h;exact⟨c,s,sb,mr,root,sx,h,h1,h2,h3,h4,h5,hp,h6,bq h7 hk⟩
def SR(w0:World)(F:List Nat)(w w':World)(sv dv:Value)(key:List UInt8)(m:List Pr)(sn:List Sn)(n k:Nat):Prop :=
 (∃F',SS w0 F' w' sv dv key m sn n k/\Gr w F F')/\Chg F w w'
theorem SS.do_{lv:Value}{l:List Wr}(h:SS w0 F w sv dv key m sn n k)(hl:Sl w lv l)(hlF:∀x∈ax lv,x∉F)(hb:isB l=true)(hm:m.length+l.length<=900)(hk:k+24*l.length+1<=40000)(hr:sj m sn+2*(m.length+l.length)+30<=n) :
  Ret Tryz.prog 32 #[sv,lv] w fun r w'=>r=.int .i64 0/\SR w0 F w w' sv dv key (oX m l) sn n (k+24*l.length+1):=by
 obtain⟨c,s,sb,mr,root,sx,h,rfl,rfl,rfl,rfl,rfl,hp,rfl,hk1⟩:=h;refine(Do_ok c w s sb mr root m sx lv l h hl (fun x hx hh=>hlF x hx (bN _ (bN _ hh))) hb hm (by omega) (by rw[Dx,xK hp];exact hr)).mono ?_;rintro r w' ⟨rfl,⟨c',s',id,hS,hcc,hF,hk2⟩,hc⟩;have e0:c'.w0=c.w0:=by rw[hcc]
 have e1:c'.b=c.b:=by rw[hcc]
 have e2:c'.key=c.key:=by rw[hcc]
 have e3:c'.n=c.n:=by rw[hcc]
 refine⟨rfl,⟨_,⟨c',s',sb,mr,id,sx,hS,e0,rfl,rfl,by rw[e1],e2,hp,e3,by omega⟩,fun x hx=>?_⟩,hc.mono (fun x hx _=>?_)⟩
 ·rcases List.mem_cons.1 hx with rfl|hx
  ·exact .inl cK
  ·rcases List.mem_cons.1 hx with rfl|hx
   ·exact .inl (bN _ cK)
   ·exact(hF x hx).imp (fun q=>bN _ (bN _ q)) (fun q=>q)
 ·rcases List.mem_cons.1 hx with rfl|hx
  ·exact cK
  ·exact bN _ (bN _ hx)
theorem SS.aft{c:TC}{s:TP}{sb mr:Nat}{root:UInt32}{sx:List Sx}(ha:Aft c w w' s sb root m sx)(hp:(snP sx).Perm sn)(hk:s.k<=k)(hc:Chg (sb::c.F) w w') :
  SR c.w0 (sb::mr::c.F) w w' (.pointer (some ⟨sb,0,none⟩)) (.pointer (some ⟨c.b,0,none⟩)) c.key m sn c.n (k+1):=by
 obtain⟨c',s',mr',hS,hcc,hF,hk2,hmr⟩:=ha;have e0:c'.w0=c.w0:=by rw[hcc]
 have e1:c'.b=c.b:=by rw[hcc]
 have e2:c'.key=c.key:=by rw[hcc]
 have e3:c'.n=c.n:=by rw[hcc]
 refine⟨⟨_,⟨c',s',sb,mr',root,sx,hS,e0,rfl,rfl,by rw[e1],e2,hp,e3,by omega⟩,fun x hx=>?_⟩,hc.mono (fun x hx _=>?_)⟩
 ·rcases List.mem_cons.1 hx with rfl|hx
  ·exact .inl cK
  ·rcases List.mem_cons.1 hx with rfl|hx
   ·exact .inr hmr
   ·exact(hF x hx).imp (fun q=>bN _ (bN _ q)) (fun q=>q)
 ·rcases List.mem_cons.1 hx with rfl|hx
  ·exact cK
  ·exact bN _ (bN _ hx)
theorem A3{sx:List Sx}{nm:Bs}(hp:(snP sx).Perm sn):(∃p∈sx,p.1=nm)↔nm∈sn.map (·.1):=by
 rw[<-(hp.map _).mem_iff];unfold snP;rw[fC]
 constructor
 ·rintro⟨p,h,e⟩;exact List.mem_map.2 ⟨p,h,e⟩
 ·intro h;obtain⟨p,h,e⟩:=List.mem_map.1 h;exact⟨p,h,e⟩
theorem sn_len{sx:List Sx}(hp:(snP sx).Perm sn):sx.length=sn.length:=by
 rw[<-hp.length_eq];exact(df ..).symm
theorem SS.snap(h:SS w0 F w sv dv key m sn n k)(nm:Bs)(hn:oS nm=true)(hp:nm∉sn.map (·.1))(h4:sn.length<4)(hk:k+1<=40000) :
  Ret Tryz.prog 33 #[sv,str nm] w fun r w'=>r=.int .i64 0/\SR w0 F w w' sv dv key m (sn++[(nm,m)]) n (k+1):=by
 obtain⟨c,s,sb,mr,root,sx,h,rfl,rfl,rfl,rfl,rfl,hq,rfl,hk1⟩:=h;refine(Snap_ok h nm hn (fun z=>hp ((A3 hq).1 z)) (by rw[sn_len hq];exact h4) (by omega)).mono ?_;rintro r w' ⟨rfl,ha,hc⟩;exact⟨rfl,SS.aft ha (by unfold snP;rw[g9];exact hq.append_right _) hk1 hc⟩
theorem SS.drop(h:SS w0 F w sv dv key m sn n k)(nm:Bs)(hn:oS nm=true)(hp:nm∈sn.map (·.1))(hk:k+1<=40000) :
  Ret Tryz.prog 36 #[sv,str nm] w fun r w'=>r=.int .i64 0/\SR w0 F w w' sv dv key m (sn.filter (fun p=>decide (p.1≠nm))) n (k+1):=by
 obtain⟨c,s,sb,mr,root,sx,h,rfl,rfl,rfl,rfl,rfl,hq,rfl,hk1⟩:=h;refine(Drop_ok h nm hn ((A3 hq).2 hp) (by omega)).mono ?_;rintro r w' ⟨rfl,ha,hc⟩;exact⟨rfl,SS.aft ha (by rw[y3 h.nd];exact hq.filter _) hk1 hc⟩
theorem SS.snapT(h:SS w0 F w sv dv key m sn n k)(nm:Bs)(hl:nm.length<=100000)(hn:oS nm=true)(hp:nm∈sn.map (·.1)) :
  Ret Tryz.prog 33 #[sv,str nm] w fun r w'=>r=.int .i64 101/\w=w':=by
 obtain⟨c,s,sb,mr,root,sx,h,rfl,rfl,rfl,rfl,rfl,hq,rfl,hk1⟩:=h;exact CY h nm hl hn ((A3 hq).2 hp)
theorem SS.dropN(h:SS w0 F w sv dv key m sn n k)(nm:Bs)(hl:nm.length<=100000)(hn:oS nm=true)(hp:nm∉sn.map (·.1)) :
  Ret Tryz.prog 36 #[sv,str nm] w fun r w'=>r=.int .i64 100/\w=w':=by
 obtain⟨c,s,sb,mr,root,sx,h,rfl,rfl,rfl,rfl,rfl,hq,rfl,hk1⟩:=h;exact FC h nm hl hn (fun z=>hp ((A3 hq).1 z))
theorem SS.doB{lv:Value}{l:List Wr}(h:SS w0 F w sv dv key m sn n k)(hl:Sl w lv l)(hll:l.length<=100000)(hb:isB l=false) :
  Ret Tryz.prog 32 #[sv,lv] w fun r w'=>r=.int .i64 12/\Chg [] w w':=by
 obtain⟨c,s,sb,mr,root,sx,h,rfl,rfl,rfl,rfl,rfl,hp,rfl,hk1⟩:=h;refine enter [4] Tryz.func32 rfl rfl (al rfl) (zSR (za rfl (a8 (a6 (ae (aq (zSR (zm rfl (zn rfl rfl (a7 rfl (aa dF rfl I4 rfl rfl) (a7 rfl (aC uU4 rfl rfl (h.blk.c rfl)) (za rfl (a8 (a6 (aK (rfl) (zSR (zm rfl (ah rfl C72 (vR w _ l hl hll) ?_))))))))))))))))));rintro _ w1 ⟨rfl,hc1⟩;rw[hb];refine a7 rfl (cA rfl) (za rfl (a8 (a6 (bh (rfl) (zSR (za rfl (a8 (a6 (zrb ?_)))))))));exact⟨rfl,hc1⟩
theorem SS.get(h:SS w0 F w sv dv key m sn n k)(ky v:Bs)(b:Bool)(hv:(lK m ky).getD []=v)(hb:ft m ky=b) :
  Ret Tryz.prog 47 #[sv,str ky] w fun r w'=>r=.tuple #[str v,.bool b]/\Chg [] w w':=by
 obtain⟨c,s,sb,mr,root,sx,h,rfl,rfl,rfl,rfl,rfl,hp,rfl,hk1⟩:=h;exact SGet_ok h ky v b hv hb
theorem SS.len(h:SS w0 F w sv dv key m sn n k) :
  Ret Tryz.prog 39 #[sv] w fun r w'=>r=.int .i64 m.length/\Chg [] w w':=by
 obtain⟨c,s,sb,mr,root,sx,h,rfl,rfl,rfl,rfl,rfl,hp,rfl,hk1⟩:=h;exact SLen_ok h
theorem SS.dead(h:SS w0 F w sv dv key m sn n k) :
  Ret Tryz.prog 46 #[sv] w fun r w'=>r=.bool false/\w=w':=by
 obtain⟨c,s,sb,mr,root,sx,h,rfl,rfl,rfl,rfl,rfl,hp,rfl,hk1⟩:=h;refine enter [2] Tryz.func46 rfl rfl (al rfl) (zSR (za rfl (zNR (zm rfl (zn rfl rfl (a7 rfl (aa dF rfl I4 rfl rfl) (a7 rfl (aC uU4 rfl rfl (h.blk.c rfl)) (za rfl (a8 (a6 (zrf ?_)))))))))));exact⟨rfl,rfl⟩
theorem sn_mem{sx:List Sx}{q:Sn}(hp:(snP sx).Perm sn)(hq:q∈sn):∃p∈sx,p.1=q.1/\p.2.2=q.2:=by
 have hob1:=List.mem_map.1 (hp.mem_iff.2 hq);obtain⟨p,h,rfl⟩:=hob1;exact⟨p,h,rfl,rfl⟩
theorem SS.getAt(h:SS w0 F w sv dv key m sn n k)(q:Sn)(hq:q∈sn)(ky v:Bs)(b:Bool)(hv:(lK q.2 ky).getD []=v)(hb:ft q.2 ky=b) :
  Ret Tryz.prog 34 #[sv,str q.1,str ky] w fun r w'=>r=.tuple #[str v,.bool b,.int .i64 0]/\Chg [] w w':=by
 obtain⟨c,s,sb,mr,root,sx,h,rfl,rfl,rfl,rfl,rfl,hp,rfl,hk1⟩:=h;have hob2:=sn_mem hp hq;obtain⟨p,hpx,e1,e2⟩:=hob2;rw[<-e1];exact Fs h p hpx ky v b (by rw[e2];exact hv) (by rw[e2];exact hb)
theorem SS.getN(h:SS w0 F w sv dv key m sn n k)(nm ky:Bs)(hq:nm∉sn.map (·.1)) :
  Ret Tryz.prog 34 #[sv,str nm,str ky] w fun r w'=>r=.tuple #[str [],.bool false,.int .i64 100]/\w=w':=by
 obtain⟨c,s,sb,mr,root,sx,h,rfl,rfl,rfl,rfl,rfl,hp,rfl,hk1⟩:=h;exact Fu h nm ky (fun p hpx e=>hq ((A3 hp).1 ⟨p,hpx,e⟩))
theorem SS.names(h:SS w0 F w sv dv key m sn n k) :
  Ret Tryz.prog 35 #[sv] w fun v w'=>∃l,Own w' v l/\l.Perm (sn.map (·.1))/\Chg [] w w'/\In v [] w.heap.size:=by
 obtain⟨c,s,sb,mr,root,sx,h,rfl,rfl,rfl,rfl,rfl,hp,rfl,hk1⟩:=h;refine(Bc w sb mr _ _ _ (eD sx) h.blk h.map (by unfold eD;rw[df];have:=h.few;omega)).mono ?_;rintro v w' ⟨l,h1,h2,h3,h4⟩;refine⟨l,h1,h2.trans ?_,h3,h4⟩
 have:=hp.map (·.1)
 unfold snP at this;unfold eD;rw[fC] at this ⊢;exact this
theorem SS.pages(h:SS w0 F w sv dv key m sn n k) :
  Ret Tryz.prog 38 #[sv] w fun r w'=>(∃(av bv:Value) (la lb:List UInt32),r=.tuple #[av,bv]/\Own w' av la/\Own w' bv lb/\la.length=lb.length/\la.length<=sj m sn)/\Chg [] w w':=by
 obtain⟨c,s,sb,mr,root,sx,h,rfl,rfl,rfl,rfl,rfl,hp,rfl,hk1⟩:=h;rw[<-xK hp,<-Dx];exact HI h
theorem SS.crash0(h:SS w0 F w sv dv key m sn n k)(cv:Value)(hcf:∃p c,cv=.slice p 0 c) :
  Ret Tryz.prog 69 #[dv,cv] w fun v w'=>SS w0 F w' sv dv key m sn n k/\Chg F w w':=by
 obtain⟨c,s,sb,mr,root,sx,h,rfl,rfl,rfl,rfl,rfl,hp,rfl,hk1⟩:=h;refine(B5 h.pg h.pend cv hcf).mono ?_;rintro v w' ⟨hS,hc⟩;have hc:Chg c.F w w':=hc;exact⟨⟨c,s,sb,mr,root,sx,⟨hS,h.blk.chg hc h.sF.1,h.map.mod hc h.mF.1,h.sF,h.mF,h.live,h.olds,h.names,h.few,h.used,h.com,h.st,h.pend,h.rt,h.txt⟩,rfl,rfl,rfl,rfl,rfl,hp,rfl,hk1⟩,hc.mono (fun x hx _=>bN _ (bN _ hx))⟩
theorem SS.open_(h:SS w0 F w sv dv key m sn n k)(hk:k+1<=40000) :
  Ret Tryz.prog 41 #[dv,cE key] w fun v w'=>∃F' sv',v=.tuple #[sv',.int .i64 0]/\SS w0 F' w' sv' dv key m sn n (k+1)/\Gr w F F'/\Chg F w w':=by
 obtain⟨c,s,sb,mr,root,sx,h,rfl,rfl,rfl,rfl,rfl,hp,rfl,hk1⟩:=h;have hC:=h.pg.2.2.2.1.crash [];rw[CI h.pg.2.2.2.1.ok.off h.pend] at hC;refine(HG h h.pg.1 hC (by omega)).mono ?_;rintro v w' ⟨R,s',sb',mr',sx',rfl,hS,hpx,hk2,hc,hsb,hmr,hR⟩;refine⟨_,_,rfl,⟨_,s',sb',mr',root,sx',hS,rfl,rfl,rfl,rfl,rfl,(hpx.map _).trans hp,rfl,by omega⟩,fun x hx=>?_,hc.mono (fun x hx _=>?_)⟩
 ·rcases List.mem_cons.1 hx with rfl|hx
  ·exact .inr hsb
  ·rcases List.mem_cons.1 hx with rfl|hx
   ·exact .inr hmr
   ·rcases List.mem_append.1 hx with hx|hx
    ·exact .inr (hR x hx)
    ·exact .inl (bN _ (bN _ (cj _ hx)))
 ·exact bN _ (bN _ (cj _ hx))
end
theorem F2(w0 w:World)(h0:Chg [] w0 w) :
  Ret Tryz.prog 31 #[] w fun v w'=>∃b kv r,v=.pointer (some ⟨b,0,none⟩)/\RunD w0 w' b kv r (dsN (32+8*300))/\Chg [] w w'/\∀x∈DF b kv r,w.heap.size<=x:=by
 refine enter [0] Tryz.func31 rfl rfl (al rfl) (zSR (za rfl (zNR (ah rfl C37 (Ar w0 w (32+8*300) (by omega) h0) ?_))));rintro _ w1 ⟨b,kv,r,rfl,hd1,hc1,hF1⟩;refine za rfl (a8 (a6 (zrf ?_)));exact⟨b,kv,r,rfl,hd1,hc1,hF1⟩
def kK:List UInt8:=0::0::0::0::4::List.replicate 27 0
theorem Gr.not{w:World}{F F':List Nat}{x:Nat}(h:Gr w F F')(hx:x∉F)(hw:x<w.heap.size):x∉F':=fun hh=>by
 rcases h x hh with q|q
 ·exact hx q
 ·omega
theorem Cs(w:World):Ret Tryz.prog 29 #[] w fun v w'=>v=.bool true/\Chg [] w w':=by
 refine enter [0] Tryz.func29 rfl rfl (al rfl) (zSR (za rfl (zNR (ah rfl C31 (F2 w w (Chg.refl _)) ?_))));rintro _ w1 ⟨b,kv,r,rfl,hd1,hc1,hF1⟩;refine a7 rfl (jN (List.replicate 32 (0:UInt8)) ([(4,4)]) (l:=kK) gC I63 rfl I5 (by kernel_rfl) rfl (by kernel_rfl) rfl (by kernel_rfl)) ?_;refine aT (List.replicate 32 (0:UInt8)) I63 rfl rfl rfl ?_;rintro w2 b2 hn2 ha2 hc2 hl2;refine za rfl (aP rfl (bE 32 I63 rfl (ha2) rfl rfl (rfl) (rfl)) ?_);rintro w3 ⟨ha3,hc3,hs3⟩;refine zNR (zm rfl ?_);have hd3:=hd1.chg0 (hc2.t1 hc3 hn2);refine a7 rfl (cJ 32 gC rfl I63 rfl rfl (ha3) (rfl)) (ah rfl C30 (Bd hd3 (by decide) rfl) ?_);rintro _ w4 ⟨F,sv,rfl,hS4,hc4,hG4⟩;refine zm rfl (zx rfl (zx rfl (zaa rfl (a8 (a6 (ae (zSR (zm rfl ?_))))))));have hb2:b2∉F:=fun hh=>by
  have q:=ha3.lt;rcases hG4 b2 hh with g|g
  ·have:=hd1.1.lt b2 g;omega
  ·omega
 have hb4:=(ha3.chg hc4 (fun hh=>by have:=hd1.1.lt b2 hh;omega))
 refine a7 rfl (bJ (bS rfl rfl) (congrArg Value.bool (decide_eq_false (fun h=>h rfl)))) ?_;refine zm rfl (aj rfl (zm rfl (aj rfl (a7 rfl (bP pM I66 rfl (zs:=[str [],str [],.bool false]) rfl rfl (bI rfl rfl rfl (al rfl) (bI rfl rfl rfl (al rfl) (dP (cs':=[str [97],str [49],.bool false]) rfl)))) ?_))));refine aj rfl (aY rfl (nE (⟨[97],[49],false⟩:Wr) wI I66 rfl rfl rfl rfl rfl (by decide)) ?_);rintro _ w5 ⟨l5,rfl,hB5,hn5,hc5,hl5⟩;refine aj rfl ?_;have hF4:=hS4.lt;have hS5:=hS4.chg0 hc5;have hx5:l5∉F:=fun hh=>by have:=hF4 _ hh;omega
 refine ah rfl C32 ((hS5.do_ (Blk.sl1 hB5) (fun x hx=>by simp[ax] at hx;subst hx;exact hx5) rfl (by decide) (by decide) (by decide) :)) ?_;rintro _ w6 ⟨rfl,⟨F6,hS6,hG6⟩,hc6⟩;refine aj rfl (a7 rfl (bJ (bS rfl rfl) (congrArg Value.bool (decide_eq_false (fun h=>h rfl)))) ?_);refine a7 rfl (aN rfl) (zm rfl (aj rfl (zm rfl (aj rfl (ah rfl C33 ((hS6.snap [120] rfl (by simp) (by decide) (by decide) :)) ?_)))));rintro _ w7 ⟨rfl,⟨F7,hS7,hG7⟩,hc7⟩;refine aj rfl (a7 rfl (bJ (bS rfl rfl) (congrArg Value.bool (decide_eq_false (fun h=>h rfl)))) ?_);refine a7 rfl (aN rfl) (zm rfl (aj rfl (zm rfl (aj rfl (a7 rfl (bP pM I66 rfl (zs:=[str [],str [],.bool false]) rfl rfl (bI rfl rfl rfl (al rfl) (bI rfl rfl rfl (al rfl) (dP (cs':=[str [97],str [50],.bool false]) rfl)))) ?_)))));refine aj rfl (aY rfl (nE (⟨[97],[50],false⟩:Wr) wI I66 rfl rfl rfl rfl rfl (by decide)) ?_);rintro _ w8 ⟨l8,rfl,hB8,hn8,hc8,hl8⟩;refine aj rfl ?_;have hF7:=hS7.lt;have hS8:=hS7.chg0 hc8;have hx8:l8∉F7:=fun hh=>by have:=hF7 _ hh;omega
 refine ah rfl C32 ((hS8.do_ (Blk.sl1 hB8) (fun x hx=>by simp[ax] at hx;subst hx;exact hx8) rfl (by decide) (by decide) (by decide) :)) ?_;rintro _ w9 ⟨rfl,⟨F9,hS9,hG9⟩,hc9⟩;refine aj rfl (a7 rfl (bS rfl rfl) (a7 rfl (aN rfl) (a8 (a6 (aI rfl (fun h=>h rfl) ?_)))));refine zKR (zm rfl (ah rfl C69 (hS9.crash0 (.slice none 0 0) ⟨_,_,rfl⟩) ?_));rintro v10 w10 ⟨hS10,hc10⟩;refine zNR (zm rfl ?_);have kk:=ha3.lt;have k4:=hc4.1;have k5:=hc5.1;have k6:=hc6.1;have k7:=hc7.1;have k8:=hc8.1;have hb6:=hG6.not hb2 (by omega);have hb7:=hG7.not hb6 (by omega);have hb9:=hG9.not hb7 (by omega);have ha10:Arr w10 b2 kK:=(((((hb4.chg0 hc5).chg hc6 hb2).chg hc7 hb6).chg0 hc8).chg hc9 hb7).chg hc10 hb9;refine a7 rfl (cJ 32 gC rfl I63 rfl rfl (ha10) (rfl)) (ah rfl C41 ((hS10.open_ (by decide) :)) ?_);rintro _ w11 ⟨F11,sv2,rfl,hS11,hG11,hc11⟩;refine zm rfl (zx rfl (zx rfl (zaa rfl (a8 (a6 (ae (zSR (zmv rfl (bS rfl rfl) (a8 (a6 (aI rfl (fun h=>h rfl) ?_)))))))))));refine zKR (zm rfl (ah rfl C47 ((hS11.get [97] [50] true rfl rfl :)) ?_));rintro _ w12 ⟨rfl,hc12⟩;refine zm rfl (zx rfl (zx rfl (zaa rfl (zNR (zm rfl ?_)))));have hS12:=hS11.chg0 hc12;refine ah rfl C34 ((hS12.getAt ([120],[([97],[49])]) (by decide) [97] [49] true rfl rfl :)) ?_;rintro _ w13 ⟨rfl,hc13⟩;refine zm rfl (zx rfl (zx rfl (zx rfl (zaa rfl (za rfl (zNR (zm rfl ?_)))))));have hS13:=hS12.chg0 hc13;refine ah rfl C34 ((hS13.getN [121] [97] (by decide) :)) ?_;rintro _ w14 ⟨rfl,rfl⟩;refine zm rfl (zx rfl (zx rfl (zx rfl (zaa rfl (za rfl (zNR (zm rfl (ah rfl C38 ((hS13.pages :)) ?_))))))));rintro _ w14 ⟨⟨av,bv,la,lb,rfl,hla,hlb,hll,_⟩,hc14⟩;refine zm rfl (zx rfl (zx rfl (zaa rfl (zNR (zmm rfl (aj rfl (zm rfl (aj rfl ?_))))))));have hS14:=hS13.chg0 hc14;have hob1:=hla.sl.form rfl;obtain⟨pa,ca,rfl⟩:=hob1;have hob2:=hlb.sl.form rfl;obtain⟨pb,cb,rfl⟩:=hob2;refine a7 rfl (bJ (uH rfl rfl) (congrArg Value.bool (decide_eq_true (rfl)))) (a7 rfl (aQ rfl) (zm rfl (aj rfl (zm rfl (aj rfl (a7 rfl (bJ (dB rfl rfl) (congrArg Value.bool (decide_eq_true (rfl)))) (a7 rfl (aQ rfl) (zm rfl (aj rfl (zmv rfl (aQ rfl) (zm rfl (aj rfl (zm rfl (aj rfl (a7 rfl (bJ (uH rfl rfl) (congrArg Value.bool (decide_eq_true (rfl)))) (a7 rfl (aQ rfl) (zm rfl (aj rfl (zm rfl (aj rfl (a7 rfl (bJ (dB rfl rfl) (congrArg Value.bool (decide_eq_true (rfl)))) (a7 rfl (aQ rfl) (zm rfl (aj rfl (zm rfl (aj rfl (ah rfl C39 ((hS14.len :)) ?_)))))))))))))))))))))))))));rintro _ w15 ⟨rfl,hc15⟩;refine aj rfl ?_;have hS15:=hS14.chg0 hc15;refine a7 rfl (bJ (dB rfl rfl) (congrArg Value.bool (decide_eq_true (rfl)))) (a7 rfl (aQ rfl) (zm rfl (aj rfl (zm rfl (aj rfl (a7 rfl (aA rfl aX) (aj rfl (zm rfl (aj rfl (a7 rfl (aA rfl aX) (aj rfl (a7 rfl (bJ (dB rfl rfl) (congrArg Value.bool (decide_eq_true (by omega)))) ?_))))))))))));refine a7 rfl (aQ rfl) (zm rfl (aj rfl (zm rfl (aj rfl (ah rfl C32 ((hS15.doB (Sl.nil (α:=Wr) _ 0) (by decide) rfl :)) ?_)))));rintro _ w16 ⟨rfl,hc16⟩;refine aj rfl ?_;have hS16:=hS15.chg0 hc16;refine a7 rfl (bJ (dB rfl rfl) (congrArg Value.bool (decide_eq_true (rfl)))) (a7 rfl (aQ rfl) (zm rfl (aj rfl (zm rfl (aj rfl (ah rfl C36 ((hS16.dropN [121] (by decide) rfl (by decide) :)) ?_))))));rintro _ w17 ⟨rfl,rfl⟩;refine aj rfl (a7 rfl (bJ (dB rfl rfl) (congrArg Value.bool (decide_eq_true (rfl)))) (a7 rfl (aQ rfl) (zm rfl (aj rfl (zm rfl (aj rfl (ah rfl C33 ((hS16.snapT [120] (by decide) rfl (by decide) :)) ?_)))))));rintro _ w18 ⟨rfl,rfl⟩;refine aj rfl (a7 rfl (dB rfl rfl) (a7 rfl (aQ rfl) (za rfl (a8 (a6 (zrf ?_))))));exact⟨rfl,hS16.now⟩
def isLt(l:List Wr):Bool:=l.all fun a=>decide (a.k.length<=100/\a.v.length<=200)
def ux:Bs:=List.replicate 150 0
def rD(j:Nat):Bs:=[107,oQ (j:Int)]
def mLz(z:Bs)(j:Nat):List Pr:=(List.range j).map fun a=>(rD a,z)
def mL(j:Nat):List Pr:=mLz ux j
theorem zo(j:Nat):(mL j).length=j:=by unfold mL mLz;rw[df,Bl]
theorem putL1(z:Bs){i:Nat}(hi:i<8):fB (mLz z i) (rD i,z)=mLz z (i+1):=by
 match i,hi with
 | 0, _ | 1, _ | 2, _ | 3, _ | 4, _ | 5, _ | 6, _ | 7, _ => rfl
theorem putL2(z:Bs){k r:Nat}(hk:k<=8)(hr:r<k):fB (mLz z k) (rD r,z)=mLz z k:=by
 match k,hk with
 | 0, _ => omega
 | 1, _ | 2, _ | 3, _ | 4, _ | 5, _ | 6, _ | 7, _ | 8, _ => match r, (by omega : r < 8) with
  | 0, _ | 1, _ | 2, _ | 3, _ | 4, _ | 5, _ | 6, _ | 7, _ => first | omega | rfl
theorem updL{i k:Nat}(h:1<=k/\k<=8):oX (mL (min i k)) [⟨rD (i % k),ux,false⟩]=mL (min (i+1) k):=by
 show fB (mLz ux (min i k)) (rD (i % k),ux)=mLz ux (min (i+1) k);by_cases hi:i<k
 ·rw[fh hi,dR (by omega),dR (by omega)];exact putL1 _ (by omega)
 ·rw[jE (by omega),jE (by omega)];exact putL2 _ h.2 (qz _ (by omega))
theorem zH(w:World)(x0 x1:UInt8) :
  Ret Tryz.prog 9 #[.int .u8 x0.toNat,.int .u8 x1.toNat] w fun v w'=>v=.bool true/\Chg [] w w':=by
 obtain⟨N,hN,hN60⟩:∃m:Nat,(x0 % 60).toNat=m/\m<60:=⟨_,rfl,by rw[yv];exact qz _ (by decide)⟩
 obtain⟨j,hj,hj8⟩:∃m:Nat,(x1 % 8).toNat=m/\m<8:=⟨_,rfl,by rw[yv];exact qz _ (by decide)⟩
 refine enter [4] Tryz.func9 rfl rfl (al rfl) (zSR (za rfl (a8 (a6 (ae (zSR (ah rfl C29 (Cs w) ?_)))))));rintro _ w1 ⟨rfl,hc1⟩;refine a7 rfl (cA rfl) (a8 (a6 (aK (rfl) (zKR (zmv rfl (tZ (b:=8) rfl rfl (by decide)) (a7 rfl (fz rfl uU5 uU3 (by omega)) (a7 rfl (aB rfl rfl (by omega)) (za rfl ?_))))))));refine zNR (zmv rfl (ek rfl rfl (by omega)) (a7 rfl (aB rfl rfl (by omega)) (a7 rfl (ek rfl rfl (by omega)) (a7 rfl (aB rfl rfl (by omega)) ?_))));have hNw:=Ar w w1 (32+8*(4*(j+1)+48)) (by omega) hc1;have e:(((32+8*(4*(j+1)+48):Nat)):Int)=32+8*(4*((j:Int)+1)+48):=by omega
 rw[e] at hNw;rw[hj];refine ah rfl C37 (hNw) ?_;rintro _ w2 ⟨b,kv,r,rfl,hd2,hc2,hF2⟩;refine a7 rfl (jN (List.replicate 32 (0:UInt8)) ([]) (l:=key0) gC I63 rfl I5 (by kernel_rfl) rfl (by kernel_rfl) rfl (by kernel_rfl)) ?_;refine ah rfl C30 (Bd hd2 (by omega) rfl) ?_;rintro _ w3 ⟨F,sv,rfl,hS3,hc3,hG3⟩;refine zm rfl (zx rfl (zx rfl (zaa rfl (a8 (a6 (ae (zSR (zmv rfl (bS rfl rfl) (a8 (a6 (aI rfl (fun h=>h rfl) ?_)))))))))));refine aw (a6 (ae (zSR (za rfl (a8 (a6 (aq (bf [0,5,6,8] (fun q vs w'=>∃(i:Nat) (F:List Nat),vs=[.int .u8 x0.toNat,.int .i64 ((j:Int)+1),sv,.int .i64 i]/\i+q=N/\SS w F w' sv (.pointer (some ⟨b,0,none⟩)) key0 (mL (min i (j+1))) [] (4*(j+1)+48) (4+25*i)) (N) ?_ ?_))))))))
 ·exact⟨0,F,rfl,by omega,hS3⟩
 ·rintro q vs J w4 ⟨i,F4,rfl,hi,hS4⟩;refine ae (zSR (zmm rfl (a7 rfl (tZ (b:=60) rfl rfl (by decide)) (a7 rfl (fz rfl uU5 uU3 (by omega)) (a7 rfl (bL rfl rfl) ?_)))));refine a8 (a6 ?_);rw[hN];refine az rfl (fun hlt=>?_) (fun hlt=>?_)
  ·refine aw (a6 (ae (aq (ae (ae ?_)))));have hob1:∃z,q=z+1:=⟨q-1,by omega⟩
   obtain⟨q,rfl⟩:=hob1;have hF4:=hS4.lt;have hml:=zo (min i (j+1));have hmin:min i (j+1)<=j+1:=Nat.min_le_right _ _;have hpg:sj (mL (min i (j+1))) []<=2*(j+1)+1:=by unfold sj;simp only[nz,List.sum_nil];omega
   have hup:=updL (i:=i) (k:=j+1) (by omega);have hkey:rD (i % (j+1))=[107,oQ ((i:Int) % ((j:Int)+1))]:=rfl;refine aG bz (.pure 0 (.pure 1 (.pure 2 (.pure 3 (.pure 4 (.alt (.eff 5 [] (.read 6 (.eff 7 [6] (.read 8 (.pure 9 (.eff 10 [] (.eff 11 [] (.pure 12 .nil)))))))) (.eff 7 [] (.read 8 (.eff 5 [8] (.read 6 (.pure 9 (.eff 10 [] (.eff 11 [] (.pure 12 .nil)))))))))))))) (by kernel_rfl) ?_;refine ym rfl (ym rfl (ym rfl (yp rfl (fun _=>(jF rfl rfl (by omega))) ?_)));refine yp rfl (fun _=>(fI rfl uU3 uU5)) ?_;have hcum:Chg [] w4 w4:=Chg.refl _;refine en ?_ ?_
   ·refine eC rfl (oW [.int .u8 107,.int .u8 (oQ ((i:Int) % ((j:Int)+1))).toNat] (rD (i % (j+1))) aW I5 rfl rfl rfl rfl rfl rfl (by decide) (by decide)) ?_;rintro _ w5 ⟨⟨b5,o5,c5,rfl⟩,ho5,hc5,hi5⟩;refine⟨trivial,?_⟩;have hcum:=hcum.tr hc5;refine dm rfl rfl rfl (fun w'=>Own w' (.slice (some ⟨b5,o5,none⟩) 2 c5) (rD (i % (j+1)))) (ho5) (fun w1 h1=>lQ aW uU5 uU9 h1.sl rfl) ?_;refine eC rfl (uB 150 150 (0:UInt8) aW I5 rfl rfl rfl (by decide) rfl rfl (by decide) rfl rfl (by omega) (by omega)) ?_;rintro _ w7 ⟨⟨p7,c7,rfl⟩,ho7,hc7,hi7⟩;have hcum:=hcum.tr hc7;have ho5:=ho5.mod0 hc7;refine⟨⟨ho5,trivial⟩,?_⟩;refine dm rfl rfl rfl (fun w'=>Own w' (.slice p7 150 c7) ux) (ho7) (fun w1 h1=>lQ aW uU5 uU9 h1.sl rfl) ?_;refine yp rfl (fun _=>bP pM I66 rfl (zs:=[str [],str [],.bool false]) rfl rfl (bI rfl rfl rfl (al rfl) (bI rfl rfl rfl (al rfl) (dP (cs':=[str (rD (i % (j+1))),str ux,.bool false]) rfl)))) ?_;refine eC rfl (nE (⟨rD (i % (j+1)),ux,false⟩:Wr) wI I66 rfl rfl rfl rfl rfl (by decide)) ?_;rintro _ w6 ⟨l6,rfl,hB6,hn6,hc6,hl6⟩;refine⟨trivial,?_⟩;have k5:=hcum.1;have hS6:=hS4.chg0 (hcum.tr hc6);have hx6:l6∉F4:=fun hh=>by have:=hF4 _ hh;omega
    refine ycl rfl C32 ((hS6.do_ (Blk.sl1 hB6) (fun x hx=>by simp[ax] at hx;subst hx;exact hx6) rfl (by show _+1<=900;omega) (by show _+24*1+1<=40000;omega) (by show _+2*(_+1)+30<=_;omega) :)) ?_;rintro _ w7 ⟨rfl,⟨F7,hS7,hG7⟩,hc7⟩;refine⟨trivial,?_⟩;refine yp rfl (fun _=>(bS rfl rfl)) ?_;refine aJ (a6 (aI rfl (fun h=>h rfl) ?_));refine zKR (zm rfl ?_);rw[hup] at hS7;refine ah rfl C38 ((hS7.pages :)) ?_;rintro v8 w8 ⟨⟨av,bv,la,lb,rfl,hla,hlb,hll,hlp⟩,hc8⟩;have hob2:=hla.sl.form rfl;obtain⟨pa,ca,rfl⟩:=hob2;have hob3:=hlb.sl.form rfl;obtain⟨pb,cb,rfl⟩:=hob3;refine zm rfl (zx rfl (zx rfl (zaa rfl (zNR (zmv rfl (aA rfl aX) (zmv rfl (aA rfl aX) ?_))))));have hml2:=zo (min (i+1) (j+1));have hmin2:min (i+1) (j+1)<=j+1:=Nat.min_le_right _ _;have hpg2:sj (mL (min (i+1) (j+1))) []<=2*(j+1)+1:=by unfold sj;simp only[nz,List.sum_nil];omega
    refine a7 rfl (bJ (bS rfl rfl) (congrArg Value.bool (decide_eq_false (by omega)))) ?_;refine zm rfl (aj rfl (zm rfl (aj rfl (a7 rfl (aA rfl aX) (aj rfl (zm rfl (aj rfl (a7 rfl (ek rfl rfl (by omega)) (aj rfl (a7 rfl (aB rfl rfl (by omega)) (aj rfl (a7 rfl (dt rfl rfl) (a7 rfl (aN rfl) ?_)))))))))))));refine a8 (a6 (aI rfl (by omega) ?_));refine aw (ay (a6 (ag (zmv rfl (aB rfl rfl (by omega)) (za rfl ?_)))));refine a8 (a6 (aS (q) (bx (by omega) ?_)));exact⟨i+1,F7,rfl,by omega,(hS7.chg0 hc8).kle (by show 4+25*i+24*1+1<=_;omega)⟩
   ·refine eC rfl (uB 150 150 (0:UInt8) aW I5 rfl rfl rfl (by decide) rfl rfl (by decide) rfl rfl (by omega) (by omega)) ?_;rintro _ w7 ⟨⟨p7,c7,rfl⟩,ho7,hc7,hi7⟩;refine⟨trivial,?_⟩;have hcum:=hcum.tr hc7;refine dm rfl rfl rfl (fun w'=>Own w' (.slice p7 150 c7) ux) (ho7) (fun w1 h1=>lQ aW uU5 uU9 h1.sl rfl) ?_;refine eC rfl (oW [.int .u8 107,.int .u8 (oQ ((i:Int) % ((j:Int)+1))).toNat] (rD (i % (j+1))) aW I5 rfl rfl rfl rfl rfl rfl (by decide) (by decide)) ?_;rintro _ w5 ⟨⟨b5,o5,c5,rfl⟩,ho5,hc5,hi5⟩;have hcum:=hcum.tr hc5;have ho7:=ho7.mod0 hc5;refine⟨⟨ho7,trivial⟩,?_⟩;refine dm rfl rfl rfl (fun w'=>Own w' (.slice (some ⟨b5,o5,none⟩) 2 c5) (rD (i % (j+1)))) (ho5) (fun w1 h1=>lQ aW uU5 uU9 h1.sl rfl) ?_;refine yp rfl (fun _=>bP pM I66 rfl (zs:=[str [],str [],.bool false]) rfl rfl (bI rfl rfl rfl (al rfl) (bI rfl rfl rfl (al rfl) (dP (cs':=[str (rD (i % (j+1))),str ux,.bool false]) rfl)))) ?_;refine eC rfl (nE (⟨rD (i % (j+1)),ux,false⟩:Wr) wI I66 rfl rfl rfl rfl rfl (by decide)) ?_;rintro _ w6 ⟨l6,rfl,hB6,hn6,hc6,hl6⟩;refine⟨trivial,?_⟩;have k5:=hcum.1;have hS6:=hS4.chg0 (hcum.tr hc6);have hx6:l6∉F4:=fun hh=>by have:=hF4 _ hh;omega
    refine ycl rfl C32 ((hS6.do_ (Blk.sl1 hB6) (fun x hx=>by simp[ax] at hx;subst hx;exact hx6) rfl (by show _+1<=900;omega) (by show _+24*1+1<=40000;omega) (by show _+2*(_+1)+30<=_;omega) :)) ?_;rintro _ w7 ⟨rfl,⟨F7,hS7,hG7⟩,hc7⟩;refine⟨trivial,?_⟩;refine yp rfl (fun _=>(bS rfl rfl)) ?_;refine aJ (a6 (aI rfl (fun h=>h rfl) ?_));refine zKR (zm rfl ?_);rw[hup] at hS7;refine ah rfl C38 ((hS7.pages :)) ?_;rintro v8 w8 ⟨⟨av,bv,la,lb,rfl,hla,hlb,hll,hlp⟩,hc8⟩;have hob4:=hla.sl.form rfl;obtain⟨pa,ca,rfl⟩:=hob4;have hob5:=hlb.sl.form rfl;obtain⟨pb,cb,rfl⟩:=hob5;refine zm rfl (zx rfl (zx rfl (zaa rfl (zNR (zmv rfl (aA rfl aX) (zmv rfl (aA rfl aX) ?_))))));have hml2:=zo (min (i+1) (j+1));have hmin2:min (i+1) (j+1)<=j+1:=Nat.min_le_right _ _;have hpg2:sj (mL (min (i+1) (j+1))) []<=2*(j+1)+1:=by unfold sj;simp only[nz,List.sum_nil];omega
    refine a7 rfl (bJ (bS rfl rfl) (congrArg Value.bool (decide_eq_false (by omega)))) ?_;refine zm rfl (aj rfl (zm rfl (aj rfl (a7 rfl (aA rfl aX) (aj rfl (zm rfl (aj rfl (a7 rfl (ek rfl rfl (by omega)) (aj rfl (a7 rfl (aB rfl rfl (by omega)) (aj rfl (a7 rfl (dt rfl rfl) (a7 rfl (aN rfl) ?_)))))))))))));refine a8 (a6 (aI rfl (by omega) ?_));refine aw (ay (a6 (ag (zmv rfl (aB rfl rfl (by omega)) (za rfl ?_)))));refine a8 (a6 (aS (q) (bx (by omega) ?_)));exact⟨i+1,F7,rfl,by omega,(hS7.chg0 hc8).kle (by show 4+25*i+24*1+1<=_;omega)⟩
  ·refine aO (an (an (aE (a6 (zSR (zm rfl ?_))))));have hiN:i=N:=by omega
   subst hiN;have hml:=zo (min i (j+1));refine ah rfl C39 ((hS4.len :)) ?_;rintro _ w5 ⟨rfl,hc5⟩;refine zmm rfl (a7 rfl (tZ (b:=60) rfl rfl (by decide)) (a7 rfl (fz rfl uU5 uU3 (by omega)) (a7 rfl (kh rfl rfl) (a7 rfl (dB rfl rfl) (za rfl ?_)))));refine a8 (a6 (zrf ?_));rw[hN];exact⟨congrArg Value.bool (decide_eq_true (by rw[hml];omega)),(hS4.chg0 hc5).now⟩
end Go.Proofs.YtpbfapbajmdlkaaGreat
