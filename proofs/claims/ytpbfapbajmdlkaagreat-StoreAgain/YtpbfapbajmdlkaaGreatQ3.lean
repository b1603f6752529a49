/- Opened as often as one likes, by whatever key it was made, it is as it was; made anew it is empty. It holds for every input; there are no conditions. -/
import Derived.Test.YtpbfapbajmdlkaaGreatQ2
import Derived.Test.YtpbfapbajmdlkaaGreatSac1
import Derived.Test.YtpbfapbajmdlkaaGreatSac2
import Derived.RangeFuncGives
import Derived.Maps.AppendAt
import Derived.Sort.MapsRangeIn
import Derived.WalkKit
import Derived.OwnWalkIn
import Derived.TacticsInMore
import Derived.RegionIn
import Derived.LoopNIn
import Derived.LoopIn
namespace Go.Proofs.YtpbfapbajmdlkaaGreat
open Go Go.Sac
set_option maxRecDepth 100000
set_option maxHeartbeats 4000000
theorem CT.some{V:UInt32->Bs}{d:Nat}{ks:List Bs}{ids pg:List UInt32}{m:List Pr}(h:CT V (d+1) (.br ks ids) pg m):m≠[]:=by
 obtain⟨ts,rfl,_,rfl,rfl,h5,h6⟩:=h;cases ts with
 | nil => exact absurd h5.len (by simp [msT])
 | cons t ts => rw [fT]; simp [(h6 t List.mem_cons_self).2]
theorem E4{w:World}{nb:Nat}{p p':Option Addr}{c c':Nat}{ks:List Bs}{ids:List UInt32}(hN:Blk w nb [.bool false,.slice none 0 0,.slice p ks.length c,.slice p' ids.length c'])(hk:Sl w (.slice p ks.length c) ks)(hi:Sl w (.slice p' ids.length c') ids)(h1:∀x∈ay (.slice p ks.length c),x<nb)(h2:∀x∈ay (.slice p' ids.length c'),x<nb):NAt w ⟨nb,.slice none 0 0,.slice p ks.length c,.slice p' ids.length c'⟩ (.br ks ids) :=
 ⟨hN,Sl.nil _ _,hk,hi,λx hx=>by
  have hx:x∈ay (.slice p ks.length c)++ay (.slice p' ids.length c'):=hx;rcases List.mem_append.1 hx with hx|hx
  ·exact Nat.ne_of_lt (h1 x hx)
  ·exact Nat.ne_of_lt (h2 x hx)⟩
def JoinR(c:TC)(xb lo:Nat)(w:World)(e:TE)(v:NV)(d:Nat)(pg:List UInt32)(m:List Pr)(r:Value)(w':World):Prop :=
 ∃e' new out,c.ed xb w' e'/\(∀x∈EF xb e',x∈EF xb e∨w.heap.size<=x)/\Chg (v.b::(c.F++EF xb e)) w w'/\Stp c.n e e' new out/\new.length<=2/\out.length<=1 /\
  ((r=.int .i64 70/\nw c.n e'.s.P)∨(r=.int .i64 0/\∃n' pg' kv iv,CT e'.s.V d n' pg' m/\(pg'++out).Perm (pg++new)/\cnZ n'<=546/\c.has xb e' lo w' ⟨v.b,v.p,kv,iv⟩ n'))
theorem HH(c:TC)(xb:Nat)(w:World)(e:TE)(v u:NV)(lo d:Nat)(K1 K2:List Bs)(A B:List Kd)(i0:UInt32)(ids0:List UInt32)(pg:List UInt32)(m:List Pr)
  (h:c.ed xb w e) (hv:c.has xb e lo w v (.br (K1++K2) (bs A++i0::bs B))) (hu:c.has xb e lo w u (.br [] ids0)) (hf:∀x∈c.F,x<lo)
  (hole:Hole e.s.V (d+1) K1 K2 A B m) (hct:CT e.s.V (d+1) (.br [] ids0) pg m) (_:m≠[]) (hb:brOk (K1++K2) (bs A++i0::bs B))
  (hw:∀x∈pgT A++(pg++pgT B),e.s.P.now.written x=true) (hml:e.made.length<=900) (hgl:e.gone.length<=900) (hk:e.s.k+2<=40000) :
  Ret Tryz.prog 170 #[.pointer (some ⟨xb,0,none⟩),v.ptr,.int .i64 A.length,u.ptr] w (JoinR c xb lo w e v (d+2) (pgT A++(pg++pgT B)) (prT A++(m++prT B))):=by
 have hfew:=hb.few;obtain⟨z,L1,key,L2,C,D,t,hKL,hCl,hkey,hit,htm,htp,hz,hAC,hids,hjoin⟩:=hole.nbr hb.1;obtain⟨iL,iR,hidl,ht1⟩:=hids i0;obtain⟨ny,py,htp2,hcty,hVy,hzy,hfy⟩:=mE hit;cases ny with
 | leaf ps => exact hcty.elim
 | br ky iy =>
 obtain⟨mm,pp,hctj,holej,hpr,hperm⟩:=hjoin [] ids0 pg ky iy py hct hcty htp2;have hAl:A.length<=68:=by have:=hfew.2;simp only[aF,cg,bY] at this;omega
 have hmax:max ((A.length:Int)-1) 0=(C.length:Int):=by
  cases z with
  | true => have q1 := hz.2 rfl; have q2 : A.length = C.length + 0 := hAC; omega
  | false => have q2 : A.length = C.length + 1 := hAC; omega
 obtain⟨b,vp,vk,vi⟩:=v;have hn:=hv.at_;have hB:Blk w b [.bool false,vp,vk,vi]:=hn.blk;have hi:Sl w vi (bs A++i0::bs B):=hn.i;have hkS:Sl w vk (K1++K2):=hn.k;rw[hidl] at hi;rw[hKL] at hkS;have hIl:(bs A++i0::bs B).length=(bs C++iL::iR::bs D).length:=by rw[hidl]
 have hIl2:(bs C++iL::iR::bs D).length=C.length+2+D.length:=by rw[aF,cg,cg,bY,bY];omega
 have hjl:C.length+z.toNat<(bs C++iL::iR::bs D).length:=by have:=Bool.toNat_le z;omega
 have hjg:(bs C++iL::iR::bs D)[C.length+z.toNat]?=some t.1:=by
  rw[<-bY C];cases z with
  | true => have q : iR = t.1 := ht1; rw [fY (by omega), q]; simp
  | false => have q : iL = t.1 := ht1; rw [q]; simp
 obtain⟨pi,ci,rfl⟩:∃p c,vi=.slice p (bs C++iL::iR::bs D).length c:=hi.form rfl;refine enter [8] Tryz.func170 O O (al O) (zSR (za O (zNR (zmv O (bf O O (by omega)) (a7 O (tx O O) (za O ?_))))));refine a6 ?_;rw[hmax];refine zSR (zma O (a6 (lH [10] [10,20,21] (λvs w'=>vs=[.int .i64 (C.length+z.toNat:Nat)]/\w=w') (by kernel_rfl) ?_ ?_)))
 ·refine zSR (zmv O (dy O O) ?_);refine a6 (aA O (λhA=>?_) (λhA=>?_))
  ·refine ae (za O (a6 ?_));refine⟨?_,rfl⟩;have hz1:z=true:=hz.1 (by omega);have q2:A.length=C.length+0:=by rw[hz1] at hAC;exact hAC
   have q3:C.length=0:=by omega
   rw[hz1,q3];rfl
  ·refine zKN ?_;refine⟨?_,rfl⟩;have hz0:z=false:=by cases z with|true=>exact absurd (by have:=hz.2 rfl;omega) hA|false=>rfl
   rw[hz0];rfl
 ·rintro vs J w1 ⟨rfl,rfl⟩;refine aa (zSR (zmm O (zn O O (a7 O (a8 bS O I41 O O) ?_))));refine a7 O (aD aZ O O (hB.c O)) (a7 O (aB O aZ) (a7 O (fC O O) (a6 (aJ O (by omega) ?_))));refine zKR (zmm O (zn O O (a7 O (a8 bS O I41 O O) ?_)));have hwt:∀x∈t.2.1,e.s.P.now.written x=true:=λx hx=>hw x (by have:=htp x hx;rcases List.mem_append.1 this with g|g <;> simp[g])
  refine a7 O (aD aZ O O (hB.c O)) (zm O (bD O (aS (C.length+z.toNat) aZ I25 O (hi) O O (by first|rfl|omega) (hjl)) ?_));rintro _ ⟨bi,oi,rfl,hei,hbi⟩;refine a7 O (aD bu O O (((hi.at hei hjg).c0 O))) (ag O IE (ox c xb w e t.1 (.br ky iy) 0 h (by omega) (hwt _ (by rw[htp2];simp)) hVy (CT.good hcty hzy hfy) (by omega)) ?_);rintro _ w2 ⟨y,e2,rfl,hto2,hst2,hs2,hh2⟩;refine zm O (zx O (zx O (zaa O (a6 (aa (zSR (zm O ?_)))))));have hob1:∃x,x=(bif z then u else y):=⟨_,rfl⟩
  obtain⟨ua,hua⟩:=hob1;have hob2:∃x,x=(bif z then y else u):=⟨_,rfl⟩
  obtain⟨ub,hub⟩:=hob2;refine a7 O (bG (bV O O) (congrArg Value.bool (decide_eq_false (λh=>h O)))) ?_;refine zm O (ah O (zm O (ah O (zn O O (ah O (a7 O (a8 bS O I4 O O) (ah O ?_)))))));have hhy:=hh2.at_;have hBy:Blk w2 y.b [.bool false,y.p,y.k,y.i]:=hhy.blk;refine a7 O (aD uU4 O O (hBy.c O)) (a7 O (aK O) (a6 (aI (rfl) (zKR (zmm O (zaa O (a6 (lH [13,14] [13,14,51,52,53,54] (λvs w'=>vs=[ua.ptr,ub.ptr]/\w2=w') (by kernel_rfl) ?_ ?_))))))))
  ·refine zSR (zmv O (dy O O) ?_);refine a6 (aA O (λhA=>?_) (λhA=>?_))
   ·refine ae (zmm O (zaa O (a6 ?_)));have hz1:z=true:=hz.1 (by omega);subst hz1;have hua:ua=u:=hua;have hub:ub=y:=hub;rw[hua,hub];exact⟨rfl,rfl⟩
   ·refine zKN ?_;have hz0:z=false:=by cases z with|true=>exact absurd (by have:=hz.2 rfl;omega) hA|false=>rfl
    subst hz0;have hua:ua=y:=hua;have hub:ub=u:=hub;rw[hua,hub];exact⟨rfl,rfl⟩
  ·rintro vs J w3 ⟨rfl,rfl⟩;have hlo:lo<=w.heap.size:=by
    have h1:=(hv.new b (by simp[NV.F])).1;have h2:=hB.lt;omega
   have hv2:=hv.step hto2 hf;have hu2:=hu.step hto2 hf;have hy2:=hh2.lo hlo;have hi2':=hv2.at_.i;have hob3:∃x,x=(bif z then ([]:List Bs) else ky):=⟨_,rfl⟩
   obtain⟨ka,hka⟩:=hob3;have hob4:∃x,x=(bif z then ky else ([]:List Bs)):=⟨_,rfl⟩
   obtain⟨kb,hkb⟩:=hob4;have hob5:∃x,x=(bif z then ids0 else iy):=⟨_,rfl⟩
   obtain⟨ia,hia⟩:=hob5;have hob6:∃x,x=(bif z then iy else ids0):=⟨_,rfl⟩
   obtain⟨ib,hib⟩:=hob6;rw[<-hka,<-hkb,<-hia,<-hib] at hctj;have hA2:c.has xb e2 lo w2 ua (.br ka ia):=by subst hua;subst hka;subst hia;cases z;exact hy2;exact hu2
   have hB2:c.has xb e2 lo w2 ub (.br kb ib):=by subst hub;subst hkb;subst hib;cases z;exact hu2;exact hy2
   have hsz:cnZ (.br (ka++key::kb) (ia++ib))<=546:=by
    have hob7:=hct.lone;obtain⟨d',id,_,q,_⟩:=hob7;have q1:3+4*iy.length+dj ky<=480:=hzy;have q2:=hkey.2;show 3+4*(ia++ib).length+dj (ka++key::kb)<=546;rw[aF,iG,jK];subst hia;subst hib;subst hka;subst hkb;subst q;cases z <;> simp[dj] at q1 ⊢ <;> omega
   have hBv:Blk w2 b [.bool false,vp,vk,.slice pi (bs C++iL::iR::bs D).length ci]:=hv2.at_.blk;have hk2:=hv2.at_.k;have hk2:Sl w2 vk (K1++K2):=hk2;rw[hKL] at hk2;obtain⟨ab,ap,ak,ai⟩:=ua;obtain⟨bb,bp,bk,bi⟩:=ub;have hBa:Blk w2 ab [.bool false,ap,ak,ai]:=hA2.at_.blk;have hBb:Blk w2 bb [.bool false,bp,bk,bi]:=hB2.at_.blk;have hak:Sl w2 ak ka:=hA2.at_.k;have hbk:Sl w2 bk kb:=hB2.at_.k;have hai:Sl w2 ai ia:=hA2.at_.i;have hbi2:Sl w2 bi ib:=hB2.at_.i;have hob8:∃p c,ak=.slice p ka.length c:=hak.form rfl;obtain⟨pak,cak,rfl⟩:=hob8;have hob9:∃p c,bk=.slice p kb.length c:=hbk.form rfl;obtain⟨pbk,cbk,rfl⟩:=hob9;have hob10:∃p c,ai=.slice p ia.length c:=hai.form rfl;obtain⟨pai,cai,rfl⟩:=hob10;have hob11:∃p c,bi=.slice p ib.length c:=hbi2.form rfl;obtain⟨pbi,cbi,rfl⟩:=hob11;have hlk:(ka++key::kb).length<=300/\(ia++ib).length<=300:=by
    have q1:=sX (ka++key::kb);have q:3+4*(ia++ib).length+dj (ka++key::kb)<=546:=hsz;omega
   have hfS:[ka,[key],kb].flatten=ka++key::kb:=by simp
   have hfU:[ia,ib].flatten=ia++ib:=by simp
   refine lH [15] [15,55,56,57,58,59,60,61,62,63,64,65,66,67,68,69,70,71,72,73,74,75,76,77,78,79,80,81,82,83,84] (λvs w'=>∃q:NV,vs=[q.ptr]/\NAt w' q (.br (ka++key::kb) (ia++ib))/\(∀x∈q.F,w2.heap.size<=x)/\Chg [] w2 w') (by kernel_rfl) ?_ ?_
   ·refine aH bx (.pure 0 (.pure 1 (.pure 2 (.read 3 (.pure 4 (.pure 5 (.pure 6 (.read 7 (.pure 8 (.pure 9 (.pure 10 (.pure 11 (.pure 12 (.pure 13 (.pure 14 (.read 15 (.pure 18 (.pure 19 (.pure 20 (.read 21 (.pure 22 (.pure 23 (.pure 24 (.read 25 (.alt (.eff 16 [21,25] (.alt (.eff 17 [21,25] (.eff 26 [3,7,15] (.eff 27 [] (.pure 28 (.eff 29 [] (.pure 30 .nil)))))) (.eff 26 [3,7,15] (.eff 17 [21,25] (.eff 27 [] (.pure 28 (.eff 29 [] (.pure 30 .nil)))))))) (.eff 26 [3,7,15] (.eff 16 [21,25] (.eff 17 [21,25] (.eff 27 [] (.pure 28 (.eff 29 [] (.pure 30 .nil)))))))))))))))))))))))))))))))) (by kernel_rfl) ?_;refine ym O (yn O (yp O (λ_=>(a8 bS O I70 O O)) ?_));refine aG O O O cO O O (hBa.c O) (ym O (yn O (yp O (λ_=>(a8 bS O I70 O O)) ?_)));refine aG O O O cO O O (hBv.c O) (ym O (ym O (yp O (λ_=>(aC O O (by omega))) ?_)));refine yex O (uY C.length (C.length+1) cO I9 O hk2 O O O O O (by rw[aF,cg];omega)) ?_;rintro vm ⟨hvm,hsm,hbm⟩;refine ym O (yn O (yp O (λ_=>(a8 bS O I70 O O)) ?_));have hmid:((L1++key::L2).drop C.length).take (C.length+1-C.length)=[key]:=by rw[hCl];simp
    rw[hmid] at hsm;obtain⟨pm,cm,rfl⟩:=hvm;refine aG O O O cO O O (hBb.c O) (ym O (yn O (yp O (λ_=>(a8 bS O I41 O O)) ?_)));refine aG O O O aZ O O (hBa.c O) (ym O (yn O (yp O (λ_=>(a8 bS O I41 O O)) ?_)));refine aG O O O aZ O O (hBb.c O) ?_;have hcum:=drw w2;have hlsS:∀w':World,Chg [] w2 w'->∀(i:Nat) (s:j8) (l:List Bs),[(⟨.slice pak ka.length cak,_,_,_,rfl⟩:j8),⟨.slice pm (C.length+1-C.length) cm,_,_,_,rfl⟩,⟨.slice pbk kb.length cbk,_,_,_,rfl⟩][i]?=some s->[ka,[key],kb][i]?=some l->Sl w' s.1 l:=λw' hc i s l h1 h2=>by
     match i,h1,h2 with
     | 0, h1, h2 => cases h1; cases h2; exact hak.mod0 hc
     | 1, h1, h2 => cases h1; cases h2; exact hsm.mod0 hc
     | 2, h1, h2 => cases h1; cases h2; exact hbk.mod0 hc
     | n + 3, h1, _ => simp at h1
    have hlsU:∀w':World,Chg [] w2 w'->∀(i:Nat) (s:j8) (l:List UInt32),[(⟨.slice pai ia.length cai,_,_,_,rfl⟩:j8),⟨.slice pbi ib.length cbi,_,_,_,rfl⟩][i]?=some s->[ia,ib][i]?=some l->Sl w' s.1 l:=λw' hc i s l h1 h2=>by
     match i,h1,h2 with
     | 0, h1, h2 => cases h1; cases h2; exact hai.mod0 hc
     | 1, h1, h2 => cases h1; cases h2; exact hbi2.mod0 hc
     | n + 2, h1, _ => simp at h1
    refine eK ?_ ?_
    ·refine fj O (zl [.slice pak ka.length cak,.slice pm (C.length+1-C.length) cm,.slice pbk kb.length cbk] [(⟨.slice pak ka.length cak,_,_,_,rfl⟩:j8),⟨.slice pm (C.length+1-C.length) cm,_,_,_,rfl⟩,⟨.slice pbk kb.length cbk,_,_,_,rfl⟩] xV I70 O O O O O O (by decide)) ?_;rintro v16 wq16 ⟨hoL,hc16,hiL⟩;have hcum:=hcum.tr hc16;refine⟨⟨(hBa.chg0 hcum).c rfl,(hBb.chg0 hcum).c rfl,trivial⟩,?_⟩;refine eK ?_ ?_
     ·refine ycl O C212 (qE _ v16 _ [ka,[key],kb] hoL.sl O (hlsS _ hcum) (by rw[hfS];omega) (al O)) ?_;rintro v17 wq17 ⟨hoK,hiK,hc17⟩;have hiK:∀x∈ay v17,w2.heap.size<=x:=λx hx=>bw hcum.1 (hiK.ge x hx);rw[hfS] at hoK;have hcum:=hcum.tr hc17;have hoL:=hoL.mod0 hc17;refine⟨⟨(hBa.chg0 hcum).c rfl,(hBb.chg0 hcum).c rfl,trivial⟩,?_⟩;refine fj O (zl [.slice pai ia.length cai,.slice pbi ib.length cbi] [(⟨.slice pai ia.length cai,_,_,_,rfl⟩:j8),⟨.slice pbi ib.length cbi,_,_,_,rfl⟩] vw I41 O O O O O O (by decide)) ?_;rintro v26 wq26 ⟨hoM,hc26,hiM⟩;have hcum:=hcum.tr hc26;have hoL:=hoL.mod0 hc26;have hoK:=hoK.mod0 hc26;refine⟨⟨(hBa.chg0 hcum).c rfl,(hBv.chg0 hcum).c rfl,(hBb.chg0 hcum).c rfl,trivial⟩,?_⟩;refine ycl O C213 (qD _ v26 _ [ia,ib] hoM.sl O (hlsU _ hcum) (by rw[hfU];omega) (al O)) ?_;rintro v27 wq27 ⟨hoU,hiU,hc27⟩;refine⟨trivial,?_⟩;have hiU:∀x∈ay v27,w2.heap.size<=x:=λx hx=>bw hcum.1 (hiU.ge x hx);rw[hfU] at hoU;have hcum:=hcum.tr hc27;have hoL:=hoL.mod0 hc27;have hoK:=hoK.mod0 hc27;have hoM:=hoM.mod0 hc27;have hob12:=hoK.sl.form rfl;obtain⟨p17,c17,rfl⟩:=hob12;have hob13:=hoU.sl.form rfl;obtain⟨p27,c27,rfl⟩:=hob13;refine yp O (λ_=>bW bS x7 O (zs:=[.bool false,.slice none 0 0,.slice none 0 0,.slice none 0 0]) O O (bR O O O (al O) (bR O O O (al O) (eb (cs':=[.bool false,.slice none 0 0,.slice p17 (ka++key::kb).length c17,.slice p27 (ia++ib).length c27]) O)))) ?_;refine fj O (cZ (l:=[.bool false,.slice none 0 0,.slice p17 (ka++key::kb).length c17,.slice p27 (ia++ib).length c27]) O O) ?_;rintro _ wq29 ⟨nb,rfl,hnt,hN,hc29,hl29⟩;refine⟨trivial,?_⟩;refine ya O (az ?_);have kcum:=hcum.1;have hltK:=hoK.sl.lt;have hltU:=hoU.sl.lt;have hoL:=hoL.mod0 hc29;have hoK:=hoK.mod0 hc29;have hoM:=hoM.mod0 hc29;have hoU:=hoU.mod0 hc29;exact⟨⟨nb,.slice none 0 0,.slice p17 (ka++key::kb).length c17,.slice p27 (ia++ib).length c27⟩,rfl,E4 hN hoK.sl hoU.sl (λx hx=>iz (hltK x hx) hnt) (λx hx=>iz (hltU x hx) hnt),λx hx=>by
       have hx:x∈nb::(ay (.slice p17 (ka++key::kb).length c17)++ay (.slice p27 (ia++ib).length c27)):=hx;rcases List.mem_cons.1 hx with rfl|hx
       ·omega
       ·rcases List.mem_append.1 hx with hx|hx
        ·exact hiK x hx
        ·exact hiU x hx,hcum.tr hc29⟩
     ·refine fj O (zl [.slice pai ia.length cai,.slice pbi ib.length cbi] [(⟨.slice pai ia.length cai,_,_,_,rfl⟩:j8),⟨.slice pbi ib.length cbi,_,_,_,rfl⟩] vw I41 O O O O O O (by decide)) ?_;rintro v26 wq26 ⟨hoM,hc26,hiM⟩;have hcum:=hcum.tr hc26;have hoL:=hoL.mod0 hc26;refine⟨⟨(hBa.chg0 hcum).c rfl,(hBv.chg0 hcum).c rfl,(hBb.chg0 hcum).c rfl,trivial⟩,?_⟩;refine ycl O C212 (qE _ v16 _ [ka,[key],kb] hoL.sl O (hlsS _ hcum) (by rw[hfS];omega) (al O)) ?_;rintro v17 wq17 ⟨hoK,hiK,hc17⟩;have hiK:∀x∈ay v17,w2.heap.size<=x:=λx hx=>bw hcum.1 (hiK.ge x hx);rw[hfS] at hoK;have hcum:=hcum.tr hc17;have hoL:=hoL.mod0 hc17;have hoM:=hoM.mod0 hc17;refine⟨⟨(hBa.chg0 hcum).c rfl,(hBb.chg0 hcum).c rfl,trivial⟩,?_⟩;refine ycl O C213 (qD _ v26 _ [ia,ib] hoM.sl O (hlsU _ hcum) (by rw[hfU];omega) (al O)) ?_;rintro v27 wq27 ⟨hoU,hiU,hc27⟩;refine⟨trivial,?_⟩;have hiU:∀x∈ay v27,w2.heap.size<=x:=λx hx=>bw hcum.1 (hiU.ge x hx);rw[hfU] at hoU;have hcum:=hcum.tr hc27;have hoL:=hoL.mod0 hc27;have hoM:=hoM.mod0 hc27;have hoK:=hoK.mod0 hc27;have hob14:=hoK.sl.form rfl;obtain⟨p17,c17,rfl⟩:=hob14;have hob15:=hoU.sl.form rfl;obtain⟨p27,c27,rfl⟩:=hob15;refine yp O (λ_=>bW bS x7 O (zs:=[.bool false,.slice none 0 0,.slice none 0 0,.slice none 0 0]) O O (bR O O O (al O) (bR O O O (al O) (eb (cs':=[.bool false,.slice none 0 0,.slice p17 (ka++key::kb).length c17,.slice p27 (ia++ib).length c27]) O)))) ?_;refine fj O (cZ (l:=[.bool false,.slice none 0 0,.slice p17 (ka++key::kb).length c17,.slice p27 (ia++ib).length c27]) O O) ?_;rintro _ wq29 ⟨nb,rfl,hnt,hN,hc29,hl29⟩;refine⟨trivial,?_⟩;refine ya O (az ?_);have kcum:=hcum.1;have hltK:=hoK.sl.lt;have hltU:=hoU.sl.lt;have hoL:=hoL.mod0 hc29;have hoM:=hoM.mod0 hc29;have hoK:=hoK.mod0 hc29;have hoU:=hoU.mod0 hc29;exact⟨⟨nb,.slice none 0 0,.slice p17 (ka++key::kb).length c17,.slice p27 (ia++ib).length c27⟩,rfl,E4 hN hoK.sl hoU.sl (λx hx=>iz (hltK x hx) hnt) (λx hx=>iz (hltU x hx) hnt),λx hx=>by
       have hx:x∈nb::(ay (.slice p17 (ka++key::kb).length c17)++ay (.slice p27 (ia++ib).length c27)):=hx;rcases List.mem_cons.1 hx with rfl|hx
       ·omega
       ·rcases List.mem_append.1 hx with hx|hx
        ·exact hiK x hx
        ·exact hiU x hx,hcum.tr hc29⟩
    ·refine fj O (zl [.slice pai ia.length cai,.slice pbi ib.length cbi] [(⟨.slice pai ia.length cai,_,_,_,rfl⟩:j8),⟨.slice pbi ib.length cbi,_,_,_,rfl⟩] vw I41 O O O O O O (by decide)) ?_;rintro v26 wq26 ⟨hoM,hc26,hiM⟩;have hcum:=hcum.tr hc26;refine⟨⟨(hBa.chg0 hcum).c rfl,(hBv.chg0 hcum).c rfl,(hBb.chg0 hcum).c rfl,trivial⟩,?_⟩;refine fj O (zl [.slice pak ka.length cak,.slice pm (C.length+1-C.length) cm,.slice pbk kb.length cbk] [(⟨.slice pak ka.length cak,_,_,_,rfl⟩:j8),⟨.slice pm (C.length+1-C.length) cm,_,_,_,rfl⟩,⟨.slice pbk kb.length cbk,_,_,_,rfl⟩] xV I70 O O O O O O (by decide)) ?_;rintro v16 wq16 ⟨hoL,hc16,hiL⟩;have hcum:=hcum.tr hc16;have hoM:=hoM.mod0 hc16;refine⟨⟨(hBa.chg0 hcum).c rfl,(hBb.chg0 hcum).c rfl,trivial⟩,?_⟩;refine ycl O C212 (qE _ v16 _ [ka,[key],kb] hoL.sl O (hlsS _ hcum) (by rw[hfS];omega) (al O)) ?_;rintro v17 wq17 ⟨hoK,hiK,hc17⟩;have hiK:∀x∈ay v17,w2.heap.size<=x:=λx hx=>bw hcum.1 (hiK.ge x hx);rw[hfS] at hoK;have hcum:=hcum.tr hc17;have hoM:=hoM.mod0 hc17;have hoL:=hoL.mod0 hc17;refine⟨⟨(hBa.chg0 hcum).c rfl,(hBb.chg0 hcum).c rfl,trivial⟩,?_⟩;refine ycl O C213 (qD _ v26 _ [ia,ib] hoM.sl O (hlsU _ hcum) (by rw[hfU];omega) (al O)) ?_;rintro v27 wq27 ⟨hoU,hiU,hc27⟩;refine⟨trivial,?_⟩;have hiU:∀x∈ay v27,w2.heap.size<=x:=λx hx=>bw hcum.1 (hiU.ge x hx);rw[hfU] at hoU;have hcum:=hcum.tr hc27;have hoM:=hoM.mod0 hc27;have hoL:=hoL.mod0 hc27;have hoK:=hoK.mod0 hc27;have hob16:=hoK.sl.form rfl;obtain⟨p17,c17,rfl⟩:=hob16;have hob17:=hoU.sl.form rfl;obtain⟨p27,c27,rfl⟩:=hob17;refine yp O (λ_=>bW bS x7 O (zs:=[.bool false,.slice none 0 0,.slice none 0 0,.slice none 0 0]) O O (bR O O O (al O) (bR O O O (al O) (eb (cs':=[.bool false,.slice none 0 0,.slice p17 (ka++key::kb).length c17,.slice p27 (ia++ib).length c27]) O)))) ?_;refine fj O (cZ (l:=[.bool false,.slice none 0 0,.slice p17 (ka++key::kb).length c17,.slice p27 (ia++ib).length c27]) O O) ?_;rintro _ wq29 ⟨nb,rfl,hnt,hN,hc29,hl29⟩;refine⟨trivial,?_⟩;refine ya O (az ?_);have kcum:=hcum.1;have hltK:=hoK.sl.lt;have hltU:=hoU.sl.lt;have hoM:=hoM.mod0 hc29;have hoL:=hoL.mod0 hc29;have hoK:=hoK.mod0 hc29;have hoU:=hoU.mod0 hc29;exact⟨⟨nb,.slice none 0 0,.slice p17 (ka++key::kb).length c17,.slice p27 (ia++ib).length c27⟩,rfl,E4 hN hoK.sl hoU.sl (λx hx=>iz (hltK x hx) hnt) (λx hx=>iz (hltU x hx) hnt),λx hx=>by
      have hx:x∈nb::(ay (.slice p17 (ka++key::kb).length c17)++ay (.slice p27 (ia++ib).length c27)):=hx;rcases List.mem_cons.1 hx with rfl|hx
      ·omega
      ·rcases List.mem_append.1 hx with hx|hx
       ·exact hiK x hx
       ·exact hiU x hx,hcum.tr hc29⟩
   ·rintro vs J w4 ⟨q,rfl,hq4,hqn,hc4⟩;refine zSR (zmm O (a7 O (aC O O (by omega)) ?_));have k2:=hto2.chg.1;have k4:=hc4.1;have hn4:=hv2.at_.chg0 hc4;have hn4:NAt w4 ⟨b,vp,vk,.slice pi (bs C++iL::iR::bs D).length ci⟩ (.br (K1++K2) (bs A++i0::bs B)):=hn4;rw[hKL,hidl] at hn4;have hl1:(L1++key::L2).length=C.length+1+L2.length:=by rw[aF,cg,hCl];omega
    have hIK:(bs C++iL::iR::bs D).length=(L1++key::L2).length+1:=by rw[<-hIl,<-hKL];exact hb.2.1
    refine ag O C169 (vo w4 ⟨b,vp,vk,.slice pi (bs C++iL::iR::bs D).length ci⟩ (L1++key::L2) (bs C++iL::iR::bs D) (C.length+1) hn4 (by omega) hIK (by omega) (by rw[<-hIl];have:=hfew.2;omega)) ?_;rintro _ w5 ⟨⟨kv,iv,hn5,hnew5⟩,hc5⟩;refine zNR (zmm O (zmm O ?_));have e1:(L1++key::L2).take (C.length+1-1)++(L1++key::L2).drop (C.length+1-1+1)=L1++L2:=by
     rw[Nat.add_sub_cancel,hCl,cP rfl,oh]
    have e2':(bs C++iL::iR::bs D).take (C.length+1)++(bs C++iL::iR::bs D).drop (C.length+1+1)=bs C++iL::bs D:=by
     rw[<-bY C,AX,show bs C++iL::iR::bs D=(bs C++[iL])++iR::bs D by simp,show(bs C).length+1+1=(bs C++[iL]).length+1 by simp,oh];simp
    rw[e1,e2'] at hn5;have k5:=hc5.1;have h2:=hto2.at_;have hlt2:=h2.lt;have hbF:b∉c.F++EF xb e2:=hv2.far hf b (by simp[NV.F]);have hlob:=(hv2.new b (by simp[NV.F])).1;have hw0:=h.w0lo hf;have h5:c.ed xb w5 e2:=(h2.chg0 hc4).chg hc5 (λx hx hh=>by simp at hh;subst hh;exact hbF hx) (λx hx=>by simp at hx;subst hx;omega);have hv5:c.has xb e2 lo w5 ⟨b,vp,kv,iv⟩ (.br (L1++L2) (bs C++iL::bs D)):=⟨hn5,λx hx=>by
     have hx:x∈b::(ay vp++(ay kv++ay iv)):=hx;rcases List.mem_cons.1 hx with rfl|hx
     ·exact hv2.new _ (by simp[NV.F])
     ·rcases List.mem_append.1 hx with hx|hx
      ·exact hv2.new x (by simp[NV.F,hx])
      ·have:=hnew5 x hx
       exact⟨by omega,λhh=>by have:=hlt2 x (cf _ hh);omega⟩⟩
    have hBlt:=hBv.lt;have hq5:c.has xb e2 lo w5 q (.br (ka++key::kb) (ia++ib)):=⟨hq4.chg hc5 (λx hx hh=>by have hh:x∈[b]:=hh;simp at hh;have:=hqn x hx;omega),λx hx=>by
     have:=hqn x hx
     exact⟨by omega,λhh=>by have:=hlt2 x (cf _ hh);omega⟩⟩
    have hml2:e2.made.length<=900:=by rw[hst2.made,cE];exact hml
    have hk2':e2.s.k+2<=40000:=by rw[hs2];exact hk
    have hw5:∀x∈pgT C++(pp++pgT D),e2.s.P.now.written x=true:=λx hx=>by rw[hs2];exact hw x (hperm.subset (cL _ hx))
    have hl5:(bs C++iL::bs D).length<=10000:=by rw[aF,cg,bY,bY];have:=hfew.2;omega
    have hzz:=yH L1 L2 (bs C) (bs D) iL iL iR key;have hbz:=hb.2.2.2;rw[hKL,hidl,hzz] at hbz;refine ag O C156 (n1 c xb w5 e2 ⟨b,vp,kv,iv⟩ q lo (d+1) L1 L2 C D iL (.br (ka++key::kb) (ia++ib)) pp mm h5 hv5 hq5 hf (by rw[hs2];exact holej) (by rw[hs2];exact hctj) (CT.some hctj) (by simp[jM]) (hctj.ok (.inl hsz)) hw5 hml2 hk2' hl5) ?_;rintro v6 w6 ⟨e6,new,h6,hgr6,hc6,hst6,hr6⟩;refine za O (a6 (zrf ?_));have hst:=hst2.trans hst6;rw[dG,cE] at hst;have hgrow:∀x∈EF xb e6,x∈EF xb e∨w.heap.size<=x:=λx hx=>by
     rcases hgr6 x hx with g|g
     ·exact hto2.grow x g
     ·exact .inr (by omega)
    have hchg:Chg (b::(c.F++EF xb e)) w w6:=(((hto2.chg.mono (λx hx _=>bN _ hx)).tr0 hc4).tr (hc5.mono (λx hx _=>by have hx:x∈[b]:=hx;simp at hx;subst hx;exact cM))).trans hc6 (λ_ hx _=>hx) (λx hx hl=>by
     rcases List.mem_cons.1 hx with g|g
     ·exact List.mem_cons.2 (.inl g)
     ·rcases List.mem_append.1 g with g|g
      ·exact bN _ (cL _ g)
      ·rcases hto2.grow x g with g|g
       ·exact bN _ (cf _ g)
       ·omega)
    rcases hr6 with⟨rfl,hno,hnl⟩|⟨rfl,hnl,n',pg',kv',iv',hct',hpm',hz',_,hhas'⟩
    ·exact⟨e6,new,[t.1],h6,hgrow,hchg,hst,by omega,aM _,.inl ⟨rfl,hno⟩⟩
    ·refine⟨e6,new,[t.1],h6,hgrow,hchg,hst,hnl,aM _,.inr ⟨rfl,n',pg',kv',iv',by rw[<-hpr];exact hct',?_,?_,hhas'⟩⟩
     ·rw[oK] at hperm hpm' ⊢;intro x;have q1:=hperm x;have q2:=hpm' x;simp only[sD,uQ,uP] at q1 q2 ⊢;omega
     ·have hz':cnZ n'<=brZ (L1++L2) (bs C++iL::bs D)+66:=hz';omega
theorem brZ_out(ks:List Bs)(ids:List UInt32)(a b:Nat):brZ (ks.take a++ks.drop (a+1)) (ids.take b++ids.drop (b+1))<=brZ ks ids:=by
 have h1:=jJ ks a;have h2:=jJ (ks.drop a) 1;rw[gC] at h2;show 3+4*(ids.take b++ids.drop (b+1)).length+dj (ks.take a++ks.drop (a+1))<=3+4*ids.length+dj ks;rw[iG,aF,bz,bE];omega
theorem Hole.out{V:UInt32->Bs}{d:Nat}{K1 K2:List Bs}{A B:List Kd}{m:List Pr}(h:Hole V d K1 K2 A B m)(i0:UInt32)(hne:K1++K2≠[]):CT V (d+1) (.br ((K1++K2).take (A.length-1)++(K1++K2).drop (A.length-1+1)) ((bs A++i0::bs B).take A.length++(bs A++i0::bs B).drop (A.length+1))) (pgT A++pgT B) (prT A++prT B):=by
 have h0:Hole V d K1 K2 A B []:=h.sub (λp hp=>by simp at hp);have hl:=h0.la;have e1:(bs A++i0::bs B).take A.length++(bs A++i0::bs B).drop (A.length+1)=bs A++bs B:=by
  rw[<-bY A,oh,cP rfl]
 rw[e1];cases hK:K1 with
 | nil =>
  subst hK;have hA:A=[]:=List.length_eq_zero_iff.1 hl;subst hA;cases K2 with
  | nil => exact absurd rfl hne
  | cons k K2 =>
   have:=h0.gone0
   simpa [bs,pgT,prT] using this
 | cons a l =>
  obtain⟨L,k,rfl⟩:∃L k,K1=L++[k]:=⟨K1.dropLast,K1.getLast (by rw[hK];simp),(yY _).symm⟩
  rw[<-hK,hl];have e2:((L++[k])++K2).take ((L++[k]).length-1)++((L++[k])++K2).drop ((L++[k]).length-1+1)=L++K2:=by
   rw[aF,gB,Nat.add_sub_cancel,bP,cP rfl,gV,oh]
  rw[e2];exact h0.gone
theorem CT.rich{V:UInt32->Bs}:∀{d:Nat} {n:Cn} {pg:List UInt32} {m:List Pr},CT V d n pg m->pG n=false->m≠[]/\jM n
 | 0, .leaf ps, _, _, ⟨h, _, _⟩, hp => ⟨λe => by subst e; subst h; simp [pG] at hp, trivial⟩
 | 0, .br _ _, _, _, h, _ => h.elim
 | _ + 1, .leaf _, _, _, h, _ => h.elim
 | _ + 1, .br ks ids, _, _, h, hp => by
  refine⟨CT.some h,λe=>?_⟩;subst e;obtain⟨_,id,_,q,_⟩:=h.lone;subst q;simp[pG] at hp
theorem CT.poor{V:UInt32->Bs}:∀{d:Nat} {n:Cn} {pg:List UInt32} {m:List Pr},CT V d n pg m->pG n=true->(n=.leaf []/\m=[]/\pg=[])∨∃d' ids,d=d'+1/\n=.br [] ids/\m≠[]
 | 0, .leaf ps, _, _, ⟨h, h2, _⟩, hp => .inl ⟨by cases ps with | nil => rfl | cons => simp [pG] at hp, by cases ps with | nil => exact h.symm | cons => simp [pG] at hp, h2⟩
 | 0, .br _ _, _, _, h, _ => h.elim
 | _ + 1, .leaf _, _, _, h, _ => h.elim
 | d + 1, .br ks ids, _, _, h, hp => .inr ⟨d, ids, rfl, by
   have hm:=CT.some h;obtain⟨ts,rfl,_,_,_,h5,_⟩:=h
   have:=h5.len
   rw[msT,dr] at this;cases ks with
   | nil => rfl
   | cons k ks => simp [pG, bY] at hp; simp at this; omega, CT.some h⟩
theorem drop_ok(c:TC)(xb:Nat)(key:Bs):∀(d:Nat) (w:World) (e:TE) (id:UInt32) (pg:List UInt32) (m:List Pr) (deep:Nat),c.ed xb w e->isT e.s.V d id pg m->(∀x∈pg,e.s.P.now.written x=true)->deep+d<=40->e.made.length+2*d<=900->e.gone.length+2*d<=900->e.s.k+2*d<=40000 ->
  Ret Tryz.prog 110 #[.pointer (some ⟨xb,0,none⟩),.int .u32 id.toNat,str key,.int .i64 deep] w λr w'=>∃e' new out,c.to xb w w' e e'/\Stp c.n e e' new out/\new.length<=2*d/\out.length<=2*d+1 /\
   ((∃q,r=.tuple #[q,.bool true,.int .i64 70]/\fA m key=true/\nw c.n e'.s.P)∨(∃q,r=.tuple #[q,.bool false,.int .i64 0]/\fA m key=false/\new=[]) ∨
    ∃v n' pg',r=.tuple #[v.ptr,.bool true,.int .i64 0]/\fA m key=true/\c.has xb e' w.heap.size w' v n'/\CT e'.s.V d n' pg' (kz m key)/\(pg'++out).Perm (pg++new)/\wN n'):=by
 intro d
 induction d with
 | zero =>
  intro w e id pg m deep h ht hw hd hml hgl hk;obtain⟨rfl,hlf,hV⟩:=ht;have hps:=hlf.1;have hsz:cT m<=480:=hlf.2;have hll:=hlf.few;refine enter [8,9,10] Tryz.func110 O O (al O) (zSR (zaa O (za O (zNR (zmm O (zm O (ag O IE (ox c xb w e id (.leaf m) deep h (by omega) (hw id (by simp)) hV hlf (by omega)) ?_)))))));rintro _ w2 ⟨v,e2,rfl,hto2,hst2,hs2,hh2⟩;refine zm O (zx O (zx O (zaa O (a6 (aa (zSR (zmv O (bV O O) (a6 (aJ O (λh=>h O) ?_)))))))));refine zKN (aa (zSR (zm O (zn O O (a7 O (a8 bS O I4 O O) ?_)))));have h2:=hto2.at_;have hlt2:=h2.lt;have k2:=hto2.chg.1;have hn2:=hh2.at_;have hnew2:=hh2.new;obtain⟨vb,vp,vk,vi⟩:=v;have hB2:Blk w2 vb [.bool true,vp,vk,vi]:=hn2.blk;have hp2:Sl w2 vp m:=hn2.p;have hvb:vb∉c.F++EF xb e2:=λhh=>by
   rcases List.mem_append.1 hh with hh|hh
   ·have:=h.pg.lt vb hh;have:=(hnew2 vb (by simp[NV.F])).1;omega
   ·exact(hnew2 vb (by simp[NV.F])).2 hh
  refine a7 O (aD uU4 O O (hB2.c O)) (a6 (aW (rfl) (zSR (zmm O (ag O C61 (A2 w2 ⟨vb,vp,vk,vi⟩ m key hn2 hps.2 (by omega)) ?_)))));rintro _ w3 ⟨rfl,hc3⟩;refine zm O (zx O (zx O (zaa O (a6 (aa (zSR (zm O (a6 ?_))))))));have hB3:=hB2.chg0 hc3;have hw0:c.w0.heap.size<=w.heap.size:=h.pg.1.2.1.1;have hnv:=(hnew2 vb (by simp[NV.F])).1;have hbl2:=hB2.lt;cases hhas:fA m key with
  | true =>
   have hpl:=iH hhas
   skip
   refine aW (rfl) ?_;refine ae (zmm O (zn O O (a7 O (a8 bS O I33 O O) ?_)));refine a7 O (aD df O O (hB3.c O)) (ag O C154 (xa w3 vp m (hp2.mod0 hc3) (by omega)) ?_);rintro v4 w4 ⟨ho4,hi4,hc4⟩;refine zmm O (a7 O (aC O O (by omega)) ?_);have hi4':=hi4.ge;have k3:=hc3.1;have k4:=hc4.1;have hob1:=ho4.sl.form rfl;obtain⟨p4,c4,rfl⟩:=hob1;refine ag O C168 (Dy w4 p4 c4 m (dV m key) ho4 hpl (by omega)) ?_;rintro v5 w5 ⟨ho5,hi5,hc5⟩;refine zn O O (a7 O (a8 bS O I33 O O) ?_);rw[<-HS hps.2 hhas] at ho5;have hc35:=hc4.t0 hc5 (λx hx=>hi4' x hx);have hi5':∀x∈ay v5,w3.heap.size<=x:=λx hx=>(hi5 x hx).elim (λg=>hi4' x g) (λg=>by omega);have hob2:=ho5.sl.form rfl;obtain⟨p5,c5,rfl⟩:=hob2;have hB5:=hB3.chg0 hc35;refine aQ O (bJ I33 O O (hB5) O O ((by decide:1<4)) O (rfl)) ?_;rintro w6 ⟨hB6,hc6,hs6⟩;refine zNR (zmm O (zaa O (za O (a6 (zrt ?_)))));replace hB6:Blk w6 vb [.bool true,.slice p5 (kz m key).length c5,vk,vi]:=hB6;have hb5:∀x∈ay (.slice p5 (kz m key).length c5),w2.heap.size<=x/\x≠vb:=λx hx=>by have:=hi5' x hx;exact⟨by omega,by omega⟩
   have ho6:=ho5.mod hc6 (λx hx hh=>by simp at hh;exact(hb5 x hx).2 hh);have hnk:∀x∈ay vk,x≠vb:=λx hx=>hn2.ap x (cf _ (cL _ hx));have hni:∀x∈ay vi,x≠vb:=λx hx=>hn2.ap x (cf _ (cf _ hx));have hc:Chg [vb] w2 w6:=((hc3.tr hc35).mono (by simp)).tr hc6;have hed:c.ed xb w6 e2:=h2.chg hc (λx hx hh=>by simp at hh;subst hh;exact hvb hx) (λx hx=>by simp at hx;subst hx;omega);have hto:c.to xb w w6 e e2:=⟨hed,hto2.grow,hto2.chg.trans hc (λ_ hx _=>hx) (λx hx hl=>by simp at hx;subst hx;omega)⟩
   have hz:=FD m key;refine⟨e2,[],[id],hto,hst2,eh _,aM _,.inr (.inr ⟨⟨vb,.slice p5 (kz m key).length c5,vk,vi⟩,.leaf (kz m key),[],rfl,rfl,⟨⟨hB6,ho6.sl,hn2.k.mod hc (λx hx hh=>by simp at hh;exact hnk x hx hh),hn2.i.mod hc (λx hx hh=>by simp at hh;exact hni x hx hh),λx hx=>?_⟩,λx hx=>?_⟩,⟨rfl,rfl,Eo hps⟩,by simp,⟨Eo hps,by omega⟩⟩)⟩
   ·rcases List.mem_append.1 hx with hx|hx
    ·exact(hb5 x hx).2
    ·rcases List.mem_append.1 hx with hx|hx
     ·exact hnk x hx
     ·exact hni x hx
   ·simp only[NV.F,bZ,fX] at hx;rcases hx with rfl|hx|hx|hx
    ·exact⟨by omega,(hnew2 _ (by simp[NV.F])).2⟩
    ·have:=(hb5 x hx).1
     exact⟨by omega,λhh=>by have:=hlt2 x (cf _ hh);omega⟩
    ·have:=hnew2 x (by simp[NV.F,hx]);exact⟨by omega,this.2⟩
    ·have:=hnew2 x (by simp[NV.F,hx]);exact⟨by omega,this.2⟩
  | false =>
   skip
   refine aI (rfl) ?_;refine zKR (zmm O (zaa O (za O (a6 (zrt ?_)))));exact⟨e2,[],[id],⟨h2.chg0 hc3,hto2.grow,hto2.chg.tr0 hc3⟩,hst2,eh _,aM _,.inr (.inl ⟨_,rfl,rfl,rfl⟩)⟩
 | succ d ih =>
  intro w e id pg m deep h ht hw hd hml hgl hk;have hob3:=mE ht;obtain⟨n,pg0,rfl,hct,hV,hz,hf⟩:=hob3;have hg:=CT.good hct hz hf;cases n with
  | leaf ps => exact hct.elim
  | br ks ids =>
  have hgb:brOk ks ids:=hg;have hfew:=hgb.few;refine enter [8,9,10] Tryz.func110 O O (al O) (zSR (zaa O (za O (zNR (zmm O (zm O (ag O IE (ox c xb w e id (.br ks ids) deep h (by omega) (hw id (by simp)) hV hg (by omega)) ?_)))))));rintro _ w2 ⟨v,e2,rfl,hto2,hst2,hs2,hh2⟩;refine zm O (zx O (zx O (zaa O (a6 (aa (zSR (zmv O (bV O O) (a6 (aJ O (λh=>h O) ?_)))))))));refine zKN (aa (zSR (zm O (zn O O (a7 O (a8 bS O I4 O O) ?_)))));have h2:=hto2.at_;have k2:=hto2.chg.1;have hn2:=hh2.at_;obtain⟨vb,vp,vk,vi⟩:=v;have hB2:Blk w2 vb [.bool false,vp,vk,vi]:=hn2.blk;have hi2:Sl w2 vi ids:=hn2.i;refine a7 O (aD uU4 O O (hB2.c O)) (a6 (aI (rfl) (zKR (zmm O (ag O C60 (vX w2 ⟨vb,vp,vk,vi⟩ ks ids key hn2 hgb.2.2.1.2 (by omega)) ?_)))));rintro _ w3 ⟨rfl,hw3⟩;refine za O (zNR (zmm O (zn O O (a7 O (a8 bS O I41 O O) ?_))));subst hw3;have hob4:=hct.hole key;obtain⟨K1,K2,A,t,B,rfl,hpl,rfl,rfl,rfl,hole,hit,hne,hbA,hbB,hq1,hq2⟩:=hob4;rw[<-hpl,<-hole.la];obtain⟨i0,pg1,m1⟩:=t;have hAl:A.length<(bs A++i0::bs B).length:=by rw[aF,bY,cg];omega
  have hget:(bs A++i0::bs B)[A.length]?=some i0:=by rw[<-bY A];simp
  have hml2:e2.made=e.made:=by have:=hst2.made;rw[cE] at this;exact this
  have hgl2:e2.gone.length=e.gone.length+1:=by rw[hst2.gone,aF];rfl
  have hr:∀x,e2.s.P.now.written x=e.s.P.now.written x:=λx=>by rw[hs2]
  have hw1:∀x∈pg1,e.s.P.now.written x=true:=λx hx=>hw x (by simp[hx]);have hhm:=B6 hct.pairs.2 hbA hbB;rw[hhm,HT hbA hbB];refine a7 O (aD aZ O O (hB2.c O)) (zm O (bD O (aS (A.length) aZ I25 O (hi2) O O (by first|rfl|omega) (hAl)) ?_));rintro _ ⟨bi,oi,rfl,hei,hbi⟩;refine a7 O (aD bu O O (((hi2.at hei hget).c0 O))) (zmm O (a7 O (aC O O (by omega)) ?_));refine ag O C110 (ih _ e2 i0 pg1 m1 (deep+1) h2 (by rw[hs2];exact hit) (λx hx=>by rw[hr];exact hw1 x hx) (by omega) (by rw[hml2];omega) (by omega) (by rw[hs2];omega)) ?_;rintro v3 w3 ⟨e3,new,out,hto3,hst3,hnl,hol,hr3⟩;have hto03:c.to xb w w3 e e3:=hto2.trans hto3;have hst03:Stp c.n e e3 ([]++new) ([id]++out):=hst2.trans hst3;have hol3:([id]++out).length<=2*(d+1):=by rw[aF,gB];omega
  rcases hr3 with⟨q,rfl,hh3,hno3⟩|⟨q,rfl,hh3,hn3⟩|⟨u,n',pg',rfl,hh3,hu3,hct3,hperm,hcok⟩
  ·refine zm O (zx O (zx O (zx O (zaa O (za O (a6 (aa (aq (zSR (zmv O (bG (bV O O) (bT (by decide))) ?_))))))))));refine zm O (aw O O (aw O O (a7 O (aN O) (za O (a6 (aW (rfl) (zSR (zmm O (zma O (zaa O (a6 (zrb ?_))))))))))));exact⟨e3,new,[id]++out,hto03,hst03,by omega,by omega,.inl ⟨_,rfl,hh3,hno3⟩⟩
  ·refine zm O (zx O (zx O (zx O (zaa O (za O (a6 (aa (aq (zSR (zmv O (bG (bV O O) (congrArg Value.bool (decide_eq_false (λh=>h O)))) ?_))))))))));refine zm O (ah O (zm O (ah O (a7 O (cz O) (a7 O (aK O) (za O (a6 (aW (rfl) (zSR (zmm O (zma O (zaa O (a6 (zrb ?_))))))))))))));exact⟨e3,new,[id]++out,hto03,hst03,by omega,by omega,.inr (.inl ⟨_,rfl,hh3,hn3⟩)⟩
  ·refine zm O (zx O (zx O (zx O (zaa O (za O (a6 (aa (aq (zSR (zmv O (bG (bV O O) (congrArg Value.bool (decide_eq_false (λh=>h O)))) ?_))))))))));refine zm O (ah O (zm O (ah O (a7 O (cz O) (a7 O (aK O) (za O (a6 (aI (rfl) (zSR (zm O ?_))))))))));have h3:=hto3.at_;have hflo:∀x∈c.F,x<w.heap.size:=h.pg.lt;have hv3:c.has xb e3 w.heap.size w3 ⟨vb,vp,vk,vi⟩ (.br (K1++K2) (bs A++i0::bs B)):=hh2.step hto3 hflo;have hu3':c.has xb e3 w.heap.size w3 u n':=hu3.lo k2;have hold:∀x,e.s.P.now.written x=true->e3.s.V x=e.s.V x:=λx hx=>by rw[hst3.ext.old x (by rw[hr];exact hx),hs2]
   have hwr:∀x,e.s.P.now.written x=true->e3.s.P.now.written x=true:=λx hx=>hst3.ext.wr (by rw[hr];exact hx);have hwp:∀x∈pg',e3.s.P.now.written x=true:=λx hx=>by
    rcases List.mem_append.1 (hperm.subset (cL _ hx)) with g|g
    ·exact hwr x (hw1 x g)
    ·exact(hst3.ext.mem g).2
   have hole3:Hole e3.s.V d K1 K2 A B (kz m1 key):=(hole.mono (λy hy=>hold y (hw y (by rcases List.mem_append.1 hy with g|g <;> simp[g])))).sub (λp hp=>Bv hp)
   have hmk:e3.made.length<=900/\e3.gone.length<=900/\e3.s.k+2<=40000:=by
    have a1:=hst3.made;have a2:=hst3.k;have a3:e2.s.k=e.s.k:=by rw[hs2]
    rw[hml2] at a1;have a4:=congrArg List.length a1;have a5:=congrArg List.length hst3.gone;rw[aF] at a4 a5;omega
   obtain⟨hmk1,hmk2,hmk3⟩:=hmk;have hall:∀x∈pgT A++(pg'++pgT B),e3.s.P.now.written x=true:=λx hx=>by
    rcases List.mem_append.1 hx with g|g
    ·exact hwr x (hw x (by simp[g]))
    ·rcases List.mem_append.1 g with g|g
     ·exact hwp x g
     ·exact hwr x (hw x (by simp[g]))
   have hil:(bs A++i0::bs B).length<=10000:=bw hfew.2 (by decide);have hzp:brZ (K1++K2) (bs A++i0::bs B)<=480:=hz;have hvw:w.heap.size<=vb:=(hv3.new vb (by simp[NV.F])).1;have k3:=hto03.chg.1;have hend:∀{w4:World} {e4:TE} {S:List Nat},c.ed xb w4 e4->(∀x∈EF xb e4,x∈EF xb e3∨w3.heap.size<=x)->Chg (vb::(c.F++EF xb e3)) w3 w4->c.to xb w w4 e e4:=λ{w4 e4 S} h4 hgr4 hc4=>⟨h4,λx hx=>by
    rcases hgr4 x hx with g|g
    ·exact hto03.grow x g
    ·exact .inr (by omega),hto03.chg.trans hc4 (λ_ hx _=>hx) (λx hx hl=>by
     rcases List.mem_cons.1 hx with g|g
     ·have g:x=vb:=g;omega
     ·rcases List.mem_append.1 g with g|g
      ·exact cL _ g
      ·rcases hto03.grow x g with g|g
       ·exact cf _ g
       ·omega)⟩
   refine ag O C112 (poor_ok w3 u n' hu3'.at_) ?_;rintro _ w4 ⟨rfl,hw4⟩;refine a7 O (cz O) (za O (a6 ?_));subst hw4;refine bX O (λhpo=>?_) (λhpo=>?_)
   ·refine zSR (zmm O (zmm O (zm O ?_)));replace hpo:pG n'=false:=by simpa using hpo
    have hob5:=CT.rich hct3 hpo;obtain⟨hne3,hfull⟩:=hob5;refine ag O C156 (n1 c xb w3 e3 ⟨vb,vp,vk,vi⟩ u w.heap.size d K1 K2 A B i0 n' pg' (kz m1 key) h3 hv3 hu3' hflo hole3 hct3 hne3 hfull hcok hall hmk1 hmk3 hil) ?_;rintro v4 w4 ⟨e4,new2,h4,hgr4,hc4,hst4,hr4⟩;refine zaa O (za O (a6 (zrb ?_)));have hst04:=hst03.trans hst4;rw[dG,cE] at hst04;have hto04:=hend (S:=[]) h4 hgr4 hc4;rcases hr4 with⟨rfl,hno4,hn4⟩|⟨rfl,hn4,n4,pg4,kv,iv,hct4,hperm4,hz4,hf4,hhas4⟩
    ·exact⟨e4,new++new2,[id]++out,hto04,hst04,by rw[aF];omega,by omega,.inl ⟨_,rfl,hh3,hno4⟩⟩
    ·exact⟨e4,new++new2,[id]++out,hto04,hst04,by rw[aF];omega,by omega,.inr (.inr ⟨⟨vb,vp,kv,iv⟩,n4,pg4,rfl,hh3,hhas4,hct4,zO hperm hperm4,hct4.ok (.inl (bw hz4 (by have:cnZ (.br (K1++K2) (bs A++i0::bs B))<=480:=hz;omega)))⟩)⟩
   ·refine zSR (zm O (zn O O (a7 O (a8 bS O I4 O O) ?_)));replace hpo:pG n'=true:=by simpa using hpo
    have hBu:=hu3'.at_.blk;have hpoor:=CT.poor hct3 hpo;rcases hpoor with⟨hn0,hm0,hp0⟩|⟨d',ids',hd0,hn0,hm0⟩
    ·have hBu:Blk w3 u.b [.bool true,u.p,u.k,u.i]:=by rw[hn0] at hBu;exact hBu
     refine a7 O (aD uU4 O O (hBu.c O)) (za O (a6 (aW (rfl) (zSR (zmm O (ag O C169 (vo w3 ⟨vb,vp,vk,vi⟩ (K1++K2) (bs A++i0::bs B) A.length hv3.at_ hAl hgb.2.1 (List.length_pos_iff.2 hgb.1) hil) ?_))))));rintro _ w4 ⟨⟨kv,iv,hn4,hnew4⟩,hc4⟩;refine zNR (zma O (zaa O (a6 (zrb ?_))));have hlt3:=h3.lt;have hvb:vb∉c.F++EF xb e3:=hv3.far hflo vb (by simp[NV.F]);have hw0:c.w0.heap.size<=w.heap.size:=h.pg.1.2.1.1;have h4:c.ed xb w4 e3:=h3.chg hc4 (λx hx hh=>by simp at hh;subst hh;exact hvb hx) (λx hx=>by simp at hx;subst hx;omega);have hto04:=hend (S:=[]) h4 (λx hx=>.inl hx) (hc4.mono (λx hx _=>by have hx:x∈[vb]:=hx;simp at hx;subst hx;exact cM));have hct4:=Hole.out hole3 i0 hgb.1;have hz4:=brZ_out (K1++K2) (bs A++i0::bs B) (A.length-1) A.length;subst hp0;rw[dG] at hst03;refine⟨e3,new,[id]++out,hto04,hst03,by omega,by omega,.inr (.inr ⟨⟨vb,vp,kv,iv⟩,_,pgT A++pgT B,rfl,hh3,⟨hn4,λx hx=>?_⟩,?_,?_,hct4.ok (.inl (bw hz4 (by omega)))⟩)⟩
     ·have hx:x∈vb::(ay vp++(ay kv++ay iv)):=hx;rcases List.mem_cons.1 hx with rfl|hx
      ·exact hv3.new _ (by simp[NV.F])
      ·rcases List.mem_append.1 hx with hx|hx
       ·exact hv3.new x (by simp[NV.F,hx])
       ·have:=hnew4 x hx
        exact⟨by omega,λhh=>by have:=hlt3 x (cf _ hh);omega⟩
     ·rw[hm0,dG];exact hct4
     ·have:=zO (id:=id) (A:=pgT A) (B:=pgT B) (new2:=[]) hperm (pg4:=pgT A++pgT B) (by simp)
      simpa using this
    ·have hBu:Blk w3 u.b [.bool false,u.p,u.k,u.i]:=by rw[hn0] at hBu;exact hBu
     have hole5:Hole e3.s.V (d'+1) K1 K2 A B (kz m1 key):=by rw[<-hd0];exact hole3
     have hct5:CT e3.s.V (d'+1) (.br [] ids') pg' (kz m1 key):=by rw[<-hd0,<-hn0];exact hct3
     have hu5:c.has xb e3 w.heap.size w3 u (.br [] ids'):=by rw[<-hn0];exact hu3'
     refine a7 O (aD uU4 O O (hBu.c O)) (za O (a6 (aI (rfl) (bQ (ax (aj (zSR (zmm O (zmm O (zm O (ag O C170 (HH c xb w3 e3 ⟨vb,vp,vk,vi⟩ u w.heap.size d' K1 K2 A B i0 ids' pg' (kz m1 key) h3 hv3 hu5 hflo hole5 hct5 hm0 hgb hall hmk1 hmk2 hmk3) ?_)))))))))));rintro v4 w4 ⟨e4,new2,out2,h4,hgr4,hc4,hst4,hn4,ho4,hr4⟩;refine zaa O (za O (a6 (zrf ?_)));have hst04:=hst03.trans hst4;rw[dG] at hst04;have hto04:=hend (S:=[]) h4 hgr4 hc4;have hol4:([id]++out++out2).length<=2*(d+1)+1:=by rw[aF];omega
     rcases hr4 with⟨rfl,hno4⟩|⟨rfl,n4,pg4,kv,iv,hct4,hperm4,hz4,hhas4⟩
     ·exact⟨e4,new++new2,[id]++out++out2,hto04,hst04,by rw[aF];omega,hol4,.inl ⟨_,rfl,hh3,hno4⟩⟩
     ·refine⟨e4,new++new2,[id]++out++out2,hto04,hst04,by rw[aF];omega,hol4,.inr (.inr ⟨⟨vb,vp,kv,iv⟩,n4,pg4,rfl,hh3,hhas4,by rw[hd0];exact hct4,?_,hct4.ok (.inl hz4)⟩)⟩;rw[oK] at hperm hperm4 ⊢;intro x;have q1:=hperm x;have q2:=hperm4 x;simp only[sD,uQ,uP] at q1 q2 ⊢;omega
theorem root_ok(c:TC)(xb:Nat)(w:World)(e:TE)(v:NV)(n:Cn)(lo d:Nat)(pg:List UInt32)(m:List Pr)(h:c.ed xb w e)(hv:c.has xb e lo w v n)(hf:∀x∈c.F,x<lo)
  (hct:CT e.s.V d n pg m) (hno:wN n) (hw:∀x∈pg,e.s.P.now.written x=true) (hml:e.made.length<=900) (hk:e.s.k+3<=40000) :
  Ret Tryz.prog 157 #[.pointer (some ⟨xb,0,none⟩),v.ptr] w λr w'=>∃e' new,c.to xb w w' e e'/\Stp c.n e e' new [] /\
   ((new.length<=2/\∃q:UInt32,r=.tuple #[.int .u32 q.toNat,.int .i64 70]/\nw c.n e'.s.P)∨∃id d' pg',r=.tuple #[.int .u32 id.toNat,.int .i64 0]/\new.length<=3/\d'<=d+1/\isT e'.s.V d' id pg' m/\pg'.Perm (pg++new)/\(cnZ n<=480->new.length<=1/\d'<=d)):=by
 have hzn:cnZ n<=900:=by
  cases n with
  | leaf ps => exact bw hno.2 (by decide)
  | br ks ids => exact bw hno.2.2 (by decide)
 have hn:(∃ps,n=.leaf ps)∨∃ks ids,n=.br ks ids:=by cases n with|leaf ps=>exact .inl ⟨ps,rfl⟩|br ks ids=>exact .inr ⟨ks,ids,rfl⟩
 have hB:=hv.at_.blk;refine enter [4,5] Tryz.func157 O O (al O) (zSR (a7 O (gK (v:=.int .u32 ((0:UInt32).toNat:Nat)) O) (za O ?_)));refine a6 (lH [] [4,5,8,9,10,11,12,13,14,15,16,17,18,19,20,21,22,23,24,25,26] (λvs w'=>vs=[]/\jM n/\w=w') (by kernel_rfl) ?_ ?_)
 ·refine zSR (zm O (zn O O (a7 O (a8 bS O I4 O O) ?_)));rcases hn with⟨ps,hn⟩|⟨ks,ids,hn⟩
  ·have hB1:Blk w v.b [.bool true,v.p,v.k,v.i]:=by rw[hn] at hB;exact hB
   refine a7 O (aD uU4 O O (hB1.c O)) (a7 O (cz O) (zm O (aw O O (aw O O (aw O O (aw O O (aw O O (aw O O (a7 O (aK O) (a6 (aI (rfl) (zKN ?_))))))))))));exact⟨rfl,by rw[hn];trivial,rfl⟩
  ·have hB1:Blk w v.b [.bool false,v.p,v.k,v.i]:=by rw[hn] at hB;exact hB
   have hi:Sl w v.i ids:=by have:=hv.at_.i;rw[hn] at this;exact this
   have hob1:=hi.form rfl;obtain⟨pi,ci,hvi⟩:=hob1;rw[hvi] at hB1;refine a7 O (aD uU4 O O (hB1.c O)) (a7 O (cz O) (zm O (ah O (zm O (ah O (zn O O (ah O (a7 O (a8 bS O I41 O O) (ah O (a7 O (aD aZ O O (hB1.c O)) (ah O (a7 O (aB O aZ) (ah O (a7 O (dy O O) (a7 O (aN O) (a6 (aA O (λh1=>?_) (λh1=>?_))))))))))))))))))
   ·refine zSR (zm O (zn O O (a7 O (a8 bS O I41 O O) ?_)));have hi':Sl w (.slice pi ids.length ci) ids:=hvi▸hi;have hct1:CT e.s.V d (.br ks ids) pg m:=hn▸hct;have hno1:wN (.br ks ids):=hn▸hno;have hks:ks=[]:=List.length_eq_zero_iff.1 (by have:ids.length=ks.length+1:=hno1.2.1;omega);rw[hks] at hct1;have hob2:=hct1.lone;obtain⟨d',id,hd',hids,hit⟩:=hob2;refine a7 O (aD aZ O O (hB1.c O)) (bD O (aS (0) aZ I25 O (hi') O O (by first|rfl|omega) (by omega)) ?_);rintro _ ⟨bi,oi,rfl,hei,hbi⟩;refine a7 O (aD bu O O (((hi'.at hei (a:=id) (by rw[hids];rfl)).c0 O))) ?_;refine zaa O (a6 (zrt ?_));exact⟨e,[],TC.to.refl h,Stp.refl _ _,.inr ⟨id,d',pg,rfl,by simp,by omega,hit,by simp,λ_=>⟨by simp,by omega⟩⟩⟩
   ·refine zKN ?_;refine⟨rfl,?_,rfl⟩;rw[hn] at hno ⊢;have hl:ids.length=ks.length+1:=hno.2.1;intro hk0;rw[hk0] at hl;exact h1 (by rw[hl];rfl)
 ·rintro vs J w1 ⟨rfl,hfull,rfl⟩;refine aa (zSR (zm O (ag O C199 (uz w v n hv.at_ (by omega)) ?_)));rintro _ w2 ⟨rfl,hc2⟩;refine a7 O (fN O O) (a6 ?_);have h2:=h.chg0 hc2;have hv2:=hv.still hc2;have k2:=hc2.1;refine aA O (λhz=>?_) (λhz=>?_)
  ·refine zSR (zmm O ?_);have hz4:cnZ n<=480:=by omega
   refine ag O C94 (oS c xb w2 e v n h2 hv2.at_ (CT.good hct hz4 hfull) hz4 (by omega) (by omega)) ?_;rintro v3 w3 hr3;rcases hr3 with⟨rfl,g2,g3⟩|⟨id,e3,rfl,hto3,hst3,hV3⟩
   ·refine zx O (zx O (zaa O (a6 (zrt ?_))));exact⟨e,[],g3.pre hc2,Stp.refl _ _,.inl ⟨by simp,0,rfl,g2⟩⟩
   ·refine zx O (zx O (zaa O (a6 (zrt ?_))));have hold:=hst3.ext.old;exact⟨e3,[id],hto3.pre hc2,hst3,.inr ⟨id,d,id::pg,rfl,by simp,by omega,(hct.mono (λy hy=>hold y (hw y hy))).saved hz4 hfull hV3,(zg _ _).symm,λ_=>⟨by simp,aM _⟩⟩⟩
  ·refine zKN (aa (ae ?_));have hz4:480<cnZ n:=by omega
   have hmne:m≠[]:=λhm=>by
    cases d with
    | zero => cases n with
     | leaf ps => have q := hct.1; rw [hm] at q; subst q; exact absurd hz4 (by decide)
     | br ks ids => exact hct
    | succ d => cases n with
     | leaf ps => exact hct
     | br ks ids => exact CT.some hct hm
   refine aY O (qU (0:UInt32) aZ I25 O O O O O (by decide)) ?_;rintro _ w3 ⟨b3,rfl,hB3,hn3,hc3,hl3⟩;refine a7 O (bW bS x7 O (zs:=[.bool false,.slice none 0 0,.slice none 0 0,.slice none 0 0]) O O (bR O O O (al O) (eb (cs':=[.bool false,.slice none 0 0,.slice none 0 0,.slice (some ⟨b3,0,none⟩) 1 1]) O))) ?_;refine aY O (cZ (l:=[.bool false,.slice none 0 0,.slice none 0 0,.slice (some ⟨b3,0,none⟩) 1 1]) O O) ?_;rintro _ w4 ⟨tb,rfl,hnt,hT4,hc4,hl4⟩;refine za O (a6 (aa (zSR (zmm O (zm O ?_)))));have hB4:=hB3.chg0 hc4;have k3:=hc3.1;have k4:=hc4.1;have hc24:=(hc2.tr hc3).tr hc4;have h4:=h.chg0 hc24;have hv4:=hv.still hc24;have hlt:=h.lt;have hlo:lo<=w.heap.size:=by
    have h1:=(hv.new v.b (by simp[NV.F])).1;have h2:=hv.at_.lt v.b (by simp[NV.F]);omega
   have hnn:NAt w4 ⟨tb,.slice none 0 0,.slice none 0 0,.slice (some ⟨b3,0,none⟩) 1 1⟩ (.br [] [0]):=E4 (ks:=[]) (ids:=[0]) hT4 (Sl.nil _ _) (Blk.sl1 hB4) (λx hx=>by simp[ay] at hx) (λx hx=>by simp[ay] at hx;subst hx;omega);have htop:c.has xb e lo w4 ⟨tb,.slice none 0 0,.slice none 0 0,.slice (some ⟨b3,0,none⟩) 1 1⟩ (.br ([]++[]) (bs []++0::bs [])):=⟨hnn,λx hx=>by
    have hx:x∈[tb,b3]:=hx;have hge:w.heap.size<=x:=by
     rcases List.mem_cons.1 hx with rfl|hx
     ·omega
     ·have:=List.mem_singleton.1 hx;omega
    exact⟨by omega,λhh=>by have:=hlt x (cf _ hh);omega⟩⟩
   refine ag O C156 (n1 c xb w4 e ⟨tb,.slice none 0 0,.slice none 0 0,.slice (some ⟨b3,0,none⟩) 1 1⟩ v lo d [] [] [] [] 0 n pg m h4 htop hv4 hf (Hole.top _ d m) hct hmne hfull hno (λx hx=>hw x (by simpa [pgT] using hx)) hml (by omega) (by decide)) ?_;rintro v5 w5 ⟨e5,new,h5,hgr5,hc5,hst5,hr5⟩;have hto5:c.to xb w w5 e e5:=⟨h5,λx hx=>(hgr5 x hx).imp (λg=>g) (λg=>by omega),(hc24.mono (by simp)).trans hc5 (λ_ hx _=>hx) (λx hx hl=>by
    rcases List.mem_cons.1 hx with g|g
    ·have g:x=tb:=g;omega
    ·exact g)⟩
   rcases hr5 with⟨rfl,hno5,hn5⟩|⟨rfl,hn5,n5,pg5,kv,iv,hct5,hpm5,hz5,hf5,hhas5⟩
   ·refine za O (zNR (zmv O (bV O O) (a6 (bI O (by decide) ?_))));refine zSR (zmv O (gK (v:=.int .u32 ((0:UInt32).toNat:Nat)) O) (za O ?_));refine a6 (zrt ?_);exact⟨e5,new,hto5,hst5,.inl ⟨by omega,0,rfl,hno5⟩⟩
   ·refine za O (zNR (zmv O (bV O O) (a6 (aJ O (λh=>h O) ?_))));refine zKR (zmm O ?_);have hz6:cnZ n5<=480:=bw hz5 (by decide);have hf6:=hf5 (.inr hz4);have hml5:e5.made.length<=902:=by rw[hst5.made,aF];omega
    have hk5:e5.s.k+1<=40000:=by rw[hst5.k];omega
    have hpm5:pg5.Perm (pg++new):=by simpa [pgT] using hpm5
    have hct5:CT e5.s.V (d+1) n5 pg5 m:=by simpa [prT] using hct5
    refine ag O C94 (oS c xb w5 e5 ⟨tb,.slice none 0 0,kv,iv⟩ n5 h5 hhas5.at_ (CT.good hct5 hz6 hf6) hz6 (by omega) hk5) ?_;rintro v6 w6 hr6;rcases hr6 with⟨rfl,g2,g3⟩|⟨id,e6,rfl,hto6,hst6,hV6⟩
    ·refine zx O (zx O (zaa O (a6 (zrf ?_))));exact⟨e5,new,hto5.trans g3,hst5,.inl ⟨by omega,0,rfl,g2⟩⟩
    ·refine zx O (zx O (zaa O (a6 (zrf ?_))));have hold:=hst6.ext.old;have hw5:∀x∈pg5,e5.s.P.now.written x=true:=λx hx=>by
      rcases List.mem_append.1 (hpm5.subset hx) with g|g
      ·exact hst5.ext.wr (hw x g)
      ·exact(hst5.ext.mem g).2
     exact⟨e6,new++[id],hto5.trans hto6,hst5.trans hst6,.inr ⟨id,d+1,id::pg5,rfl,by rw[aF,gB];omega,aM _,(hct5.mono (λy hy=>hold y (hw5 y hy))).saved hz6 hf6 hV6,((zg _ _).symm.trans (hpm5.append_right [id])).trans (by rw[bP]),λq=>absurd q (by omega)⟩⟩
def TC.same(c:TC)(w':World)(s:TP)(k:Nat):Prop:=∃s',c.pg w' s'/\Ext c.n s.P s'.P s.V s'.V []/\s'.k<=k
theorem vu(c:TC)(xb:Nat)(w:World)(e:TE)(s:TP)(h:c.ed xb w e)(hx:Ext c.n s.P e.s.P s.V e.s.V e.made)(hu:∀x,s.P.now.written x=true->s.P.now.used x=true)(hl:e.made.length<=1000) :
  Ret Tryz.prog 95 #[.pointer (some ⟨xb,0,none⟩)] w λ_ w'=>c.same w' s e.s.k/\Chg c.F w w':=by
 refine(undo_ok c xb w e h (λx hx'=>(hx.mem hx').1) hx.nodup hl).mono ?_;rintro _ w' ⟨⟨s',h1,h2,h3,h4,h5,h6,h7⟩,hc⟩;exact⟨⟨s',h1,by rw[h2];exact hx.undo hu h4 h5 h6 h7,by omega⟩,hc⟩
theorem yA(c:TC)(xb:Nat)(w:World)(e:TE)(s:TP)(q:Value)(root:UInt32)(h:c.ed xb w e)(hx:Ext c.n s.P e.s.P s.V e.s.V e.made)(hu:∀x,s.P.now.written x=true->s.P.now.used x=true)(hl:e.made.length<=1000) :
  Ret Tryz.prog 98 #[.pointer (some ⟨xb,0,none⟩),q,.int .u32 root.toNat,.int .i64 70] w λr w'=>r=.tuple #[.int .u32 root.toNat,.slice none 0 0,.int .i64 70]/\c.same w' s e.s.k/\Chg c.F w w':=by
 refine enter [8,9,10] Tryz.func98 O O (al O) (zSR (a7 O (gK (v:=.int .u32 ((0:UInt32).toNat:Nat)) O) (zaa O ?_)));refine zNR (zma O (a6 (aa (zSR (zmv O (dy O O) (a6 (aJ O (by decide) ?_)))))));refine zKN (aa (zSR (zmv O (bV O O) ?_)));refine a6 (bI O (by decide) ?_);refine zSR (zm O (ag O C95 (vu c xb w e s h hx hu hl) ?_));rintro _ w1 ⟨h1,hc1⟩;refine zNR (zmm O (zaa O (za O (a6 (zrt ?_)))));exact⟨rfl,h1,hc1⟩
theorem ends_ok(c:TC)(xb:Nat)(w:World)(e:TE)(s:TP)(v:NV)(root:UInt32)(n:Cn)(lo d:Nat)(pg:List UInt32)(m:List Pr)(h:c.ed xb w e)(hx:Ext c.n s.P e.s.P s.V e.s.V e.made)(hu:∀x,s.P.now.written x=true->s.P.now.used x=true)
  (hv:c.has xb e lo w v n) (hf:∀x∈c.F,x<lo) (hct:CT e.s.V d n pg m) (hno:wN n) (hw:∀x∈pg,e.s.P.now.written x=true) (hml:e.made.length<=900) (hk:e.s.k+3<=40000) :
  Ret Tryz.prog 98 #[.pointer (some ⟨xb,0,none⟩),v.ptr,.int .u32 root.toNat,.int .i64 0] w λr w' =>
   ((r=.tuple #[.int .u32 root.toNat,.slice none 0 0,.int .i64 70]/\c.same w' s (e.s.k+3)/\fQ s.P c.n<=e.made.length+2) ∨
    ∃id d' pg' new gv s',r=.tuple #[.int .u32 id.toNat,gv,.int .i64 0]/\c.pg w' s'/\Ext c.n s.P s'.P s.V s'.V (e.made++new)/\s'.k<=e.s.k+3/\new.length<=3/\d'<=d+1/\isT s'.V d' id pg' m/\pg'.Perm (pg++new)/\(cnZ n<=480->new.length<=1/\d'<=d)/\Own w' gv e.gone/\∀x∈ay gv,x∈EF xb e∨w.heap.size<=x)/\Chg (c.F++EF xb e) w w':=by
 refine enter [8,9,10] Tryz.func98 O O (al O) (zSR (a7 O (gK (v:=.int .u32 ((0:UInt32).toNat:Nat)) O) (zaa O ?_)));refine zNR (zma O (a6 (aa (zSR (zmv O (dy O O) (a6 (bI O (rfl) (ae (zmm O (ag O C157 (root_ok c xb w e v n lo d pg m h hv hf hct hno hw hml hk) ?_))))))))));rintro v1 w1 ⟨e1,new,hto1,hst1,hr1⟩;have h1:=hto1.at_;have hx1:=hx.trans hst1.ext;have hml1:e1.made=e.made++new:=hst1.made;have hk1:=hst1.k;rcases hr1 with⟨hnl,q,rfl,hno1⟩|⟨id,d',pg',rfl,hnl,hd',hit,hpm,hsm⟩
 ·refine zm O (zx O (zx O (zaa O (a6 (aa (zSR (zmv O (bV O O) (a6 (bI O (by decide) ?_)))))))));refine zSR (zm O (ag O C95 (vu c xb w1 e1 s h1 (by rw[hml1];exact hx1) hu (by rw[hml1,aF];omega)) ?_));rintro _ w2 ⟨⟨s2,hp2,hx2,hk2⟩,hc2⟩;refine zNR (zmm O (zaa O (za O (a6 (zrt ?_)))));have hroom:=hx1.room h.pg.n4.2 hno1;rw[aF] at hroom;refine⟨.inl ⟨rfl,⟨s2,hp2,hx2,by omega⟩,by omega⟩,hto1.chg.tr (hc2.mono (λx hx _=>cL _ hx))⟩
 ·refine zm O (zx O (zx O (zaa O (a6 (aa (zSR (zmv O (bV O O) (a6 (aJ O (λh=>h O) ?_)))))))));refine zKN (aa ?_);have hB1:=h1.blk;refine aH bx (.pure 0 (.pure 1 (.pure 2 (.pure 3 (.read 4 (.pure 5 (.pure 6 (.pure 7 .nil)))))))) (by kernel_rfl) ?_;refine ym O (ym O (yn O (yp O (λ_=>(a8 me O I41 O O)) ?_)));refine aG O O O aZ O O (hB1.c O) (ya O (ya O (ya O (az (zrf ?_)))));have hg1:e1.gone=e.gone:=by have:=hst1.gone;rw[cE] at this;exact this
  refine⟨.inr ⟨id,d',pg',new,e1.gv,e1.s,rfl,h1.pg.chg0 (drw _),hx1,by omega,hnl,hd',hit,hpm,hsm,?_,λx hx=>hto1.grow x (by simp[EF,hx])⟩,hto1.chg.tr0 (drw _)⟩
  have:=h1.go
  rw[hg1] at this;exact this.mod0 (drw _)
theorem ed0{c:TC}{w w':World}{s:TP}{xb:Nat}(h:c.pg w s)(hm:Chg [] w w')(hB:Blk w' xb [c.pv,.slice none 0 0,.slice none 0 0])(hx:w.heap.size<=xb):c.ed xb w' ⟨s,.slice none 0 0,.slice none 0 0,[],[]⟩ :=
 ⟨h.chg0 hm,hB,Own.nil _,Own.nil _,by simp[ay],by simp[ay],λx hx=>by simp[ay] at hx,λx hq=>by
  have hq:x∈[xb]:=hq;have hq:=List.mem_singleton.1 hq;subst hq;have h1:=h.1.2.1.1;exact⟨by omega,λhh=>by have:=h.lt _ hh;omega⟩⟩
def Ik(c:TC)(w:World)(s:TP)(root:UInt32)(d:Nat)(pg:List UInt32)(_ m':List Pr)(r:Value->Value->Value->Value)(ra:Value)(k:Nat)(w':World):Prop :=
 (ra=r (.int .u32 root.toNat) (.slice none 0 0) (.int .i64 70)/\c.same w' s k/\fQ s.P c.n<=2*(d+1)) ∨
 ∃id d' pg' made gone gv s',ra=r (.int .u32 id.toNat) gv (.int .i64 0)/\c.pg w' s'/\Ext c.n s.P s'.P s.V s'.V made/\s'.k<=k/\made.length<=2*d+3/\d'<=d+1/\isT s'.V d' id pg' m'/\(pg'++gone).Perm (pg++made)/\(d=0->cT m'<=480->made.length<=1/\d'=0)/\gone.length<=2*d+1/\Own w' gv gone/\∀x∈ay gv,w.heap.size<=x
theorem oB{F S:List Nat}{w0 w w':World}(h0:Chg F w0 w)(h:Chg (F++S) w w')(hS:∀x∈S,w0.heap.size<=x):Chg F w0 w' :=
 h0.trans h (λ_ hx _=>hx) (λx hx hl=>(List.mem_append.1 hx).elim id (λg=>by have:=hS x g;omega))
theorem Bg{c:TC}{w w5 w6:World}{s:TP}{xb:Nat}{e:TE}{v:NV}{n:Cn}{root:UInt32}{d:Nat}{pg pg6 new out:List UInt32}{m m':List Pr}(h:c.pg w s)(hx:w.heap.size<=xb)(k5:w.heap.size<=w5.heap.size)(hto:c.to xb w5 w6 ⟨s,.slice none 0 0,.slice none 0 0,[],[]⟩ e)(hst:Stp c.n ⟨s,.slice none 0 0,.slice none 0 0,[],[]⟩ e new out)
  (hnl:new.length<=2*d) (hol:out.length<=2*d+1) (hv:c.has xb e w5.heap.size w6 v n) (hct:CT e.s.V d n pg6 m') (hpm:(pg6++out).Perm (pg++new)) (hno:wN n) (hw:∀x∈pg,s.P.now.written x=true) (hd:d<=40) (hk:s.k+2*d+3<=40000) (hc:Chg c.F w w6) :
  Ret Tryz.prog 98 #[.pointer (some ⟨xb,0,none⟩),v.ptr,.int .u32 root.toNat,.int .i64 0] w6 λr w'=>Ik c w s root d pg m m' (λa b e=>.tuple #[a,b,e]) r (s.k+2*d+3) w'/\Chg c.F w w':=by
 have hm6:e.made=new:=hst.made;have hg6:e.gone=out:=hst.gone;have hk6:e.s.k=s.k+new.length:=hst.k;have hx6:Ext c.n s.P e.s.P s.V e.s.V new:=hst.ext;have hEF:∀x∈EF xb e,w.heap.size<=x:=λx hx'=>by
  rcases hto.grow x hx' with g|g
  ·have g:x∈[xb]:=g
   have:=List.mem_singleton.1 g;omega
  ·omega
 have k6:=hc.1;have hw6:∀x∈pg6,e.s.P.now.written x=true:=λx hx=>by
  rcases List.mem_append.1 (hpm.subset (cL _ hx)) with g|g
  ·exact hx6.wr (hw x g)
  ·exact(hx6.mem g).2
 refine(ends_ok c xb w6 e s v root n w5.heap.size d pg6 m' hto.at_ (by rw[hm6];exact hx6) (λx hx=>h.wu hx) hv (λx hx=>by have:=h.lt x hx;omega) hct hno hw6 (by rw[hm6];omega) (by omega)).mono ?_;rintro r w7 ⟨hr,hc7⟩;refine⟨?_,oB hc hc7 hEF⟩;rcases hr with⟨rfl,hs,hroom⟩|⟨id,d',pg',new2,gv,s',rfl,hp,hx',hk',hn2,hd',hit,hpm',hsm,hgv,hgb⟩
 ·refine .inl ⟨rfl,?_,by rw[hm6] at hroom;omega⟩;obtain⟨s',q1,q2,q3⟩:=hs;exact⟨s',q1,q2,by omega⟩
 ·rw[hm6] at hx';refine .inr ⟨id,d',pg',new++new2,out,gv,s',rfl,hp,hx',by omega,by rw[aF];omega,hd',hit,?_,λhd0 hz=>?_,hol,hg6▸hgv,λx hx=>(hgb x hx).elim (λg=>hEF x g) (λg=>by omega)⟩
  ·rw[oK] at hpm hpm' ⊢;intro x;have q1:=hpm x;have q2:=hpm' x;simp only[sD] at q1 q2 ⊢;omega
  ·subst hd0;have hzn:cnZ n<=480:=by
    cases n with
    | leaf ps => have q : ps = m' := hct.1; subst q; exact hz
    | br ks ids => exact hct.elim
   have:=hsm hzn
   rw[aF];omega
theorem Ex(c:TC)(w:World)(s:TP)(root:UInt32)(d:Nat)(pg:List UInt32)(m:List Pr)(p:Pr)(h:c.pg w s)(ht:isT s.V d root pg m)(hw:∀x∈pg,s.P.now.written x=true)(hd:d<=40)(hk:s.k+2*d+3<=40000) :
  Ret Tryz.prog 57 #[c.pv,.int .u32 root.toNat,str p.1,str p.2] w λr w'=>((¬oc p/\r=.tuple #[.int .u32 0,.slice none 0 0,.int .i64 90]/\c.pg w' s)∨(oc p/\Ik c w s root d pg m (g0 m p) (λa b e=>.tuple #[a,b,e]) r (s.k+2*d+3) w'))/\Chg c.F w w':=by
 refine enter [8,9,10] Tryz.func57 O O (al O) (zSR (a7 O (gK (v:=.int .u32 ((0:UInt32).toNat:Nat)) O) (zaa O ?_)));refine zNR (zmm O (a7 O (bW iM I49 O (zs:=[str [],str []]) O O (bR O O O (al O) (bR O O O (al O) (eb (cs':=[str p.1,str p.2]) O)))) ?_));refine aY O (dt (l:=[str [],str []]) I49 O O) ?_;rintro _ w1 ⟨tb,rfl,hnt,hT1,hc1,hl1⟩;refine aQ O (cH (l:=[str p.1,str p.2]) I49 O O hT1 O O (aM 2) (by simp[fI]) (da O)) ?_;rintro w2 ⟨hT2,hc2,hs2⟩;refine a6 (aa (aa (ae ?_)));have hc02:Chg [] w w2:=hc1.t1 hc2 hnt;have hTa:At w2 tb 0 [str p.1,str p.2]:=hT2.at (by rfl)
 refine a7 O (cK iM O I49 O hTa O) (aY O (qU p df I49 O O O O O (by decide)) ?_);rintro _ w3 ⟨b3,rfl,hB3,hn3,hc3,hl3⟩;refine ag O C96 (uG w3 _ [p] (Blk.sl1 hB3) (by simp)) ?_;rintro v4 w4 ⟨hc4,hr4⟩;have hc04:=(hc02.tr hc3).tr hc4;have hT4:=(hT2.chg0 hc3).chg0 hc4;rcases hr4 with⟨hno,rfl⟩|⟨hok,hz,rfl⟩|⟨hok,bv,rfl,_,_⟩
 ·refine zm O (zx O (zx O (zaa O (zNR (zmv O (bV O O) (a6 (bI O (by decide) ?_)))))));refine zSR (a7 O (gK (v:=.int .u32 ((0:UInt32).toNat:Nat)) O) (zaa O ?_));refine a6 (zrt ?_);exact⟨.inl ⟨λhp=>hno ⟨λq hq=>by have:=List.mem_singleton.1 hq;subst this;exact hp,zh _ _⟩,rfl,h.chg0 hc04⟩,hc04.mono (by simp)⟩
 ·have hp:=hok.1 p (List.mem_singleton.2 O);rw[iF] at hz
  have:=hp.1.2
  have:=hp.2
  omega
 ·have hp:=hok.1.1 p (List.mem_singleton.2 O);refine zm O (zx O (zx O (zaa O (zNR (zmv O (bV O O) (a6 (aJ O (λh=>h O) ?_)))))));refine zKR (zmv O (bW me I175 O (zs:=[.pointer none,.slice none 0 0,.slice none 0 0]) O O (bR O O O (al O) (eb (cs':=[c.pv,.slice none 0 0,.slice none 0 0]) O))) ?_);refine aY O (cZ (l:=[c.pv,.slice none 0 0,.slice none 0 0]) O O) ?_;rintro _ w5 ⟨xb,rfl,hxn,hX5,hc5,hl5⟩;refine za O (zNR (zmm O ?_));have hc05:=hc04.tr hc5;have hTb:At w5 tb 0 [str p.1,str p.2]:=(hT4.chg0 hc5).at (by rfl)
  refine a7 O (cK iM O I49 O hTb O) ?_;have k04:=hc04.1;have k05:=hc05.1;have hxw:w.heap.size<=xb:=by omega
  have he0:=ed0 h hc05 hX5 hxw;refine ag O C97 (put_ok c xb p hp d w5 ⟨s,.slice none 0 0,.slice none 0 0,[],[]⟩ root pg m 0 he0 ht hw (by omega) (by simp;omega) (by simp;omega) (by show s.k+2*d<=40000;omega)) ?_;rintro v6 w6 ⟨e6,new,out,hto,hst,hnl,hol,hr⟩;have hc06:Chg c.F w w6:=oB (hc05.mono (by simp)) hto.chg (λx hx=>by have hx:x∈[xb]:=hx;have:=List.mem_singleton.1 hx;omega);have hm6:e6.made=new:=hst.made;have hk6:e6.s.k=s.k+new.length:=hst.k;have hx6:Ext c.n s.P e6.s.P s.V e6.s.V new:=hst.ext;have hnd:=h.n4.2;rcases hr with⟨q,rfl,hno⟩|⟨v,n,pg6,rfl,hv6,hct6,hpm6,hcok,hcf⟩
  ·refine zm O (zx O (zx O (zaa O (zNR (zmm O (zmm O (ag O C98 (yA c xb w6 e6 s q root hto.at_ (by rw[hm6];exact hx6) (λx hx=>h.wu hx) (by rw[hm6];omega)) ?_)))))));rintro _ w7 ⟨rfl,⟨s7,hp7,hx7,hk7⟩,hc7⟩;refine zx O (zx O (zx O (zaa O (za O (a6 (zrf ?_))))));have hroom:=hx6.room hnd hno;exact⟨.inr ⟨hp,.inl ⟨rfl,⟨s7,hp7,hx7,by omega⟩,by omega⟩⟩,hc06.tr hc7⟩
  ·refine zm O (zx O (zx O (zaa O (zNR (zmm O (zmm O (ag O C98 (Bg (root:=root) (m:=m) h hxw k05 hto hst hnl (by omega) hv6 hct6 hpm6 hcok hw hd hk hc06) ?_)))))));rintro v7 w7 ⟨hr7,hc7⟩;rcases hr7 with⟨rfl,hs7,hroom⟩|⟨id,d',pg',made,gone,gv,s',rfl,hrest⟩
   ·refine zx O (zx O (zx O (zaa O (za O (a6 (zrf ?_))))));exact⟨.inr ⟨hp,.inl ⟨rfl,hs7,hroom⟩⟩,hc7⟩
   ·refine zx O (zx O (zx O (zaa O (za O (a6 (zrf ?_))))));exact⟨.inr ⟨hp,.inr ⟨id,d',pg',made,gone,gv,s',rfl,hrest⟩⟩,hc7⟩
def wo4(a b e:Value):Value:=.tuple #[a,b,.bool (match e with|.int .i64 0=>true|_=>false),e]
theorem Dm(c:TC)(w:World)(s:TP)(root:UInt32)(d:Nat)(pg:List UInt32)(m:List Pr)(key:Bs)(h:c.pg w s)(ht:isT s.V d root pg m)(hw:∀x∈pg,s.P.now.written x=true)(hd:d<=40)(hk:s.k+2*d+3<=40000) :
  Ret Tryz.prog 62 #[c.pv,.int .u32 root.toNat,str key] w λr w'=>((fA m key=false/\r=.tuple #[.int .u32 root.toNat,.slice none 0 0,.bool false,.int .i64 0]/\c.same w' s s.k)∨(fA m key=true/\Ik c w s root d pg m (kz m key) wo4 r (s.k+2*d+3) w'))/\Chg c.F w w':=by
 refine enter [6,7,8,9] Tryz.func62 O O (al O) (zSR (a7 O (gK (v:=.int .u32 ((0:UInt32).toNat:Nat)) O) (zaa O (za O ?_))));refine zNR (zmv O (bW me I175 O (zs:=[.pointer none,.slice none 0 0,.slice none 0 0]) O O (bR O O O (al O) (eb (cs':=[c.pv,.slice none 0 0,.slice none 0 0]) O))) ?_);refine aY O (cZ (l:=[c.pv,.slice none 0 0,.slice none 0 0]) O O) ?_;rintro _ w5 ⟨xb,rfl,hxn,hX5,hc5,hl5⟩;refine za O (zNR (zmm O (zm O ?_)));have k05:=hc5.1;have hxw:w.heap.size<=xb:=by omega
 have he0:=ed0 h hc5 hX5 hxw;refine ag O C110 (drop_ok c xb key d w5 ⟨s,.slice none 0 0,.slice none 0 0,[],[]⟩ root pg m 0 he0 ht hw (by omega) (by simp;omega) (by simp;omega) (by show s.k+2*d<=40000;omega)) ?_;rintro v6 w6 ⟨e6,new,out,hto,hst,hnl,hol,hr⟩;have hc06:Chg c.F w w6:=oB (hc5.mono (by simp)) hto.chg (λx hx=>by have hx:x∈[xb]:=hx;have:=List.mem_singleton.1 hx;omega);have hm6:e6.made=new:=hst.made;have hk6:e6.s.k=s.k+new.length:=hst.k;have hx6:Ext c.n s.P e6.s.P s.V e6.s.V new:=hst.ext;have hnd:=h.n4.2;rcases hr with⟨q,rfl,hhas,hno⟩|⟨q,rfl,hhas,hnew⟩|⟨v,n,pg6,rfl,hhas,hv6,hct6,hpm6,hcok⟩
 ·refine zm O (zx O (zx O (zx O (zaa O (za O (a6 (aa (zSR (zmv O (bG (dy O O) (bF (by decide))) ?_)))))))));refine zm O (aw O O (aw O O (a7 O (aK O) (a6 (aI (rfl) (zKR (zmm O (zmm O (ag O C98 (yA c xb w6 e6 s q root hto.at_ (by rw[hm6];exact hx6) (λx hx=>h.wu hx) (by rw[hm6];omega)) ?_)))))))));rintro _ w7 ⟨rfl,⟨s7,hp7,hx7,hk7⟩,hc7⟩;refine zm O (zx O (zx O (zx O (zaa O (za O (zNR (zmm O (zmm O ?_))))))));have hroom:=hx6.room hnd hno;refine ah O (zm O (ah O (a7 O (dy O O) (a7 O (aN O) (zma O (zaa O (za O (a6 (zrf ?_)))))))));exact⟨.inr ⟨hhas,.inl ⟨rfl,⟨s7,hp7,hx7,by omega⟩,by omega⟩⟩,hc06.tr hc7⟩
 ·refine zm O (zx O (zx O (zx O (zaa O (za O (a6 (aa (zSR (zmv O (bG (dy O O) (congrArg Value.bool (decide_eq_true (rfl)))) (zm O (ah O (zm O (ah O (a7 O (cz O) (a7 O (aN O) (a6 (aW (rfl) (zSR (zma O (zaa O (za O (a6 (zrt ?_)))))))))))))))))))))));subst hnew;exact⟨.inl ⟨hhas,rfl,⟨e6.s,hto.at_.pg,hx6,by simp at hk6;omega⟩⟩,hc06⟩
 ·refine zm O (zx O (zx O (zx O (zaa O (za O (a6 (aa (zSR (zmv O (bG (dy O O) (congrArg Value.bool (decide_eq_true (rfl)))) (zm O (ah O (zm O (ah O (a7 O (cz O) (a7 O (aN O) (a6 (aI (rfl) (zKR (zmm O (zmm O (ag O C98 (Bg (root:=root) (m:=m) h hxw k05 hto hst hnl hol hv6 hct6 hpm6 hcok hw hd hk hc06) ?_)))))))))))))))))))));rintro v7 w7 ⟨hr7,hc7⟩;rcases hr7 with⟨rfl,hs7,hroom⟩|⟨id,d',pg',made,gone,gv,s',rfl,hrest⟩
  ·refine zm O (zx O (zx O (zx O (zaa O (za O (zNR (zmm O (zmm O (ah O (zm O (ah O (a7 O (dy O O) (a7 O (aN O) (zma O (zaa O (za O (a6 (zrf ?_))))))))))))))))));exact⟨.inr ⟨hhas,.inl ⟨rfl,hs7,hroom⟩⟩,hc7⟩
  ·refine zm O (zx O (zx O (zx O (zaa O (za O (zNR (zmm O (zmm O (ah O (zm O (ah O (a7 O (dy O O) (a7 O (aN O) (zma O (zaa O (za O (a6 (zrf ?_))))))))))))))))));exact⟨.inr ⟨hhas,.inr ⟨id,d',pg',made,gone,gv,s',rfl,hrest⟩⟩,hc7⟩
def PutR(c:TC)(s:TP)(d:Nat)(pg:List UInt32)(m':List Pr)(r:Value->Value->Value)(ra:Value)(k:Nat)(w':World):Prop :=
 (ra=r (.int .u32 0) (.int .i64 70)/\c.same w' s k/\fQ s.P c.n<=2*(d+1)) ∨
 ∃id d' pg' made gone s',ra=r (.int .u32 (id:UInt32).toNat) (.int .i64 0)/\c.pg w' s'/\Ext c.n s.P s'.P s.V s'.V made/\s'.k<=k/\made.length<=2*d+3/\d'<=d+1/\isT s'.V d' id pg' m'/\(pg'++gone).Perm (pg++made)/\(d=0->cT m'<=480->made.length<=1/\d'=0)/\gone.length<=2*d+1
theorem TPut_ok(c:TC)(w:World)(s:TP)(root:UInt32)(d:Nat)(pg:List UInt32)(m:List Pr)(p:Pr)(h:c.pg w s)(ht:isT s.V d root pg m)(hw:∀x∈pg,s.P.now.written x=true)(hd:d<=40)(hk:s.k+2*d+3<=40000) :
  Ret Tryz.prog 20 #[c.pv,.int .u32 root.toNat,str p.1,str p.2] w λr w'=>((¬oc p/\r=.tuple #[.int .u32 0,.int .i64 90]/\c.pg w' s)∨(oc p/\PutR c s d pg (g0 m p) (λa e=>.tuple #[a,e]) r (s.k+2*d+3) w'))/\Chg c.F w w':=by
 refine enter [8,9] Tryz.func20 O O (al O) (zSR (a7 O (gK (v:=.int .u32 ((0:UInt32).toNat:Nat)) O) (za O ?_)));refine zNR (zmm O (zmm O (ag O C57 (Ex c w s root d pg m p h ht hw hd hk) ?_)));rintro v1 w1 ⟨hr1,hc1⟩;rcases hr1 with⟨hp,rfl,h1⟩|⟨hp,⟨rfl,hs7,hroom⟩|⟨id,d',pg',made,gone,gv,s',rfl,q1,q2,q3,q4,q5,q6,q7,q8,q9,_⟩⟩
 ·refine zm O (zx O (zx O (zx O (zaa O (za O (a6 (aa (zSR (zmv O (bV O O) (a6 (bI O (by decide) ?_)))))))))));refine zSR (zmv O (gK (v:=.int .u32 ((0:UInt32).toNat:Nat)) O) (za O ?_));refine a6 (zrt ?_);exact⟨.inl ⟨hp,rfl,h1⟩,hc1⟩
 ·refine zm O (zx O (zx O (zx O (zaa O (za O (a6 (aa (zSR (zmv O (bV O O) (a6 (bI O (by decide) ?_)))))))))));refine zSR (zmv O (gK (v:=.int .u32 ((0:UInt32).toNat:Nat)) O) (za O ?_));refine a6 (zrt ?_);exact⟨.inr ⟨hp,.inl ⟨rfl,hs7,hroom⟩⟩,hc1⟩
 ·refine zm O (zx O (zx O (zx O (zaa O (za O (a6 (aa (zSR (zmv O (bV O O) (a6 (aJ O (λh=>h O) ?_)))))))))));refine zKR (zma O (za O (a6 (zrf ?_))));exact⟨.inr ⟨hp,.inr ⟨id,d',pg',made,gone,s',rfl,q1,q2,q3,q4,q5,q6,q7,q8,q9⟩⟩,hc1⟩
def de3(a e:Value):Value:=.tuple #[a,.bool (match e with|.int .i64 0=>true|_=>false),e]
theorem FR(c:TC)(w:World)(s:TP)(h:c.pg w s)(hk:s.k+1<=40000) :
  Ret Tryz.prog 56 #[c.pv] w λr w'=>((r=.tuple #[.int .u32 0,.int .i64 70]/\c.same w' s s.k/\fQ s.P c.n=0)∨∃id s',r=.tuple #[.int .u32 (id:UInt32).toNat,.int .i64 0]/\c.pg w' s'/\Ext c.n s.P s'.P s.V s'.V [id]/\s'.k<=s.k+1/\isT s'.V 0 id [id] [])/\Chg c.F w w':=by
 refine enter [2,3] Tryz.func56 O O (al O) (zSR (a7 O (gK (v:=.int .u32 ((0:UInt32).toNat:Nat)) O) (za O ?_)));refine zNR (zmv O (bW me I175 O (zs:=[.pointer none,.slice none 0 0,.slice none 0 0]) O O (bR O O O (al O) (eb (cs':=[c.pv,.slice none 0 0,.slice none 0 0]) O))) ?_);refine aY O (cZ (l:=[c.pv,.slice none 0 0,.slice none 0 0]) O O) ?_;rintro _ w1 ⟨xb,rfl,hxn,hX1,hc1,hl1⟩;refine za O (zNR (zm O ?_));have hxw:w.heap.size<=xb:=by omega
 have he1:=ed0 h hc1 hX1 hxw;refine a7 O (bW bS x7 O (zs:=[.bool false,.slice none 0 0,.slice none 0 0,.slice none 0 0]) O O (bR O O O (al O) (eb (cs':=[.bool true,.slice none 0 0,.slice none 0 0,.slice none 0 0]) O))) ?_;refine aY O (cZ (l:=[.bool true,.slice none 0 0,.slice none 0 0,.slice none 0 0]) O O) ?_;rintro _ w2 ⟨tb,rfl,htn,hT2,hc2,hl2⟩;have hn2:NAt w2 ⟨tb,.slice none 0 0,.slice none 0 0,.slice none 0 0⟩ (.leaf []):=⟨hT2,Sl.nil _ _,Sl.nil _ _,Sl.nil _ _,λx hx=>by simp[ay] at hx⟩
 have hlf:leafOk []:=⟨⟨λp hp=>by simp at hp,yZ⟩,by decide⟩
 have hc02:=hc1.tr hc2;have he2:=he1.chg0 hc2;refine ag O C94 (oS c xb w2 ⟨s,.slice none 0 0,.slice none 0 0,[],[]⟩ ⟨tb,.slice none 0 0,.slice none 0 0,.slice none 0 0⟩ (.leaf []) he2 hn2 hlf (by decide) (by simp) hk) ?_;rintro v3 w3 hr3;rcases hr3 with⟨rfl,g2,g3⟩|⟨id,e3,rfl,hto3,hst3,hV3⟩
 ·refine zm O (zx O (zx O (zaa O (a6 (aa (zSR (zmv O (bV O O) (a6 (bI O (by decide) ?_)))))))));refine zSR (zm O ?_);have hc03:Chg c.F w w3:=oB (hc02.mono (by simp)) g3.chg (λx hx=>by have hx:x∈[xb]:=hx;have:=List.mem_singleton.1 hx;omega);have hx0:Ext c.n s.P s.P s.V s.V []:=Ext.refl _ _ _;refine ag O C95 (vu c xb w3 ⟨s,.slice none 0 0,.slice none 0 0,[],[]⟩ s g3.at_ hx0 (λx hx=>h.wu hx) (by simp)) ?_;rintro _ w4 ⟨hs4,hc4⟩;refine zNR (zmv O (gK (v:=.int .u32 ((0:UInt32).toNat:Nat)) O) (za O ?_));refine a6 (zrt ?_);exact⟨.inl ⟨rfl,hs4,Nat.le_zero.1 (hx0.room h.n4.2 g2)⟩,hc03.tr hc4⟩
 ·refine zm O (zx O (zx O (zaa O (a6 (aa (zSR (zmv O (bV O O) (a6 (aJ O (λh=>h O) ?_)))))))));refine zKR (zma O (za O (a6 (zrf ?_))));have hc03:Chg c.F w w3:=oB (hc02.mono (by simp)) hto3.chg (λx hx=>by have hx:x∈[xb]:=hx;have:=List.mem_singleton.1 hx;omega);have hk3:e3.s.k=s.k+1:=hst3.k;exact⟨.inr ⟨id,e3.s,rfl,hto3.at_.pg,hst3.ext,by omega,⟨rfl,hlf,hV3⟩⟩,hc03⟩
theorem CT.isLeaf{V:UInt32->Bs}:∀{k:Nat} {ps m:List Pr} {pg:List UInt32},CT V k (.leaf ps) pg m->k=0/\ps=m/\pg=[]/\fU m
 | 0, _, _, _, h => ⟨rfl, h⟩
 | _ + 1, _, _, _, h => h.elim
theorem CT.isBr{V:UInt32->Bs}:∀{k:Nat} {ks:List Bs} {ids pg:List UInt32} {m:List Pr},CT V k (.br ks ids) pg m->∃q,k=q+1
 | 0, _, _, _, _, h => h.elim
 | k + 1, _, _, _, _, _ => ⟨k, rfl⟩
theorem TGet_ok(c:TC)(w:World)(s:TP)(root:UInt32)(d:Nat)(pg:List UInt32)(m:List Pr)(key:Bs)(h:c.pg w s)(ht:isT s.V d root pg m)(hw:∀x∈pg,s.P.now.written x=true)(hd:d<=40) :
  Ret Tryz.prog 23 #[c.pv,.int .u32 root.toNat,str key] w λr w'=>r=.tuple #[str ((lW m key).getD []),.bool (fA m key),.int .i64 0]/\Chg [] w w':=by
 refine enter [6,7,8] Tryz.func23 O O (al O) (zSR (zaa O (za O (a6 (aa (zSR (zm O (a6 (aq (aX [0,1,2,13] (λk vs w'=>∃(id:UInt32) (i:Nat) (pg':List UInt32) (m':List Pr),vs=[c.pv,.int .u32 id.toNat,str key,.int .i64 i]/\i+k=d/\Chg [] w w'/\isT s.V k id pg' m'/\(∀x∈pg',x∈pg)/\lW m' key=lW m key/\fA m' key=fA m key) (d) ?_ ?_))))))))))
 ·exact⟨root,0,pg,m,rfl,by omega,Chg.refl _,ht,λx hx=>hx,rfl,rfl⟩
 ·rintro k vs J w1 ⟨id,i,pg',m',rfl,hik,hc1,hit,hpg,hge,hha⟩;refine zSR (a7 O (bK O O) ?_);refine a6 (aa (bI O (by omega) ?_));refine zKN (aa (aq (zSR (zmm O ?_))));have hob1:=mE hit;obtain⟨n,pg0,hpq,hct,hV,hz,hf⟩:=hob1;have hg:=CT.good hct hz hf;have h1:=h.chg0 hc1;refine ag O C59 (uD c w1 s id n h1 (hw id (hpg id (by rw[hpq];simp))) hV hg) ?_;rintro _ w2 ⟨⟨v,rfl,hn2,hnew2⟩,hc2⟩;refine zm O (zx O (zx O (zaa O (a6 (aa (zSR (zmv O (bV O O) (a6 (aJ O (λh=>h O) ?_)))))))));refine zKN (aa (zSR (zm O (zn O O (a7 O (a8 bS O I4 O O) ?_)))));have hc02:=hc1.tr hc2;have hB:=hn2.blk;have hn:(∃ps,n=.leaf ps)∨∃ks ids,n=.br ks ids:=by cases n with|leaf ps=>exact .inl ⟨ps,rfl⟩|br ks ids=>exact .inr ⟨ks,ids,rfl⟩
  rcases hn with⟨ps,hn⟩|⟨ks,ids,hn⟩
  ·have hn3:NAt w2 v (.leaf ps):=hn▸hn2;have hB1:Blk w2 v.b [.bool true,v.p,v.k,v.i]:=hn3.blk;have hp:Sl w2 v.p ps:=hn3.p;rw[hn] at hct;have hob2:=CT.isLeaf hct;obtain⟨_,rfl,_,hok⟩:=hob2;have hfew:=mB ps;have hz5:cT ps<=480:=by rw[hn] at hz;exact hz
   refine a7 O (aD uU4 O O (hB1.c O)) (a7 O (cz O) (a6 (aI (rfl) (zKR (zmm O (ag O C61 (A2 w2 v ps key hn3 hok.2 (by omega)) ?_))))));rintro _ w3 ⟨rfl,hc3⟩;refine zm O (zx O (zx O (zaa O (a6 (aa (zSR (zmv O (cz O) (a6 ?_))))))));have hB3:=hB1.chg0 hc3;have hp3:=hp.mod0 hc3;refine bX O (λhh=>?_) (λhh=>?_)
   ·refine zSR (zaa O (za O (a6 (bC (aL (aR (aL (aL (aR (aL (cV ?_)))))))))));have hh:fA ps key=false:=by simpa using hh
    rw[<-hge,<-hha,hh,Ea hok.2 hh];exact⟨rfl,hc02.tr hc3⟩
   ·refine zKR (zm O (zn O O (a7 O (a8 bS O I33 O O) ?_)));have hh:fA ps key=true:=by simpa using hh
    refine a7 O (aD df O O (hB3.c O)) (zm O (bD O (aS (dV ps key) df I49 O (hp3) O O (by first|rfl|omega) (iH hh)) ?_));rintro _ ⟨bi,oi,rfl,hei,hbi⟩;refine a7 O (a8 iM O I9 O O) (a7 O (aD uU9 O O ((hp3.at hei (bM (iH hh))).cell (i:=1) O)) ?_);refine zaa O (za O (a6 (bC (aR (aL (aL (aR (aL (cV ?_)))))))));rw[<-hge,<-hha,hh,Eb hok.2 hh];exact⟨rfl,hc02.tr hc3⟩
  ·have hn3:NAt w2 v (.br ks ids):=hn▸hn2;have hB1:Blk w2 v.b [.bool false,v.p,v.k,v.i]:=hn3.blk;have hi:Sl w2 v.i ids:=hn3.i;rw[hn] at hct hg;have hob3:=CT.isBr hct;obtain⟨q,rfl⟩:=hob3;have hgb:brOk ks ids:=hg;have hfew:=hgb.few;have hob4:=hct.hole key;obtain⟨K1,K2,A,t,B,rfl,hpl,rfl,rfl,rfl,hole,hit',hne,hbA,hbB,hq1,hq2⟩:=hob4;have hAl:A.length<(bs A++t.1::bs B).length:=by rw[aF,bY,cg];omega
   have hget:(bs A++t.1::bs B)[A.length]?=some t.1:=by rw[<-bY A];simp
   have hpl2:plc (K1++K2) key=A.length:=by rw[<-hpl,hole.la]
   refine a7 O (aD uU4 O O (hB1.c O)) (a7 O (cz O) (a6 (aW (rfl) (aa (aH bx (.pure 0 (.pure 1 (.pure 2 (.read 3 (.pure 4 (.pure 5 (.eff 6 [3] (.pure 7 (.read 8 (.pure 9 .nil)))))))))) (by kernel_rfl) ?_)))));refine ym O (yn O (yp O (λ_=>(a8 bS O I41 O O)) ?_));refine aG O O O aZ O O (hB1.c O) (ym O (ym O (ycl O C60 (vX _ v (K1++K2) (bs A++t.1::bs B) key (hn3.chg0 (drw w2)) hgb.2.2.1.2 (by omega)) ?_)));rintro _ w3 ⟨rfl,hw3⟩;have hc3:Chg [] w2 w3:=hw3▸drw w2;refine⟨⟨(hB1.chg0 hc3).c rfl,trivial⟩,?_⟩;refine yex O (aS (plc (K1++K2) key) aZ I25 O (hi.mod0 hc3) O O (by first|rfl|omega) (by rw[hpl2];exact hAl)) ?_;rintro _ ⟨bi,oi,rfl,hei,hbi⟩;refine aG O O O bu O O ((((hi.mod0 hc3).at hei (by rw[hpl2];exact hget)).c0 O)) ?_;refine ya O (az (aO (an (aE (aj (ae (a7 O (aC O O (by omega)) (zm O ?_))))))));refine a6 (aT (q) (bq (by omega) ?_));have hsrt:=hct.pairs.2;have hpe:pg'=id::(pgT A++(t.2.1++pgT B)):=hpq;refine⟨t.1,i+1,t.2.1,t.2.2,au rfl (au O (au O (au (bL (by omega)) bO))),by omega,hc02.tr hc3,hit',λx hx=>hpg x (by rw[hpe];simp[hx]),?_,?_⟩
   ·rw[<-hge,B8 hbA hbB]
   ·rw[<-hha,B6 hsrt hbA hbB]
def spV(s:Sp):Value:=.agg #[str s.lo,str s.hi,.bool s.fin]
theorem has_ok(w:World)(s:Sp)(key:Bs):Ret Tryz.prog 99 #[spV s,str key] w λr w'=>r=.bool (s.has key)/\Chg [] w w':=by
 obtain⟨lo,hi,fin⟩:=s;refine enter [4] Tryz.func99 O O (al O) (zSR (aY O (cZ (l:=[str lo,str hi,.bool fin]) O O) ?_));rintro _ w1 ⟨b,rfl,hn,hB,hc,hl⟩;refine za O (zNR (zmv O (a8 ja O I9 O O) (a7 O (aD uU9 O O (hB.c O)) ?_)));have hd:ltB key lo=true∨ltB key lo=false:=by cases ltB key lo <;> simp
 have he:fin=true∨fin=false:=by cases fin <;> simp
 rcases hd with hd|hd
 ·refine a7 O (bG (uX O O) (congrArg Value.bool (by rw[hd];rfl:(!ltB key lo)=false))) ?_;refine zm O (aw O O (aw O O (aw O O (aw O O (aw O O (aw O O (aw O O (aw O O (aw O O (a7 O (aK O) (za O (a6 (zrf ?_)))))))))))));exact⟨by rw[show Sp.has ⟨lo,hi,fin⟩ key=false by simp[Sp.has,hd]];rfl,hc⟩
 ·refine a7 O (bG (uX O O) (congrArg Value.bool (by rw[hd];rfl:(!ltB key lo)=true))) ?_;refine zm O (ah O (a7 O (a8 ja O I4 O O) (ah O ?_)));rcases he with rfl|rfl
  ·refine a7 O (aD uU4 O O (hB.c O)) (ah O (a7 O (cz O) (ah O (zm O (ah O (zm O (ah O (a7 O (a8 ja O I9 O O) (ah O (a7 O (aD uU9 O O (hB.c O)) (ah O (a7 O (zi O O) (ah O (a7 O (aK O) (a7 O (aN O) (za O (a6 (zrf ?_))))))))))))))))));exact⟨by rw[show Sp.has ⟨lo,hi,true⟩ key=ltB key hi by simp[Sp.has,hd]];rfl,hc⟩
  ·refine a7 O (aD uU4 O O (hB.c O)) (ah O (a7 O (cz O) (ah O (zm O (aw O O (aw O O (aw O O (aw O O (ah O (a7 O (aN O) (a7 O (aN O) (za O (a6 (zrf ?_))))))))))))));exact⟨by rw[show Sp.has ⟨lo,hi,false⟩ key=true by simp[Sp.has,hd]];rfl,hc⟩
theorem HP(w:World)(s:Sp):Ret Tryz.prog 101 #[spV s] w λr w'=>r=.bool s.emp/\Chg [] w w':=by
 obtain⟨lo,hi,fin⟩:=s;refine enter [2] Tryz.func101 O O (al O) (zSR (aY O (cZ (l:=[str lo,str hi,.bool fin]) O O) ?_));rintro _ w1 ⟨b,rfl,hn,hB,hc,hl⟩;refine za O (zNR (a7 O (a8 ja O I4 O O) ?_));cases fin with
 | true =>
  refine a7 O (aD uU4 O O (hB.c O)) (zm O (ah O (a7 O (a8 ja O I9 O O) (ah O (a7 O (aD uU9 O O (hB.c O)) (ah O (a7 O (a8 ja O I9 O O) (ah O (a7 O (aD uU9 O O (hB.c O)) (ah O (a7 O (uX O O) (a7 O (aN O) (za O (a6 (zrf ?_)))))))))))))));exact⟨rfl,hc⟩
 | false =>
  refine a7 O (aD uU4 O O (hB.c O)) (zm O (aw O O (aw O O (aw O O (aw O O (aw O O (a7 O (aK O) (za O (a6 (zrf ?_))))))))));exact⟨rfl,hc⟩
theorem kid_ok(w:World)(s:Sp)(v:NV)(ks:List Bs)(ids:List UInt32)(i:Nat)(h:NAt w v (.br ks ids))(hl:ids.length=ks.length+1)(hi:i<ids.length)(hm:ids.length<=10000):Ret Tryz.prog 100 #[spV s,v.ptr,.int .i64 i] w λr w'=>r=spV (s.kid ks i)/\Chg [] w w':=by
 obtain⟨lo,hi',fin⟩:=s;obtain⟨vb,vp,vk,vi⟩:=v;have hBv:Blk w vb [.bool false,vp,vk,vi]:=h.blk;have hks:Sl w vk ks:=h.k;have hob1:∃p c,vk=.slice p ks.length c:=hks.form rfl;obtain⟨pk,ck,rfl⟩:=hob1;have hlt:=hBv.lt;refine fF [.cell 6 116] Tryz.func100 O O (al O) ?_;refine zSR (aY O (cZ (l:=[str lo,str hi',.bool fin]) O O) ?_);rintro _ w1 ⟨b,rfl,hn,hB1,hc1,hl1⟩;refine aY O (dt (l:=[str [],str [],.bool false]) Ac O O) ?_;rintro _ w2 ⟨rb,rfl,hnr,hR2,hc2,hl2⟩;refine a6 ?_;have hc02:=hc1.tr hc2;have hB2:=hB1.chg0 hc2;have hBv2:=hBv.chg0 hc02;have hks2:=hks.mod0 hc02;have hob2:∃x,x=(if 0<i then AY lo (ks.getD (i-1) []) else lo):=⟨_,rfl⟩
 obtain⟨lo2,hlo2⟩:=hob2;refine lH [] [7,8,9,10,11,12,13,14,15,16,17,18,19,20] (λvs w'=>vs=[]/\Blk w' b [str lo2,str hi',.bool fin]/\Chg [b] w2 w') (by kernel_rfl) ?_ ?_
 ·refine zSR (zmv O (dk O O) ?_);refine a6 (aA O (λhi0=>?_) (λhi0=>?_))
  ·have hgi:i-1<ks.length:=by omega
   refine aH bx (.pure 0 (.read 1 (.pure 2 (.pure 3 (.pure 4 (.read 5 (.pure 6 (.pure 7 (.pure 8 (.read 9 (.pure 10 (.pure 11 (.eff 12 [] .nil))))))))))))) (by kernel_rfl) ?_;refine yp O (λ_=>(a8 ja O I9 O O)) ?_;refine aG O O O uU9 O O (hB2.c O) (ym O (yn O (yp O (λ_=>(a8 bS O I70 O O)) ?_)));refine aG O O O cO O O (hBv2.c O) (ym O (yp O (λ_=>(bf O O (by omega))) ?_));refine yex O (aS (i-1) cO I9 O (hks2) O O (by first|rfl|omega) (hgi)) ?_;rintro _ ⟨bi,oi,rfl,hei,hbi⟩;refine aG O O O uU9 O O (((hks2.at hei (getD_some (d:=[]) hgi)).c0 O)) ?_;refine yp O (λ_=>(x_maxS O O)) ?_;refine yp O (λ_=>(a8 ja O I9 O O)) ?_;refine dx O (bJ I9 O O (hB2.chg0 (drw w2)) O O ((by decide:0<3)) O (rfl)) ?_;rintro w3 ⟨hB3,hc3,hs3⟩;refine⟨trivial,?_⟩;refine az ?_;have hlo3:lo2=AY lo (ks.getD (i-1) []):=by rw[hlo2,if_pos (by omega)]
   rw[hlo3];exact⟨rfl,hB3,((drw w2).mono (by simp)).tr hc3⟩
  ·refine zKN ?_;have hlo3:lo2=lo:=by rw[hlo2,if_neg (by omega)]
   rw[hlo3];exact⟨rfl,hB2,Chg.refl' _ _⟩
 ·rintro vs J w3 ⟨rfl,hB3,hc3⟩;have hvb:vb≠b:=by omega
  have hBv3:=hBv2.chg hc3 (by simp;exact hvb);have hks3:Sl w3 (.slice pk ks.length ck) ks:=hks2.mod hc3 (λx hx hh=>by simp at hh;have:=hks.lt x hx;omega);have hd:ks.length<=i∨(i<ks.length/\fin=false)∨(i<ks.length/\fin=true):=by
   rcases Nat.lt_or_ge i ks.length with g|g
   ·cases fin <;> simp[g]
   ·exact .inl g
  refine lH [] [21,22,23,24,25,26,27,28,29,30,31,32,33,34,35,36,37,38,39,40,41,42,43,44,45,46,47,48,49,50,51,52,53] (λvs w'=>vs=[]/\Blk w' b [str (Sp.kid ⟨lo,hi',fin⟩ ks i).lo,str (Sp.kid ⟨lo,hi',fin⟩ ks i).hi,.bool (Sp.kid ⟨lo,hi',fin⟩ ks i).fin]/\Chg [b] w3 w') (by kernel_rfl) ?_ ?_
  ·refine aa (aH bx (.pure 0 (.pure 1 (.pure 2 (.pure 3 (.read 4 (.pure 5 (.pure 6 (.pure 7 (.pure 8 (.read 9 (.pure 10 (.pure 11 (.pure 12 (.pure 13 (.pure 14 (.read 15 (.pure 16 (.pure 17 (.read 18 (.pure 19 (.read 20 (.pure 21 (.pure 22 (.pure 23 .nil)))))))))))))))))))))))) (by kernel_rfl) ?_);refine ym O (ym O (yn O (yp O (λ_=>(a8 bS O I70 O O)) ?_)));refine aG O O O cO O O (hBv3.c O) (yp O (λ_=>(aB O cO)) ?_);rcases hd with hd|⟨hd,rfl⟩|⟨hd,rfl⟩
   ·refine yp O (λ_=>bG (bK O O) (bF (by omega))) ?_;refine ym O (yno O (cA O O O (yno O (yno O (yno O (yno O (yno O (cA O O O (yno O (yno O (cA O O O (yno O (cA O O O (yno O (yno O (yp O (λ_=>(aK O)) ?_))))))))))))))));refine az (aI (rfl) (zKN ?_));have hk:Sp.kid ⟨lo,hi',fin⟩ ks i=⟨lo2,hi',fin⟩:=by unfold Sp.kid;rw[<-hlo2,if_neg (by simp;omega)]
    rw[hk];exact⟨rfl,hB3.chg0 (drw _),(drw _).mono (by simp)⟩
   ·refine yp O (λ_=>bG (bK O O) (bT (by omega))) ?_;refine ym O (yp O (λ_=>(a8 ja O I4 O O)) ?_);refine aG O O O uU4 O O (hB3.c O) (yp O (λ_=>(cz O)) ?_);refine ym O (yno O (yno O (yno O (cA O O O (yno O (yno O (cA O O O (yno O (cA O O O (yno O (yp O (λ_=>(aN O)) ?_)))))))))));refine yp O (λ_=>(aN O)) ?_;refine az (aW (rfl) (ae (zm O (zn O O (a7 O (a8 bS O I70 O O) (a7 O (aD cO O O ((hBv3.chg0 (drw w3)).c O)) (zm O (bD O (aS (i) cO I9 O (hks3.mod0 (drw w3)) O O (by first|rfl|omega) (hd)) ?_))))))));rintro _ ⟨bj,oj,rfl,hej,hbj⟩;refine a7 O (aD uU9 O O ((((hks3.mod0 (drw w3)).at hej (getD_some (d:=[]) hd)).c0 O))) ?_;refine a7 O (a8 ja O I9 O O) (aQ O (bJ I9 O O (hB3.chg0 (drw w3)) O O ((by decide:1<3)) O (rfl)) ?_);rintro w5 ⟨hB5,hc5,hs5⟩;refine a7 O (a8 ja O I4 O O) ?_;replace hB5:Blk w5 b [str lo2,str (ks.getD i []),.bool false]:=hB5;refine aQ O (bJ I4 O O (hB5) O O ((by decide:2<3)) O (rfl)) ?_;rintro w6 ⟨hB6,hc6,hs6⟩;refine a6 ?_;replace hB6:Blk w6 b [str lo2,str (ks.getD i []),.bool true]:=hB6;have hk:Sp.kid ⟨lo,hi',false⟩ ks i=⟨lo2,ks.getD i [],true⟩:=by unfold Sp.kid;rw[<-hlo2,if_pos (⟨hd,.inl rfl⟩)]
    rw[hk];exact⟨rfl,hB6,(((drw w3).mono (by simp)).tr hc5).tr hc6⟩
   ·refine yp O (λ_=>bG (bK O O) (bT (by omega))) ?_;refine ym O (yp O (λ_=>(a8 ja O I4 O O)) ?_);refine aG O O O uU4 O O (hB3.c O) (yp O (λ_=>(cz O)) ?_);refine ym O (ym O (yn O (yp O (λ_=>(a8 bS O I70 O O)) ?_)));refine aG O O O cO O O (hBv3.c O) (ym O (yex O (aS (i) cO I9 O (hks3) O O (by first|rfl|omega) (hd)) ?_));rintro _ ⟨bi,oi,rfl,hei,hbi⟩;refine aG O O O uU9 O O (((hks3.at hei (getD_some (d:=[]) hd)).c0 O)) ?_;refine yp O (λ_=>(a8 ja O I9 O O)) ?_;refine aG O O O uU9 O O (hB3.c O) (yp O (λ_=>(zi O O)) ?_);refine yp O (λ_=>(aK O)) ?_;refine yp O (λ_=>(aN O)) ?_;refine az (bX O (λhq=>?_) (λhq=>?_))
    ·refine ae (zm O (zn O O (a7 O (a8 bS O I70 O O) ?_)));refine a7 O (aD cO O O ((hBv3.chg0 (drw w3)).c O)) (zm O (bD O (aS (i) cO I9 O (hks3.mod0 (drw w3)) O O (by first|rfl|omega) (hd)) ?_));rintro _ ⟨bj,oj,rfl,hej,hbj⟩;refine a7 O (aD uU9 O O ((((hks3.mod0 (drw w3)).at hej (getD_some (d:=[]) hd)).c0 O))) ?_;refine a7 O (a8 ja O I9 O O) (aQ O (bJ I9 O O (hB3.chg0 (drw w3)) O O ((by decide:1<3)) O (rfl)) ?_);rintro w5 ⟨hB5,hc5,hs5⟩;refine a7 O (a8 ja O I4 O O) ?_;replace hB5:Blk w5 b [str lo2,str (ks.getD i []),.bool true]:=hB5;refine aQ O (bJ I4 O O (hB5) O O ((by decide:2<3)) O (rfl)) ?_;rintro w6 ⟨hB6,hc6,hs6⟩;refine a6 ?_;replace hB6:Blk w6 b [str lo2,str (ks.getD i []),.bool true]:=hB6;have hk:Sp.kid ⟨lo,hi',true⟩ ks i=⟨lo2,ks.getD i [],true⟩:=by unfold Sp.kid;rw[<-hlo2,if_pos (⟨hd,.inr hq⟩)]
     rw[hk];exact⟨rfl,hB6,(((drw w3).mono (by simp)).tr hc5).tr hc6⟩
    ·refine zKN ?_;have hk:Sp.kid ⟨lo,hi',true⟩ ks i=⟨lo2,hi',true⟩:=by unfold Sp.kid;rw[<-hlo2,if_neg (by rintro⟨_,g|g⟩ <;> simp_all)]
     rw[hk];exact⟨rfl,hB3.chg0 (drw _),(drw _).mono (by simp)⟩
  ·rintro vs J w4 ⟨rfl,hB4,hc4⟩;refine aa (ae ?_);have hob3:∃K,K=Sp.kid ⟨lo,hi',fin⟩ ks i:=⟨_,rfl⟩
   obtain⟨K,hK⟩:=hob3;rw[<-hK] at hB4;have hAt:At w4 b 0 [str K.lo,str K.hi,.bool K.fin]:=hB4.at (by rfl)
   refine a7 O (cK ja O Ac O hAt O) ?_;have hrb:rb≠b:=by omega
   have hR4:=(hR2.chg hc3 (by simp;exact hrb)).chg hc4 (by simp;exact hrb);refine aQ O (cH (l:=[str K.lo,str K.hi,.bool K.fin]) Ac O O hR4 O O (aM 3) (by simp[fI]) (da O)) ?_;rintro w5 ⟨hR5,hc5,hs5⟩;refine a6 (bC (di ?_));rw[<-hK];have hAr:At w5 rb 0 [str K.lo,str K.hi,.bool K.fin]:=hR5.at (by rfl)
   have k1:=hc1.1;have hc05:Chg [] w w5:=(hc02.t0 (hc3.tr hc4) (λx hx=>by have:=List.mem_singleton.1 hx;omega)).t0 hc5 (λx hx=>by have:=List.mem_singleton.1 hx;omega);exact⟨[spV K],⟨⟨⟨rb,0,none⟩,rfl,fu ja rfl Ac hAr rfl⟩,trivial⟩,rfl,hc05⟩
theorem HG{sp:Sp}{ks:List Bs}{ts:List Kd}{i:Nat}(h:Seps ks (msT ts))(hi:i<ts.length)(he:(sp.kid ks i).emp=true):fP sp ts[i].2.2=[]:=by
 have hm:(msT ts)[i]?=some ts[i].2.2:=by rw[msT,mJ,bM hi];rfl
 obtain⟨h1,h2⟩:=h.kid hm;refine GR (λp hp=>?_);cases hh:sp.has p.1 with
 | false => rfl
 | true =>
  have:=Sp.kid_has (ks:=ks) (i:=i) hh (λhi0=>h1 (i-1) (by omega) p hp) (λhl=>h2 hl p hp)
  rw[Sp.emp_has he] at this;cases this
theorem Ei(w:World)(s:Sp)(v:Bool)(h:s.emp=v):Ret Tryz.prog 101 #[spV s] w λr w'=>r=.bool v/\Chg [] w w':=h▸HP w s
theorem has_b(w:World)(s:Sp)(key:Bs)(v:Bool)(h:s.has key=v):Ret Tryz.prog 99 #[spV s,str key] w λr w'=>r=.bool v/\Chg [] w w':=h▸has_ok w s key
structure Wk(c:TC)(w:World)(b mb:Nat)(s:TP)(sp:Sp)(most:Nat)(f:PgF)(out:List Pr)(ov:Value):Prop where
 pg:c.pg w s
 blk:Blk w b [c.pv,.map (some mb),str sp.lo,str sp.hi,.bool sp.fin,.int .i64 most,ov]
 set:SetAt w mb f
 own:Own w ov out
 b1:b≠mb
 b2:b∉ay ov
 b3:mb∉ay ov
 fr:∀x∈b::mb::ay ov,c.w0.heap.size<=x/\x∉c.F
def WF(b mb:Nat)(ov:Value):List Nat:=b::mb::ay ov
section
variable {c:TC}{w w':World}{b mb:Nat}{s:TP}{sp:Sp}{most:Nat}{f:PgF}{out:List Pr}{ov:Value}
theorem Wk.chg{S:List Nat}(h:Wk c w b mb s sp most f out ov)(hm:Chg S w w')(hn:∀x∈c.F++WF b mb ov,x∉S)(hs:∀x∈S,c.w0.heap.size<=x):Wk c w' b mb s sp most f out ov :=
 ⟨h.pg.chg hm (λx hx=>hn x (cL _ hx)) hs,h.blk.chg hm (hn b (by simp[WF])),h.set.mod hm (hn mb (by simp[WF])),h.own.mod hm (λx hx=>hn x (by simp[WF,hx])),h.b1,h.b2,h.b3,h.fr⟩
theorem Wk.chg0(h:Wk c w b mb s sp most f out ov)(hm:Chg [] w w'):Wk c w' b mb s sp most f out ov:=h.chg hm (by simp) (by simp)
theorem Wk.lt(h:Wk c w b mb s sp most f out ov):∀x∈WF b mb ov,x<w.heap.size:=by
 intro x hx;simp only[WF,bZ] at hx;rcases hx with rfl|rfl|hx
 ·exact h.blk.lt
 ·exact h.set.lt
 ·exact h.own.sl.lt x hx
end
theorem Wk.app{c:TC}{w7 w8 w9:World}{b mb:Nat}{s:TP}{sp:Sp}{most:Nat}{f:PgF}{out out':List Pr}{ov v:Value}(h:Wk c w7 b mb s sp most f out ov)(hm:Chg (ay ov) w7 w8)(ho:Own w8 v out')(hin:In v (ay ov) w7.heap.size)(hB:Blk w9 b [c.pv,.map (some mb),str sp.lo,str sp.hi,.bool sp.fin,.int .i64 most,v])(hc:Chg [b] w8 w9):Wk c w9 b mb s sp most f out' v:=by
 have hlt:=h.lt;have hbv:b∉ay v:=λhh=>(hin b hh).elim h.b2 (λg=>by have:=hlt b (by simp[WF]);omega);have hw:=h.pg.1.2.1.1;have hbw:=h.fr b (by simp);refine⟨(h.pg.chg hm (λx hx hh=>(h.fr x (by simp[hh])).2 hx) (λx hx=>(h.fr x (by simp[hx])).1)).chg hc (λx hx hh=>by simp at hh;subst hh;exact hbw.2 hx) (λx hx=>by simp at hx;subst hx;exact hbw.1),hB,(h.set.mod hm h.b3).mod hc (by simp;exact h.b1.symm),ho.mod hc (λx hx hh=>by simp at hh;subst hh;exact hbv hx),h.b1,hbv,λhh=>(hin mb hh).elim h.b3 (λg=>by have:=hlt mb (by simp[WF]);omega),λx hx=>?_⟩;simp only[bZ] at hx;rcases hx with rfl|rfl|hx
 ·exact hbw
 ·exact h.fr _ (by simp)
 ·rcases hin x hx with g|g
  ·exact h.fr x (by simp[g])
  ·exact⟨by omega,λhh=>by have:=h.pg.lt x hh;omega⟩
theorem AA{sp:Sp}{out L:List Pr}{a:Pr}{most:Nat}(o3:List Pr)(h:o3=out++(fP sp L).take (most-out.length)):(sp.has a.1=true->o3.length<most->o3++[a]=out++(fP sp (L++[a])).take (most-out.length))/\((sp.has a.1=false∨most<=o3.length)->o3=out++(fP sp (L++[a])).take (most-out.length)):=by
 have hm:=xY out (fP sp L) (fP sp [a]) most;rw[<-h,<-rz] at hm;refine⟨λh1 h2=>?_,λh1=>?_⟩
 ·have:fP sp [a]=[a]:=by simp[fP,h1]
  rw[this,cd (by simp;omega)] at hm;exact hm
 ·rcases h1 with h1|h1
  ·have:fP sp [a]=[]:=by simp[fP,h1]
   rw[this,List.take_nil,cE] at hm;exact hm
  ·rw[xZ _ _ _ h1] at hm;exact hm
theorem CT.parts{V:UInt32->Bs}:∀{d:Nat} {n:Cn} {pg:List UInt32} {m:List Pr},CT V d n pg m->∃ts,cnI n=bs ts/\pg=pgT ts/\m=cnP n++prT ts/\(ts≠[]->(∃ks ids,n=.br ks ids)/\Seps (cnK n) (msT ts)/\(cnI n).length=(cnK n).length+1)/\∀t∈ts,∃q,d=q+1/\isT V q t.1 t.2.1 t.2.2/\t.2.2≠[]
 | 0, .leaf ps, _, m, ⟨h1, h2, _⟩ => ⟨[], rfl, h2, by rw [<- h1]; exact (cE _).symm, λe => absurd rfl e, λt ht => by simp at ht⟩
 | 0, .br _ _, _, _, h => h.elim
 | _ + 1, .leaf _, _, _, h => h.elim
 | d + 1, .br ks ids, _, _, ⟨ts, h1, h2, h3, h4, h5, h6⟩ => ⟨ts, h1, h3, h4, λ_ => ⟨⟨ks, ids, rfl⟩, h5, by show ids.length = ks.length + 1; rw [h1, bY]; have := h5.len; rw [msT, dr] at this; exact this⟩, λt ht => ⟨d, rfl, h6 t ht⟩⟩
theorem goes_ok(c:TC)(b mb:Nat)(s:TP)(sp:Sp)(most:Nat)(hmost:most<=1073741824):∀(d:Nat) (w:World) (id:UInt32) (pg:List UInt32) (m:List Pr) (deep:Nat) (f:PgF) (out:List Pr) (ov:Value),Wk c w b mb s sp most f out ov->isT s.V d id pg m->(∀x∈pg,s.P.now.written x=true)->deep+d<=40->(∀x∈pg,f x=false)->pg.Nodup->out.length+m.length<=10000 ->
  Ret Tryz.prog 58 #[.pointer (some ⟨b,0,none⟩),.int .u32 id.toNat,.int .i64 deep] w λr w'=>r=.int .i64 0/\∃f' ov',Wk c w' b mb s sp most f' (out++(fP sp m).take (most-out.length)) ov'/\(∀x,f' x=true->f x=true∨x∈pg)/\In ov' (ay ov) w.heap.size/\Chg (WF b mb ov) w w':=by
 intro d
 induction d using Nat.strongRecOn with
 | _ d ih =>
  intro w id pg m deep f out ov h ht hw hd hfr hnd hol;obtain⟨n,pg0,rfl,hct,hV,hz,hf⟩:=mE ht;have hg:=CT.good hct hz hf;obtain⟨st,hst,hsl⟩:=h.set;have hfid:=hfr id (by simp);have hlook:(cB id st).getD (.bool false)=.bool false:=by rw[SetAt.look hsl,hfid]
  have hB:=h.blk;have hlt:=h.lt;obtain⟨ts,hids,hpg,hmm,hsep,hkid⟩:=CT.parts hct;have hps:(cnP n).length<=200:=by
   cases n with
   | leaf ps => have := mB ps; have q : cT ps <= 480 := hz; show ps.length <= 200; omega
   | br ks ids => exact eh _
  have hils:(cnI n).length<=200:=by
   cases n with
   | leaf ps => exact eh _
   | br ks ids => have hgb : brOk ks ids := hg; exact bw hgb.few.2 (by decide)
  refine enter [6] Tryz.func58 O O (al O) (zSR (za O (a6 (aa (zSR (zmv O (bG (dk O O) (bF (by omega))) ?_))))));refine zm O (ah O (zm O (ah O (zn O O (ah O (a7 O (a8 mf O I114 O O) (ah O (a7 O (aD rj O O (hB.c O)) (ah O (zm O (ah O (a7 O (bG (fk (k:=id) rj (du bu) I4 O O O hst) hlook) ?_))))))))))));refine a7 O (aK O) (a6 (aI (rfl) (zKR (zm O (zn O O (a7 O (a8 mf O I114 O O) (a7 O (aD rj O O (hB.c O)) (zm O (aQ O (gz (k:=id) rj (du bu) O O O hst) ?_)))))))));rintro w1 ⟨hm1,hc1,hs1⟩;refine zNR (zm O (zn O O (a7 O (a8 mf O I24 O O) ?_)));have hmF:mb∉c.F:=(h.fr mb (by simp)).2;have hmw:c.w0.heap.size<=mb:=(h.fr mb (by simp)).1;have h1:Wk c w1 b mb s sp most (eX f id) out ov:=⟨h.pg.chg hc1 (λx hx hh=>by simp at hh;subst hh;exact hmF hx) (λx hx=>by simp at hx;subst hx;exact hmw),h.blk.chg hc1 (by simp;exact h.b1),⟨_,hm1,rq hsl id⟩,h.own.mod hc1 (λx hx hh=>by simp at hh;subst hh;exact h.b3 hx),h.b1,h.b2,h.b3,h.fr⟩
  have hB1:=h1.blk;refine a7 O (aD ma O O (hB1.c O)) (zm O (ag O C59 (uD c w1 s id n h1.pg (hw id (by simp)) hV hg) ?_));rintro _ w2 ⟨⟨v,rfl,hn2,hnew2⟩,hc2⟩;refine zm O (zx O (zx O (zaa O (a6 (aa (zSR (zmv O (bV O O) (a6 (aJ O (λh=>h O) ?_)))))))));refine zKN (aa (zSR (zm O (zn O O (a7 O (a8 bS O I33 O O) ?_)))));have h2:=h1.chg0 hc2;obtain⟨vb,vp,vk,vi⟩:=v;have hBv:=hn2.blk;have hpS:Sl w2 vp (cnP n):=hn2.p;have hob1:∃p c,vp=.slice p (cnP n).length c:=hpS.form rfl;obtain⟨pp,cp,rfl⟩:=hob1;have hiS:Sl w2 vi (cnI n):=hn2.i;have hob2:∃p c,vi=.slice p (cnI n).length c:=hiS.form rfl;obtain⟨pi,ci,rfl⟩:=hob2;have hBv:Blk w2 vb [.bool (cnL n),.slice pp (cnP n).length cp,vk,.slice pi (cnI n).length ci]:=hBv;refine a7 O (aD df O O (hBv.c O)) (a7 O (aB O df) (zm O (a6 (aq ?_))));have hk1:=hc1.1;have hk2:=hc2.1;have hlt2:=h2.lt;have hnF:∀x∈NV.F ⟨vb,.slice pp (cnP n).length cp,vk,.slice pi (cnI n).length ci⟩,x∉c.F++WF b mb ov:=λx hx hh=>by
   have q1:=hnew2 x hx;rcases List.mem_append.1 hh with g|g
   ·have:=h.pg.lt x g;omega
   ·have:=hlt x g;omega
  have hc02:Chg (WF b mb ov) w w2:=(hc1.mono (by simp[WF])).tr0 hc2;refine aX [0,2,7,44,45,46] (λk vs w'=>∃(i:Nat) (ov':Value),vs=[.pointer (some ⟨b,0,none⟩),.int .i64 deep,.pointer (some ⟨vb,0,none⟩),.slice pp (cnP n).length cp,.int .i64 (cnP n).length,.int .i64 i]/\i+k=(cnP n).length/\Wk c w' b mb s sp most (eX f id) (out++(fP sp ((cnP n).take i)).take (most-out.length)) ov'/\In ov' (ay ov) w2.heap.size/\w2.heap.size<=w'.heap.size/\Chg (WF b mb ov) w w'/\NAt w' ⟨vb,.slice pp (cnP n).length cp,vk,.slice pi (cnI n).length ci⟩ n) ((cnP n).length) ?_ ?_
  ·refine⟨0,ov,rfl,by omega,?_,λx hx=>.inl hx,aM _,hc02,hn2⟩;rw[mQ,show fP sp []=[] from rfl,List.take_nil,cE];exact h2
  ·rintro k vs J w3 ⟨i,ov3,rfl,hik,h3,hin3,hk23,hc3,hn3⟩;refine zSR (a7 O (bK O O) ?_);refine a6 (aa (aA O (λhil=>?_) (λhil=>?_)))
   ·refine zKN (aa (aq (aa (ae ?_))));have hob3:∃q,k=q+1:=⟨k-1,by omega⟩
    obtain⟨k,rfl⟩:=hob3;have hob4:∃a,(cnP n)[i]?=some a:=⟨_,bM (by omega)⟩
    obtain⟨a,ha⟩:=hob4;have hp3:Sl w3 (.slice pp (cnP n).length cp) (cnP n):=hn3.p;refine bD O (aS (i) df I49 O (hp3) O O (by first|rfl|omega) (by omega)) ?_;rintro _ ⟨bi,oi,rfl,hei,hbi⟩;refine a7 O (cK iM O I49 O (hp3.at hei ha) O) (aY O (dt (l:=[str [],str []]) I49 O O) ?_);rintro _ w4 ⟨tb,rfl,hnt,hT4,hc4,hl4⟩;refine aQ O (cH (l:=[str a.1,str a.2]) I49 O O hT4 O O (aM 2) (by simp[fI]) (da O)) ?_;rintro w5 ⟨hT5,hc5,hs5⟩;refine a6 (aa ?_);have hc35:=hc4.t1 hc5 hnt;have h5:=h3.chg0 hc35;have hn5:=hn3.chg0 hc35;have hAt:At w5 b 2 [str sp.lo,str sp.hi,.bool sp.fin]:=h5.blk.at (l:=[str sp.lo,str sp.hi,.bool sp.fin]) (off:=2) rfl;refine aH bx (.pure 0 (.pure 1 (.pure 2 (.read 3 (.pure 4 (.read 5 (.eff 6 [] (.pure 7 (.pure 8 (.pure 9 (.pure 10 (.read 11 (.pure 12 (.pure 13 (.pure 14 (.pure 15 (.read 16 (.pure 17 (.pure 18 .nil))))))))))))))))))) (by kernel_rfl) ?_;refine ym O (yn O (yp O (λ_=>(a8 mf O Ac O O)) ?_));refine dE O O O (λw'=>At w' b 2 [str sp.lo,str sp.hi,.bool sp.fin]) (hAt) (λw1 h1=>cK ja O Ac O h1 O) ?_;refine yp O (λ_=>(a8 iM O I9 O O)) ?_;refine aG O O O uU9 O O (hT5.c O) ?_;have hd:sp.has a.1=true∨sp.has a.1=false:=by cases sp.has a.1 <;> simp
    rcases hd with hd|hd
    ·refine ycl O C99 (has_b _ sp a.1 true hd) ?_;rintro _ w6 ⟨rfl,hc6⟩;refine⟨trivial,?_⟩;have hc56:Chg [] w5 w6:=(drw w5).tr hc6;have h6:=h5.chg0 hc56;have hn6:=hn5.chg0 hc56;have hT6:=hT5.chg0 hc56;have hTa:At w6 tb 0 [str a.1,str a.2]:=hT6.at (by rfl)
     have hup:(cnP n).take (i+1)=(cnP n).take i++[a]:=by
      have hob5:=List.getElem?_eq_some_iff.1 ha;obtain⟨q1,q2⟩:=hob5;rw[<-fM q1,q2]
     have hob6:∃o3,o3=out++(fP sp ((cnP n).take i)).take (most-out.length):=⟨_,rfl⟩
     obtain⟨o3,ho3⟩:=hob6;rw[<-ho3] at h6;have hone:=AA (a:=a) o3 ho3;rw[<-hup] at hone;have hob7:=h6.own.sl.form rfl;obtain⟨po,co,hov⟩:=hob7;subst hov;have hB6:=h6.blk;have hin6:In (.slice po o3.length co) (ay ov) w2.heap.size:=hin3;have hk26:w2.heap.size<=w6.heap.size:=bw hk23 (bw hc35.1 hc56.1);have hc06:Chg (WF b mb ov) w w6:=(hc3.tr0 hc35).tr0 hc56;refine ym O (ym O (yn O (yp O (λ_=>(a8 mf O I33 O O)) ?_)));refine aG O O O df O O (hB6.c O) (yp O (λ_=>(aB O df)) ?_);refine ym O (yn O (yp O (λ_=>(a8 mf O I3 O O)) ?_));refine aG O O O uU3 O O (hB6.c O) (yp O (λ_=>(bK O O)) ?_);refine yp O (λ_=>(aN O)) ?_;refine az (aA O (λhroom=>?_) (λhroom=>?_))
     ·have ho3l:o3.length<=10000:=by
       have q1:=congrArg List.length ho3;rw[aF,bz] at q1;have q2:(fP sp ((cnP n).take i)).length<=((cnP n).take i).length:=uL _ _;rw[bz] at q2;have q3:m.length=(cnP n).length+(prT ts).length:=by rw[hmm,aF]
       omega
      refine aH bx (.pure 0 (.pure 1 (.pure 2 (.pure 3 (.read 4 (.read 5 (.eff 6 [4] (.eff 7 [] (.pure 8 (.pure 9 (.eff 10 [] .nil))))))))))) (by kernel_rfl) ?_;refine ym O (ym O (yn O (yp O (λ_=>(a8 mf O I33 O O)) ?_)));refine aG O O O df O O (hB6.c O) (dE O O O (λw'=>At w' tb 0 [str a.1,str a.2]) (hTa) (λw1 h1=>cK iM O I49 O h1 O) ?_);refine fj O (qU a df I49 O O O O O (by decide)) ?_;rintro _ w7 ⟨b7,rfl,hB7,hn7,hc7,hl7⟩;have hc7:Chg [] w6 w7:=(drw w6).tr hc7;refine⟨⟨(hB6.chg0 hc7).c rfl,trivial⟩,?_⟩;have h7:=h6.chg0 hc7;refine fj O (DK df df I49 (.inr ⟨_,rfl⟩) O O O (by decide) (h7.own) ((Blk.sl1 hB7).src) O O (by simp;omega)) ?_;rintro v8 w8 h8;refine⟨trivial,?_⟩;refine yn O (yp O (λ_=>(a8 mf O I33 O O)) ?_);have hB8:=h7.blk.chg h8.mod h7.b2;have hown8:=h8.own;have hin8:=h8.inn;have hmod8:=h8.mod;have hob8:=hown8.sl.form rfl;obtain⟨p8,c8,rfl⟩:=hob8;refine dx O (bJ I33 O O (hB8) O O ((by decide:6<7)) O (rfl)) ?_;rintro w9 ⟨hB9,hc9,hs9⟩;refine⟨trivial,?_⟩;refine ez (ax (aj (ae (a7 O (aC O O (by omega)) (zm O ?_)))));refine a6 (aT (k) (bq (by omega) ?_));have h9:=h7.app hmod8 hown8 hin8 hB9 hc9;have k7:=hc7.1;have k8:=hmod8.1;have k9:=hc9.1;have hin9:In (.slice p8 (o3++[a]).length c8) (ay ov) w2.heap.size:=λx hx=>by
       rcases hin8 x hx with g|g
       ·exact hin6 x g
       ·exact .inr (by omega)
      have hc09:Chg (WF b mb ov) w w9:=((hc06.tr0 hc7).trans hmod8 (λ_ hx _=>hx) (λx hx hl=>(hin6 x hx).elim (λg=>by simp[WF,g]) (λg=>by omega))).tr (hc9.mono (by simp[WF]));have hn9:=((hn6.chg0 hc7).chg hmod8 (λx hx hh=>by
       rcases hin6 x hh with g|g
       ·exact hnF x hx (cf _ (by simp[WF,g]))
       ·have:=hn2.lt x hx;omega)).chg hc9 (λx hx hh=>by simp at hh;subst hh;exact hnF _ hx (cf _ (by simp[WF])))
      have hO:=hone.1 hd (by omega);rw[hO] at h9 hin9;exact⟨i+1,_,au rfl (au O (au O (au O (au O (au (bL (by omega)) bO))))),by omega,h9,hin9,by omega,hc09,hn9⟩
     ·refine bQ (ax (aj (ae (a7 O (aC O O (by omega)) (zm O ?_)))));refine a6 (aT (k) (bq (by omega) ?_));exact⟨i+1,_,au rfl (au O (au O (au O (au O (au (bL (by omega)) bO))))),by omega,(hone.2 (.inr (by omega)))▸h6,hin6,hk26,hc06,hn6⟩
    ·refine ycl O C99 (has_b _ sp a.1 false hd) ?_;rintro _ w6 ⟨rfl,hc6⟩;refine⟨trivial,?_⟩;have hc56:Chg [] w5 w6:=(drw w5).tr hc6;have h6:=h5.chg0 hc56;have hn6:=hn5.chg0 hc56;have hT6:=hT5.chg0 hc56;have hTa:At w6 tb 0 [str a.1,str a.2]:=hT6.at (by rfl)
     have hup:(cnP n).take (i+1)=(cnP n).take i++[a]:=by
      have hob9:=List.getElem?_eq_some_iff.1 ha;obtain⟨q1,q2⟩:=hob9;rw[<-fM q1,q2]
     have hob10:∃o3,o3=out++(fP sp ((cnP n).take i)).take (most-out.length):=⟨_,rfl⟩
     obtain⟨o3,ho3⟩:=hob10;rw[<-ho3] at h6;have hone:=AA (a:=a) o3 ho3;rw[<-hup] at hone;have hob11:=h6.own.sl.form rfl;obtain⟨po,co,hov⟩:=hob11;subst hov;have hB6:=h6.blk;have hin6:In (.slice po o3.length co) (ay ov) w2.heap.size:=hin3;have hk26:w2.heap.size<=w6.heap.size:=bw hk23 (bw hc35.1 hc56.1);have hc06:Chg (WF b mb ov) w w6:=(hc3.tr0 hc35).tr0 hc56;refine ym O (yno O (yno O (yno O (cA O O O (yno O (yno O (yno O (yno O (cA O O O (yno O (yp O (λ_=>(aK O)) ?_)))))))))));refine az (aI (rfl) (bQ (ax (aj (ae (a7 O (aC O O (by omega)) (zm O ?_)))))));refine a6 (aT (k) (bq (by omega) ?_));exact⟨i+1,_,au rfl (au O (au O (au O (au O (au (bL (by omega)) bO))))),by omega,(hone.2 (.inl hd))▸h6,hin6,hk26,hc06,hn6⟩
   ·refine aO (an (an (aE (aj (aa (zSR (zm O (zn O O (a7 O (a8 bS O I41 O O) ?_)))))))));rw[cd (l:=cnP n) (i:=i) (by omega)] at h3;have hBv3:Blk w3 vb [.bool (cnL n),.slice pp (cnP n).length cp,vk,.slice pi (cnI n).length ci]:=hn3.blk;have hil2:(cnI n).length=ts.length:=by rw[hids,bY]
    have hlm:(prT ts).length<=m.length:=by rw[hmm,aF];omega
    refine a7 O (aD aZ O O (hBv3.c O)) (a7 O (aB O aZ) (zm O (a6 (aq (aX [0,2,7,83,84,85] (λk vs w'=>∃(i:Nat) (ov':Value) (f':PgF),vs=[.pointer (some ⟨b,0,none⟩),.int .i64 deep,.pointer (some ⟨vb,0,none⟩),.slice pi (cnI n).length ci,.int .i64 (cnI n).length,.int .i64 i]/\i+k=(cnI n).length/\Wk c w' b mb s sp most f' (out++(fP sp (cnP n++prT (ts.take i))).take (most-out.length)) ov'/\(∀x,f' x=true->f x=true∨x=id∨x∈pgT (ts.take i))/\In ov' (ay ov) w2.heap.size/\w2.heap.size<=w'.heap.size/\Chg (WF b mb ov) w w'/\NAt w' ⟨vb,.slice pp (cnP n).length cp,vk,.slice pi (cnI n).length ci⟩ n) ((cnI n).length) ?_ ?_)))))
    ·refine⟨0,ov3,eX f id,rfl,by omega,?_,λx hx=>?_,hin3,hk23,hc3,hn3⟩
     ·rw[mQ,show prT []=[] from rfl,cE];exact h3
     ·unfold eX at hx;simp only[mR,decide_eq_true_eq] at hx;rcases hx with g|g
      ·exact .inr (.inl g)
      ·exact .inl g
    ·rintro k vs J w4 ⟨i,ov4,f4,rfl,hik,h4,hf4,hin4,hk24,hc4,hn4⟩;refine zSR (a7 O (bK O O) ?_);refine a6 (aa (aA O (λhil=>?_) (λhil=>?_)))
     ·refine zKN (aa (aq (zSR (zm O ?_))));have hob12:∃q,k=q+1:=⟨k-1,by omega⟩
      obtain⟨k,rfl⟩:=hob12;have hit:i<ts.length:=by omega
      have hne:ts≠[]:=λe=>by rw[e] at hit;simp at hit
      have hob13:=hsep hne;obtain⟨⟨ks,ids,hn⟩,hsp,hkl⟩:=hob13;have hob14:=hkid ts[i] (lQ hit);obtain⟨q,hdq,hkt,hkm⟩:=hob14;have hn4':NAt w4 ⟨vb,.slice pp (cnP n).length cp,vk,.slice pi (cnI n).length ci⟩ (.br (cnK n) (cnI n)):=by
       have:n=.br (cnK n) (cnI n):=by rw[hn];rfl
       rw[<-this];exact hn4
      have hiS4:Sl w4 (.slice pi (cnI n).length ci) (cnI n):=hn4.i;have hget:(cnI n)[i]?=some ts[i].1:=by rw[hids,bs,mJ,bM hit];rfl
      have hAt:At w4 b 2 [str sp.lo,str sp.hi,.bool sp.fin]:=h4.blk.at (l:=[str sp.lo,str sp.hi,.bool sp.fin]) (off:=2) rfl;refine bD O (aS (i) aZ I25 O (hiS4) O O (by first|rfl|omega) (by omega)) ?_;rintro _ ⟨bi,oi,rfl,hei,hbi⟩;refine a7 O (aD bu O O (((hiS4.at hei hget).c0 O))) (zaa O (a6 (aa (aa (aH bx (.pure 0 (.pure 1 (.pure 2 (.read 3 (.pure 4 (.pure 5 (.eff 6 [] (.eff 7 [] (.pure 8 (.pure 9 (.pure 10 (.pure 11 (.read 12 (.pure 13 (.pure 14 (.pure 15 (.pure 16 (.read 17 (.pure 18 (.pure 19 .nil)))))))))))))))))))) (by kernel_rfl) ?_)))));refine ym O (yn O (yp O (λ_=>(a8 mf O Ac O O)) ?_));refine dE O O O (λw'=>At w' b 2 [str sp.lo,str sp.hi,.bool sp.fin]) (hAt) (λw1 h1=>cK ja O Ac O h1 O) ?_;refine ym O (ym O (ycl O C100 (kid_ok _ sp ⟨vb,.slice pp (cnP n).length cp,vk,.slice pi (cnI n).length ci⟩ (cnK n) (cnI n) i (hn4'.chg0 (drw w4)) hkl (by omega) (by omega)) ?_));rintro _ w5 ⟨rfl,hc5⟩;refine⟨trivial,?_⟩;have hob15:∃K,K=sp.kid (cnK n) i:=⟨_,rfl⟩
      obtain⟨K,hK⟩:=hob15;have hd:K.emp=true∨K.emp=false:=by cases K.emp <;> simp
      have hc45:Chg [] w4 w5:=(drw w4).tr hc5;have hob16:∃o4,o4=out++(fP sp (cnP n++prT (ts.take i))).take (most-out.length):=⟨_,rfl⟩
      obtain⟨o4,ho4⟩:=hob16;rw[<-ho4] at h4;have hob17:=h4.own.sl.form rfl;obtain⟨po,co,hov⟩:=hob17;subst hov;have htk:prT (ts.take (i+1))=prT (ts.take i)++ts[i].2.2:=by rw[<-fM hit,g9,fT];simp[prT]
      have hmore:=xY out (fP sp (cnP n++prT (ts.take i))) (fP sp ts[i].2.2) most;rw[<-ho4,<-rz,bP,<-htk] at hmore;have hfup:∀{f':PgF},(∀x,f' x=true->f4 x=true∨x∈ts[i].2.1)->∀x,f' x=true->f x=true∨x=id∨x∈pgT (ts.take (i+1)):=λ{f'} hf' x hx=>by
       have htp:pgT (ts.take (i+1))=pgT (ts.take i)++ts[i].2.1:=by rw[<-fM hit,eO,eM];simp[pgT]
       rw[htp];rcases hf' x hx with g|g
       ·rcases hf4 x g with g|g|g
        ·exact .inl g
        ·exact .inr (.inl g)
        ·exact .inr (.inr (cL _ g))
       ·exact .inr (.inr (cf _ g))
      rcases hd with hd|hd
      ·refine ycl O C101 (Ei _ (sp.kid (cnK n) i) true (hK▸hd)) ?_;rintro _ w6 ⟨rfl,hc6⟩;refine⟨trivial,?_⟩;refine ym O (yno O (yno O (yno O (cA O O O (yno O (yno O (yno O (yno O (cA O O O (yno O (yp O (λ_=>(aN O)) ?_)))))))))));refine az (aW (rfl) (aO (an (aE (aj (ae (a7 O (aC O O (by omega)) (zm O ?_))))))));refine a6 (aT (k) (bq (by omega) ?_));have hsk:=HG hsp hit (hK▸hd);rw[hsk,List.take_nil,cE] at hmore;rw[hmore] at h4 hin4;have hc46:=hc45.tr hc6;exact⟨i+1,_,f4,au rfl (au O (au O (au O (au O (au (bL (by omega)) bO))))),by omega,h4.chg0 hc46,hfup (λx hx=>.inl hx),hin4,bw hk24 hc46.1,hc4.tr0 hc46,hn4.chg0 hc46⟩
      ·refine ycl O C101 (Ei _ (sp.kid (cnK n) i) false (hK▸hd)) ?_;rintro _ w6 ⟨rfl,hc6⟩;refine⟨trivial,?_⟩;refine ym O (ym O (yn O (yp O (λ_=>(a8 mf O I33 O O)) ?_)));have hc46:=hc45.tr hc6;have h6:=h4.chg0 hc46;have hn6:=hn4.chg0 hc46;have hB6:=h6.blk;refine aG O O O df O O (hB6.c O) (yp O (λ_=>(aB O df)) ?_);refine ym O (yn O (yp O (λ_=>(a8 mf O I3 O O)) ?_));refine aG O O O uU3 O O (hB6.c O) (yp O (λ_=>(fC O O)) ?_);refine yp O (λ_=>(aK O)) ?_;refine az (aA O (λhfull=>?_) (λhfull=>?_))
       ·refine aO (an (aE (aj (ae (a7 O (aC O O (by omega)) (zm O ?_))))));refine a6 (aT (k) (bq (by omega) ?_));rw[xZ _ _ _ (by omega)] at hmore;rw[hmore] at h6 hin4;exact⟨i+1,_,f4,au rfl (au O (au O (au O (au O (au (bL (by omega)) bO))))),by omega,h6,hfup (λx hx=>.inl hx),hin4,bw hk24 hc46.1,hc4.tr0 hc46,hn6⟩
       ·refine zKR (zmm O (zmv O (aC O O (by omega)) ?_));have hsplit:pgT ts=pgT (ts.take i)++(ts[i].2.1++pgT (ts.drop (i+1))):=by
         rw[<-eM,<-eO,<-jE hit,eZ]
        have hsub:∀x∈ts[i].2.1,x∈pg0:=λx hx=>by rw[hpg,hsplit];simp[hx]
        have hnd0:pg0.Nodup:=(List.nodup_cons.1 hnd).2;rw[hpg,hsplit,kh] at hnd0;have hndi:=(List.nodup_append.1 hnd0.2.1).1;have hfri:∀x∈ts[i].2.1,f4 x=false:=λx hx=>by
         cases hfx:f4 x with
         | false => rfl
         | true =>
          rcases hf4 x hfx with g|g|g
          ·rw[hfr x (bN _ (hsub x hx))] at g;cases g
          ·rw[g] at hx;exact absurd (hsub id hx) (List.nodup_cons.1 hnd).1
          ·exact absurd O (hnd0.2.2 x g x (cL _ hx))
        have hoi:o4.length+ts[i].2.2.length<=10000:=by
         have q1:=congrArg List.length ho4;rw[aF,bz] at q1;have q2:(fP sp (cnP n++prT (ts.take i))).length<=(cnP n++prT (ts.take i)).length:=uL _ _;have q3:prT ts=prT (ts.take i)++(ts[i].2.2++prT (ts.drop (i+1))):=by rw[<-fT,<-g9,<-jE hit,eZ]
         have q4:=congrArg List.length q3;have q5:=congrArg List.length hmm;simp only[aF] at q2 q4 q5;omega
        refine ag O C58 (ih q (by omega) _ ts[i].1 ts[i].2.1 ts[i].2.2 (deep+1) f4 o4 _ h6 hkt (λx hx=>hw x (bN _ (hsub x hx))) (by omega) hfri hndi hoi) ?_;rintro _ w7 ⟨rfl,f7,ov7,h7,hf7,hin7,hc7⟩;refine za O (zNR (zmv O (bV O O) (a6 (aJ O (λh=>h O) ?_))));refine bQ (ax (aj (ae (a7 O (aC O O (by omega)) (zm O ?_)))));refine a6 (aT (k) (bq (by omega) ?_));rw[hmore] at h7;have k46:=hc46.1;have k7:=hc7.1;exact⟨i+1,_,f7,au rfl (au O (au O (au O (au O (au (bL (by omega)) bO))))),by omega,h7,hfup hf7,λx hx=>by
         rcases hin7 x hx with g|g
         ·exact hin4 x g
         ·exact .inr (by omega),by omega,(hc4.tr0 hc46).trans hc7 (λ_ hx _=>hx) (λx hx hl=>by
          simp only[WF,bZ] at hx ⊢;rcases hx with g|g|g
          ·exact .inl g
          ·exact .inr (.inl g)
          ·exact(hin4 x g).elim (λg=>.inr (.inr g)) (λg=>by omega)),hn6.chg hc7 (λx hx hh=>by
          simp only[WF,bZ] at hh;rcases hh with g|g|g
          ·exact hnF x hx (cf _ (by simp[WF,g]))
          ·exact hnF x hx (cf _ (by simp[WF,g]))
          ·rcases hin4 x g with g|g
           ·exact hnF x hx (cf _ (by simp[WF,g]))
           ·have:=hn2.lt x hx;omega)⟩
     ·refine aO (an (an (aE (aj (zSR (za O (a6 (zrf ?_))))))));have hT:ts.take i=ts:=cd (by omega);rw[hT,<-hmm] at h4;rw[hT] at hf4;refine⟨rfl,f4,ov4,h4,λx hx=>?_,λx hx=>(hin4 x hx).imp (λg=>g) (λg=>by omega),hc4⟩;rcases hf4 x hx with g|g|g
      ·exact .inl g
      ·exact .inr (by simp[g])
      ·exact .inr (by rw[hpg];simp[g])
theorem BF(c:TC)(w:World)(s:TP)(root:UInt32)(d:Nat)(pg:List UInt32)(m:List Pr)(lo hi:Bs)(most:Nat)(hm0:0<most)(hm1:most<=1073741824)(h:c.pg w s)(ht:isT s.V d root pg m)(hw:∀x∈pg,s.P.now.written x=true)(hd:d<=40)(hnd:pg.Nodup)(hml:m.length<=10000) :
  Ret Tryz.prog 21 #[c.pv,.int .u32 root.toNat,str lo,str hi,.int .i64 most] w λr w'=>(∃ov,r=.tuple #[ov,.int .i64 0]/\Own w' ov ((fP ⟨lo,hi,decide (hi≠[])⟩ m).take most)/\In ov [] w.heap.size)/\Chg [] w w':=by
 refine enter [10,11] Tryz.func21 O O (al O) (zSR (zaa O (a6 (aa (zSR (zmv O (fN O O) (a6 (aJ O (by omega) ?_))))))));refine zKR (zm O (aY O (nR UInt32) ?_));rintro _ w1 ⟨mb,rfl,hnm,hM1,hc1,hl1⟩;refine zmm O (zmv O (tw O O) (a7 O (bW ja Ac O (zs:=[str [],str [],.bool false]) O O (bR O O O (al O) (bR O O O (al O) (bR O O O (al O) (eb (cs':=[str lo,str hi,.bool (decide (hi≠[]))]) O))))) ?_));refine zmv O (bW mf I118 O (zs:=[.pointer none,.map none,str [],str [],.bool false,.int .i64 0,.slice none 0 0]) O O (bR O O O (al O) (bR O O O (al O) (bR O O O (al O) (bR O O O (al O) (eb (cs':=[c.pv,.map (some mb),str lo,str hi,.bool (decide (hi≠[])),.int .i64 most,.slice none 0 0]) O)))))) ?_;refine aY O (cZ (l:=[c.pv,.map (some mb),str lo,str hi,.bool (decide (hi≠[])),.int .i64 most,.slice none 0 0]) O O) ?_;rintro _ w2 ⟨b,rfl,hnb,hB2,hc2,hl2⟩;refine za O (a6 (aa (zSR (zmm O ?_))));have hc02:=hc1.tr hc2;have k1:=hc1.1;have hw0:=h.1.2.1.1;have hk2:Wk c w2 b mb s ⟨lo,hi,decide (hi≠[])⟩ most ko [] (.slice none 0 0):=⟨h.chg0 hc02,hB2,(SetAt.nil hM1).chg0 hc2,Own.nil _,by omega,by simp[ay],by simp[ay],λx hx=>by
  have hx:x∈[b,mb]:=hx;simp only[bZ,List.mem_nil_iff,or_false] at hx;rcases hx with rfl|rfl
  ·exact⟨by omega,λhh=>by have:=h.lt _ hh;omega⟩
  ·exact⟨by omega,λhh=>by have:=h.lt _ hh;omega⟩⟩
 refine ag O C58 (goes_ok c b mb s ⟨lo,hi,decide (hi≠[])⟩ most hm1 d w2 root pg m 0 ko [] (.slice none 0 0) hk2 ht hw (by omega) (λx _=>rfl) hnd (by simpa using hml)) ?_;rintro _ w3 ⟨rfl,f3,ov3,hk3,hf3,hin3,hc3⟩;refine za O (zNR (zmv O (bV O O) (a6 (aJ O (λh=>h O) ?_))));refine zKR (zm O (zn O O (a7 O (a8 mf O I33 O O) ?_)));have hB3:=hk3.blk;refine a7 O (aD df O O (hB3.c O)) (zaa O (a6 (zrf ?_)));have hown:=hk3.own;rw[dG,kY,Nat.sub_zero] at hown;refine⟨⟨ov3,rfl,hown,λx hx=>?_⟩,hc02.t0 hc3 (λx hx=>?_)⟩
 ·rcases hin3 x hx with g|g
  ·simp[ay] at g
  ·exact .inr (by have:=hc02.1;omega)
 ·have hx:x∈[b,mb]:=hx;simp only[bZ,List.mem_nil_iff,or_false] at hx;rcases hx with rfl|rfl <;> omega
theorem Il(w:World)(pv:Value)(root:UInt32)(lo hi:Bs)(most:Int)(hm:most<=0) :
  Ret Tryz.prog 21 #[pv,.int .u32 root.toNat,str lo,str hi,.int .i64 most] w λr w'=>r=.tuple #[.slice none 0 0,.int .i64 0]/\w=w':=by
 refine enter [10,11] Tryz.func21 O O (al O) (zSR (zaa O (a6 (aa (zSR (zmv O (fN O O) (a6 (bI O (hm) (zSR (zaa O (a6 (zrt ?_))))))))))));exact⟨rfl,rfl⟩
theorem TLen_ok(c:TC)(w:World)(s:TP)(root:UInt32)(d:Nat)(pg:List UInt32)(m:List Pr)(h:c.pg w s)(ht:isT s.V d root pg m)(hw:∀x∈pg,s.P.now.written x=true)(hd:d<=40)(hnd:pg.Nodup)(hml:m.length<=10000) :
  Ret Tryz.prog 27 #[c.pv,.int .u32 root.toNat] w λr w'=>r=.tuple #[.int .i64 m.length,.int .i64 0]/\Chg [] w w':=by
 refine enter [4,5] Tryz.func27 O O (al O) (zSR (zaa O (zNR (zmm O (ag O C21 (BF c w s root d pg m [] [] 1073741824 (by decide) (aM _) h ht hw hd hnd hml) ?_)))));rintro _ w1 ⟨⟨ov,rfl,ho,hi⟩,hc1⟩;have hall:(fP ⟨[],[],decide (([]:Bs)≠[])⟩ m).take 1073741824=m:=by
  have:fP ⟨[],[],decide (([]:Bs)≠[])⟩ m=m:=fE (λp _=>by simp[Sp.has,uC])
  rw[this,cd (by omega)]
 rw[hall] at ho;have hob1:=ho.sl.form rfl;obtain⟨p1,c1,rfl⟩:=hob1;refine zm O (zx O (zx O (zaa O (zNR (zmv O (aB O df) (zma O (za O (a6 (zrf ?_)))))))));exact⟨rfl,hc1⟩
structure Ck(c:TC)(w:World)(b mb:Nat)(s:TP)(f:PgF)(dp:Int):Prop where
 pg:c.pg w s
 blk:Blk w b [c.pv,.map (some mb),.int .i64 dp]
 set:SetAt w mb f
 b1:b≠mb
 fr:∀x∈[b,mb],c.w0.heap.size<=x/\x∉c.F
theorem Ck.chg0{c:TC}{w w':World}{b mb:Nat}{s:TP}{f:PgF}{dp:Int}(h:Ck c w b mb s f dp)(hm:Chg [] w w'):Ck c w' b mb s f dp:=⟨h.pg.chg0 hm,h.blk.chg0 hm,h.set.chg0 hm,h.b1,h.fr⟩
end Go.Proofs.YtpbfapbajmdlkaaGreat
namespace Go.Proofs.YtpbfapbajmdlkaaGreat
open Go Go.Sac Go.RowKit Go.Maps Go.Sort
set_option maxRecDepth 100000 in
set_option maxHeartbeats 1000000 in
theorem xr {H : Type} (F : Fence) (n : Nat) (h10 : F.fn 116) (hro : F.round = none) (hn : 1 ≤ n) (l Bm b nn : Nat) (D0 : DataW H) {R : Value → Option (DataW H × List MemPlace)} (J : List Int → World → Prop)
    (hY : ∀ pre x W, J pre W → pre.length < Maps.size D0 → YieldAt F (n - 1) Tryz.prog l #[(kQ .u32) x] W fun e W' => e = .returned (.bool true) ∧ J (pre ++ [x]) W' ∧ KeepsWalks W W')
    (W : World) (hJ : AbidesFrom W.heap.size J) (hm : W.cell? ⟨Bm, 0, none⟩ = some (.map (some b))) (hown : W.ownsMap Tryz.prog 25 R b nn D0) (h0 : J [] W) :
    CallsIn F n Tryz.prog 116 #[.func (.yield l) #[] #[], .pointer (some ⟨Bm, 0, none⟩)] W fun e W' => (∃ v, e = .returned v) ∧ ∃ ss : List Int, ss.Perm (intKeys D0) ∧ J ss W' := by
  refine callsIn_of_wp Tryz.func116 rfl h10 ?_ hro
  simp only [Tryz.ntmps116, List.size_toArray, List.length_cons, List.length_nil, Nat.reduceAdd, Nat.reduceSub, Array.replicate_succ, Array.replicate_zero, List.push_toArray, List.append_toArray, List.nil_append, List.cons_append]
  gi_wp2_with (first
    | (gi_at_range; refine wpListIn_range_own _ rfl _ 114 rfl 25 4 (int_keyed bu) rj _ b nn _ rfl hown ?_; intro w0 hrg0 hg0 hs0)
    | gi_in)
  go_frame
  gi_loopw [3] (fun _ wr => ∃ (left : Lit → Bool) (cnt : Nat) (ss : List Int), wr.ranges Tryz.prog 25 R b W.heap.size nn D0 left cnt ∧ ss.length + cnt ≤ Maps.size D0 ∧ Came .u32 D0 left ss ∧ J ss wr)
    (fun _ wr => wr.rangeLeft b W.heap.size)
  case atStart =>
    exact ⟨_, _, [], hrg0, by simp, Came.start .u32 D0, hJ [] W w0 none h0 hg0 (fun r e => by cases e)⟩
  case round =>
    obtain ⟨left, cnt, ss, hrg, hcs, hC, hJs⟩ := hrel
    gi_wp2_with (first
      | (gi_at_next; refine wpListIn_next_ranges _ rfl _ rfl 25 (int_keyed bu) R (kQ .u32) id (fun key kl hk => by obtain ⟨x, hx, _⟩ := Maps.keyOf_int_inv bu hk; exact ⟨x, hx⟩) (fun v _ _ => ⟨v, rfl⟩) b W.heap.size nn _ _ _ rfl hrg ?_ ?_)
      | gi_in)
    ·
      intro hc0 hl0
      gi_wp2
      go_end0
      exact ⟨⟨_, rfl⟩, ss, hC.perm hown (int_keyed bu) bu hl0, hJs⟩
    ·
      intro x c kl yd yp w2 cnt2 hkey hlk hv hat hrg2 hlt hg2 hs2 hen
      obtain ⟨x', ex, rfl, _⟩ := Maps.keyOf_int_inv bu hkey
      obtain rfl : x = x' := Bh ex
      have hJ2 : J ss w2 := hJ ss wr w2 (some W.heap.size) hJs hg2 (fun r e => by cases e; exact ⟨Nat.le_refl _, hrg.iter_walk⟩)
      obtain ⟨fn, tmps, assign, body, hy, hR⟩ := hY ss x w2 hJ2 (by omega)
      clear hs2
      gi_wp2
      refine hR.mono ?_
      rintro e W3 ⟨rfl, hJ3, hk3⟩
      gi_wp2
      have hrg3 := hrg2.of_walks hk3
      go_roundw
      case rel => exact ⟨_, cnt2, ss ++ [x], hrg3, by simp; omega, hC.step hlk hat, hJ3⟩
      case measure => rw [hrg3.left_eq, hrg.left_eq]; exact hlt
theorem wx {H : Type} (F : Fence) (n : Nat) (h10 : F.fn 116) (hro : F.round = none) (hn : 1 ≤ n) (Bm b nn : Nat) (D0 : DataW H) {R : Value → Option (DataW H × List MemPlace)} (w : World) (hBm : Bm < w.heap.size)
    (hm : w.cell? ⟨Bm, 0, none⟩ = some (.map (some b))) (hown : w.ownsMap Tryz.prog 25 R b nn D0) :
    SeqGives F n Tryz.prog 116 #[.pointer (some ⟨Bm, 0, none⟩)] (kQ .u32) (fun ss => ss.Perm (intKeys D0)) (Maps.size D0) w := fun l J W hW hJ hY h0 => by
  have hown' : W.ownsMap Tryz.prog 25 R b nn D0 := by
    have hbl := hown.lt
    obtain ⟨es, clock, hb, Ft, hs, hD⟩ := hown
    exact ⟨es, clock, (hW.block b hbl).trans hb, Ft, hs, hD⟩
  exact xr F n h10 hro hn l Bm b nn D0 J hY W hJ ((hW.cell (p := ⟨Bm, 0, none⟩) hBm).trans hm) hown' h0
def nj : Code := (Code.region 2 #[{ dst := some 5, op := Op.assign (Operand.tmp 7), type := 25, pos := "iter.go:51", after := #[], guard := none }] false)
def qu : Code := (Code.block 1 (Code.region 3 #[{ dst := some 8, op := Op.load 41 (Operand.tmp 2), type := 41, pos := "iter.go:52", after := #[], guard := none }, { dst := some 9, op := Op.move (Operand.tmp 5), type := 25, pos := "iter.go:52", after := #[], guard := none }, { dst := some 10, op := Op.buildSlice 41 1 #[(0, Operand.tmp 9)], type := 41, pos := "iter.go:52", after := #[{ on := 1, ground := Ground.data }], guard := none }, { dst := some 11, op := Op.call { callee := Callee.builtin Builtin.append, args := #[Operand.tmp 8, Operand.tmp 10], argTypes := #[41, 41] }, type := 41, pos := "iter.go:52", after := #[{ on := 0, ground := Ground.data }, { on := 2, ground := Ground.data }], guard := none }, { dst := none, op := Op.store 41 (Operand.tmp 2) (Operand.tmp 11), type := 0, pos := "iter.go:52", after := #[{ on := 3, ground := Ground.data }, { on := 3, ground := Ground.chain }, { on := 0, ground := Ground.phase }, { on := 1, ground := Ground.phase }, { on := 2, ground := Ground.phase }, { on := 3, ground := Ground.phase }], guard := none }] false))
def gr (fn : FuncId) (sv : Value) (Bs D : Nat) (st : LoopState) (pend : Option Code) : Loop :=
  { state := st, pending := pend, fn, tmps := #[.slice none 0 0, sv, .pointer (some ⟨Bs, 0, none⟩), undef, .slice none 0 0, undef, sv, undef, undef, undef, undef, undef, undef], params := #[7], assign := nj, body := qu, defers := D }
structure k32_ApAt (w0 : World) (fn : FuncId) (sv : Value) (Bs l D : Nat) (ss : List Int) (W : World) : Prop where
  box : ∃ v, W.heap[Bs]? = some (.cells #[v] 41 (0, 0)) ∧ W.ownsRow w0.heap.size 25 1 v ss.length (ss.map (kQ .u32)) ∧ (v = .slice none 0 0 ↔ ss = [])
  L : W.heap[l]? = some (.loop (gr fn sv Bs D .ready none))
  K : W.heap[D]? = some (.deferred (some []))
  below : Below w0.heap.size w0 W
theorem wh {W W' : World} {row : Option Nat} {base : Nat} {e : TypeId} {size : Nat} {v : Value} {k : Nat} {xs : List Value} (h : W.ownsRow base e size v k xs) (hg : W.grownBy W' row)
    (hrow : ∀ r, row = some r → ∃ o : Obj, W.heap[r]? = some o ∧ o.isWalk = true) : W'.ownsRow base e size v k xs := by
  refine h.kept hg ?_
  rcases h.2 with ⟨rfl, _⟩ | ⟨g, cap, cur, rfl, _, hgb, _⟩
  · exact .inl rfl
  · refine .inr fun e' => ?_
    obtain ⟨o, ho, hw⟩ := hrow g (by simpa [Value.ownBlock] using e'.symm)
    rw [hgb] at ho; cases ho; cases hw
theorem xt (w0 : World) (fn : FuncId) (sv : Value) (Bs l D B : Nat) (hB : w0.heap.size ≤ B) : AbidesFrom B (k32_ApAt w0 fn sv Bs l D) := fun s W W' row h hg hrow => by
  have hrow' : ∀ r, row = some r → ∃ o : Obj, W.heap[r]? = some o ∧ o.isWalk = true := fun r e => (hrow r e).2
  obtain ⟨v, hv, hr, hn⟩ := h.box
  exact ⟨⟨v, (grownBy_keeps hg hrow' hv rfl).trans hv, wh hr hg hrow', hn⟩, (grownBy_keeps hg hrow' h.L rfl).trans h.L, (grownBy_keeps hg hrow' h.K rfl).trans h.K,
    h.below.grown hg h.below.size (fun k e => Nat.le_trans hB (hrow k e).1)⟩
theorem gu (W : World) (l : Nat) (o : Obj) : W.grownBy (W.putObj l o) (some l) :=
  ⟨rfl, rfl, rfl, by simp, fun k _ hk => World.putObj_heap_other (fun e => hk (by rw [e]))⟩
theorem tc (W : World) (b : Nat) (v : Value) : W.grownBy (W.setCell ⟨b, 0, none⟩ v) (some b) :=
  ⟨rfl, rfl, rfl, (KeepsWalks.setCell W _ v).size, fun k _ hk => Below.heap_setCell _ _ _ k (fun e => hk (by rw [e]))⟩
theorem jI {W : World} {base : Nat} {e : TypeId} {size : Nat} {v : Value} {k : Nat} {xs : List Value} (h : W.ownsRow base e size v k xs) {j : Nat} {o : Obj} (hj : W.heap[j]? = some o) (hno : ∀ cur, o ≠ .cells cur e (0, 0)) :
    v.ownBlock = none ∨ v.ownBlock ≠ some j := by
  rcases h.2 with ⟨rfl, _⟩ | ⟨g, cap, cur, rfl, _, hgb, _⟩
  · exact .inl rfl
  · refine .inr fun e' => ?_
    have : g = j := by simpa [Value.ownBlock] using e'
    subst this; rw [hgb] at hj; cases hj; exact hno cur rfl
theorem oC {W : World} {B : Nat} {v : Value} {t : TypeId} (h : W.heap[B]? = some (.cells #[v] t (0, 0))) : W.cell? ⟨B, 0, none⟩ = some v ∧ W.frozen? ⟨B, 0, none⟩ = false := by
  constructor <;> simp [World.cell?, World.frozen?, h]
theorem ta {W : World} {B : Nat} {v : Value} {t : TypeId} (v' : Value) (h : W.heap[B]? = some (.cells #[v] t (0, 0))) : (W.setCell ⟨B, 0, none⟩ v').heap[B]? = some (.cells #[v'] t (0, 0)) := by
  obtain ⟨hlt, hk⟩ := Array.getElem?_eq_some_iff.1 h
  show (W.heap.modify B _)[B]? = _
  rw [Array.getElem?_eq_getElem (by rw [Array.size_modify]; exact hlt), Array.getElem_modify_self, hk]
  rfl
theorem sQ {W : World} {base : Nat} {e : TypeId} {size : Nat} {v : Value} {k : Nat} {xs : List Value} (h : W.ownsRow base e size v k xs) : ∀ (j : Nat) (o : Obj), v.ownBlock = some j → W.heap[j]? = some o → o.isWalk = false := by
  intro j o hj ho
  rcases h.2 with ⟨rfl, _⟩ | ⟨g, cap, cur, rfl, _, hgb, _⟩
  · simp [Value.ownBlock] at hj
  · have : g = j := by simpa [Value.ownBlock] using hj
    subst this; rw [hgb] at ho; cases ho; rfl
theorem CV : (Tryz.prog.info? 25).map (fun i => (i.zero, i.size, i.bytes)) = some (some (.int .u32 0), 1, 4) := by kernel_rfl
set_option maxRecDepth 100000 in
set_option maxHeartbeats 2000000 in
theorem B1 (F : Fence) (m : Nat) (w0 : World) (fn : FuncId) (hfn : F.fn fn) (sv : Value) (Bs l D : Nat) (hBl : Bs ≠ l) (hDl : D ≠ l) (hDB : D ≠ Bs) (h0B : w0.heap.size ≤ Bs) (h0l : w0.heap.size ≤ l)
    (N : Nat) (hN : N ≤ maxLen) (hNb : N * 4 ≤ 140737488355328) (ss : List Int) (x : Int) (W : World) (h : k32_ApAt w0 fn sv Bs l D ss W) (hlen : ss.length < N) :
    YieldAt F m Tryz.prog l #[(kQ .u32) x] W fun e W' => e = .returned (.bool true) ∧ k32_ApAt w0 fn sv Bs l D (ss ++ [x]) W' ∧ KeepsWalks W W' := by
  obtain ⟨i0, hi, hz0, hz1, hz2⟩ := info_parts CV
  obtain ⟨v, hv, hrow, _⟩ := h.box
  refine ⟨fn, #[.slice none 0 0, sv, .pointer (some ⟨Bs, 0, none⟩), undef, .slice none 0 0, undef, sv, (kQ .u32) x, undef, undef, undef, undef, undef], nj, qu, by simpa [gr] using run_yield (P := Tryz.prog) (args := #[(kQ .u32) x]) h.L rfl, roundIn_of_wpIn hfn ?_⟩
  have hl : l < W.heap.size := (Array.getElem?_eq_some_iff.1 h.L).1
  have hbr := run_beginRound (P := Tryz.prog) h.L rfl
  obtain ⟨W2, hW2⟩ : ∃ W2, W.putObj l (.loop { gr fn sv Bs D .ready none with state := .busy }) = W2 := ⟨_, rfl⟩
  rw [hW2] at hbr
  have hg2 : W.grownBy W2 (some l) := by rw [← hW2]; exact gu _ _ _
  have hk2 : KeepsWalks W W2 := by rw [← hW2]; exact KeepsWalks.putObj _ h.L rfl
  have hv2 : W2.heap[Bs]? = some (.cells #[v] 41 (0, 0)) := by rw [← hW2]; exact (World.putObj_heap_other hBl).trans hv
  have hK2 : W2.heap[D]? = some (.deferred (some [])) := by rw [← hW2]; exact (World.putObj_heap_other hDl).trans h.K
  have hL2 : W2.heap[l]? = some (.loop { gr fn sv Bs D .ready none with state := .busy }) := by rw [← hW2]; exact World.putObj_heap_same hl
  have hrow2 : W2.ownsRow w0.heap.size 25 1 v ss.length (ss.map (kQ .u32)) := hrow.kept hg2 (jI hrow h.L (fun cur e => by cases e))
  have hb2 : Below w0.heap.size w0 W2 := h.below.grown hg2 h.below.size (fun k e => by cases e; exact h0l)
  obtain ⟨hc2, hf2⟩ := oC hv2
  have hBlt : Bs < W2.heap.size := (Array.getElem?_eq_some_iff.1 hv2).1
  have hl2 : l < W2.heap.size := (Array.getElem?_eq_some_iff.1 hL2).1
  have hDlt : D < W2.heap.size := (Array.getElem?_eq_some_iff.1 hK2).1
  have ne_of : ∀ {j : Nat} {o : Obj}, W2.heap[j]? = some o → (∀ cur, o ≠ .cells cur 25 (0, 0)) → some j ≠ v.ownBlock := fun hj hno => by
    rcases jI hrow2 hj hno with e | e
    · rw [e]; simp
    · exact fun e' => e e'.symm
  clear hW2
  unfold nj
  gi_wp2_with (rw [Oper.semAt_eq _ _ _ (fun c h => by cases h)]; go_simp; try go_bits)
  unfold qu
  gi_wp2_with (first
    | (gi_at_builtin; refine wpListIn_append_own _ rfl _ _ 41 rfl w0.heap.size 25 i0 (.int .u32 0) 1 4 aZ hi hz0 hz1 hz2 rfl (by decide) _ _ _ rfl (hrow2.alloc _) ⟨W2.heap.size, 0, none⟩ 1 1 [(kQ .u32) x] rfl rfl (cell_one_new _ _ _) (by simp [Value.oneCell']) (by omega) (by omega) (by have := hb2.size; simp; omega) ?_; intro v' w3 hown' hg3 hnil3
       have hv3 : w3.heap[Bs]? = some (.cells #[v] 41 (0, 0)) := (hg3.block Bs (by simp; omega) (ne_of hv2 (fun cur e => by cases e))).trans ((Below.heap_alloc _ _ Bs hBlt).trans hv2)
       obtain ⟨hc3, hf3⟩ := oC hv3
       obtain ⟨g', cap', cur', rfl, hbase', hgb', hr1, hr2, hr3, hr4⟩ : ∃ g' cap' cur', v' = .slice (some ⟨g', 0, none⟩) (ss.length + 1) cap' ∧ w0.heap.size ≤ g' ∧ w3.heap[g']? = some (.cells cur' 25 (0, 0)) ∧ ss.length + 1 ≤ cap' ∧ cap' ≤ maxLen ∧ cur'.size = cap' * 1 ∧ cur'.toList.take ((ss.length + 1) * 1) = ss.map (kQ .u32) ++ [(kQ .u32) x] := by
         rcases hown'.2 with ⟨_, h0⟩ | h'
         · exact absurd h0 (by omega)
         · exact h'
       go_frame)
    | (rw [Oper.semAt_eq _ _ _ (fun c h => by cases h)]; go_simp; try go_bits))
  have hg3' : (W2.alloc (.cells #[(kQ .u32) x] 25)).grownBy w3 v.ownBlock := hg3
  have hL3 : w3.heap[l]? = some (.loop { gr fn sv Bs D .ready none with state := .busy }) := (hg3'.block l (by simp; omega) (ne_of hL2 (fun cur e => by cases e))).trans ((Below.heap_alloc _ _ l hl2).trans hL2)
  have hK3 : w3.heap[D]? = some (.deferred (some [])) := (hg3'.block D (by simp; omega) (ne_of hK2 (fun cur e => by cases e))).trans ((Below.heap_alloc _ _ D hDlt).trans hK2)
  obtain ⟨w4, hw4⟩ : ∃ w4, w3.setCell ⟨Bs, 0, none⟩ (.slice (some ⟨g', 0, none⟩) (ss.length + 1) cap') = w4 := ⟨_, rfl⟩
  rw [hw4]
  have hg4 : w3.grownBy w4 (some Bs) := by rw [← hw4]; exact tc _ _ _
  have hv4 : w4.heap[Bs]? = some (.cells #[.slice (some ⟨g', 0, none⟩) (ss.length + 1) cap'] 41 (0, 0)) := by rw [← hw4]; exact ta _ hv3
  have hL4 : w4.heap[l]? = some (.loop { gr fn sv Bs D .ready none with state := .busy }) := (hg4.block l (Array.getElem?_eq_some_iff.1 hL3).1 (fun e => hBl (by cases e; rfl))).trans hL3
  have hK4 : w4.heap[D]? = some (.deferred (some [])) := (hg4.block D (Array.getElem?_eq_some_iff.1 hK3).1 (fun e => hDB (by cases e; rfl))).trans hK3
  have hrow4 := hown'.kept hg4 (jI hown' hv3 (fun cur e => by cases e))
  have hl4 : l < w4.heap.size := (Array.getElem?_eq_some_iff.1 hL4).1
  have hb3 : Below w0.heap.size w0 w3 := (hb2.alloc hb2.size _).grown hg3' (by have := hb2.size; simp; omega) (fun k e => (hrow2.lt k e).1)
  have hb4 : Below w0.heap.size w0 w4 := hb3.grown hg4 hb3.size (fun k e => by cases e; exact h0B)
  have hk4 : KeepsWalks W w4 := ((hk2.trans (KeepsWalks.alloc _ _)).trans (KeepsWalks.of_grownBy hg3' (sQ (hrow2.alloc _)))).trans (by rw [← hw4]; exact KeepsWalks.setCell _ _ _)
  clear hw4
  refine ⟨_, _, run_endRound none hL4, rfl, ⟨⟨_, (World.putObj_heap_other hBl).trans hv4, ?_, by simp⟩, World.putObj_heap_same hl4, (World.putObj_heap_other hDl).trans hK4, hb4.grown (gu _ _ _) hb4.size (fun k e => by cases e; exact h0l)⟩, hk4.trans (KeepsWalks.putObj _ hL4 rfl)⟩
  have := hrow4.kept (gu w4 l (.loop { { gr fn sv Bs D .ready none with state := .busy } with state := if (none : Option Code).isNone then .ready else .done, pending := none })) (jI hrow4 hL4 (fun cur e => by cases e))
  simpa using this
set_option maxRecDepth 100000 in
set_option maxHeartbeats 2000000 in
theorem sZ (F : Fence) (n : Nat) (h11 : F.fn 173) (hro : F.round = none) (hn : 2 ≤ n) (g : Nat) (lb : Array Value) (hFg : F.fn g) (eg : ∀ args w, (callFunc g args).run Tryz.prog w = .ok (.enter g args) w)
    (S : List Int → Prop) (N : Nat) (hN : N ≤ maxLen) (hNb : N * 4 ≤ 140737488355328) (w : World) (hseq : SeqGives F (n - 1) Tryz.prog g lb (kQ .u32) S N w) :
    CallsIn F n Tryz.prog 173 #[.slice none 0 0, .func (.func g) #[] lb] w fun e w' => ∃ (v : Value) (ss : List Int), e = .returned v ∧ S ss ∧ w'.ownsRow w.heap.size 25 1 v ss.length (ss.map (kQ .u32)) ∧ (v = .slice none 0 0 ↔ ss = []) ∧ Below w.heap.size w w' := by
  have h1 : 1 ≤ n := by omega
  refine callsIn_of_wp_marks Tryz.func173 rfl h11 ?_ hro
  simp only [Tryz.ntmps173, List.size_toArray, List.length_cons, List.length_nil, Nat.reduceAdd, Nat.reduceSub, Array.replicate_succ, Array.replicate_zero, List.push_toArray, List.append_toArray, List.nil_append, List.cons_append]
  gi_wp2
  refine wpIn_rangeFunc ?_
  intro fn hfn
  rw [hro]
  obtain ⟨W0, hW0⟩ : ∃ W0, w.alloc (.cells #[.slice none 0 0] 41) = W0 := ⟨_, rfl⟩
  have hs0 : W0.heap.size = w.heap.size + 1 := by rw [← hW0]; simp
  have hv0 : W0.heap[w.heap.size]? = some (.cells #[.slice none 0 0] 41 (0, 0)) := by rw [← hW0]; exact World.alloc_heap_new w _
  have hb0 : Below w.heap.size w W0 := by rw [← hW0]; exact (Below.refl _ w).alloc (Nat.le_refl _) _
  rw [hW0]
  obtain ⟨W1, hW1⟩ : ∃ W1, (W0.alloc (.deferred (some []))).alloc (.loop (gr fn (.func (.func g) #[] lb) w.heap.size W0.heap.size .ready none)) = W1 := ⟨_, rfl⟩
  have hold : ∀ k, k < W0.heap.size → W1.heap[k]? = W0.heap[k]? := fun k hk => by
    rw [← hW1]; exact (Below.heap_alloc _ _ k (by simp; omega)).trans (Below.heap_alloc _ _ k hk)
  have hb1 : Below w.heap.size w W1 := by rw [← hW1]; exact (hb0.alloc hb0.size _).alloc (by have := hb0.size; simp; omega) _
  have hs1 : W1.heap.size = W0.heap.size + 2 := by rw [← hW1]; simp
  have hM : k32_ApAt w fn (.func (.func g) #[] lb) w.heap.size (W0.heap.size + 1) W0.heap.size [] W1 :=
    ⟨⟨_, (hold w.heap.size (by omega)).trans hv0, ⟨rfl, .inl ⟨rfl, rfl⟩⟩, by simp⟩,
     by rw [← hW1]; have := World.alloc_heap_new (W0.alloc (.deferred (some []))) (.loop (gr fn (.func (.func g) #[] lb) w.heap.size W0.heap.size .ready none)); rwa [World.size_alloc] at this,
     by rw [← hW1]; exact (Below.heap_alloc _ _ _ (by simp)).trans (World.alloc_heap_new W0 _), hb1⟩
  refine ⟨W0.heap.size + 1, [{ target := .collected W0.heap.size, args := #[] }], W1, { target := .fn (.func g) lb, args := #[.func (.yield (W0.heap.size + 1)) #[] #[]] }, W1, g,
    #[.func (.yield (W0.heap.size + 1)) #[] #[]] ++ lb, W1, ?_, ?_, ?_, ?_, fun _ => h1, ?_⟩
  · rw [← hW1]; exact run_enterLoop_outer _ _ _ _ _
  · simp [resolve, go_sem]
  · intro f' hf'; simp [Target.leads] at hf'; subst hf'; exact hFg
  · simp [invoke, go_sem, eg]
  · refine (hseq (W0.heap.size + 1) (k32_ApAt w fn (.func (.func g) #[] lb) w.heap.size (W0.heap.size + 1) W0.heap.size) W1 hb1 (xt _ _ _ _ _ _ _ hb1.size)
      (fun pre x W hJ hl => B1 F (n - 1 - 1) w fn hfn _ w.heap.size (W0.heap.size + 1) W0.heap.size (by omega) (by omega) (by omega) (Nat.le_refl _) (by omega) N hN hNb pre x W hJ hl) hM).mono ?_
    rintro e W2 ⟨⟨v0, rfl⟩, ss, hS, h2⟩
    obtain ⟨v, hv, hrow, hnil⟩ := h2.box
    have hend := run_endLoop (P := Tryz.prog) h2.L (by simp [gr])
    obtain ⟨W3, hW3⟩ : ∃ W3, W2.putObj (W0.heap.size + 1) (.loop { gr fn (.func (.func g) #[] lb) w.heap.size W0.heap.size .ready none with state := .exhausted }) = W3 := ⟨_, rfl⟩
    rw [hW3] at hend
    have hg3 : W2.grownBy W3 (some (W0.heap.size + 1)) := by rw [← hW3]; exact gu _ _ _
    have hv3 : W3.heap[w.heap.size]? = some (.cells #[v] 41 (0, 0)) := by rw [← hW3]; exact (World.putObj_heap_other (by omega)).trans hv
    have hK3 : W3.heap[W0.heap.size]? = some (.deferred (some [])) := by rw [← hW3]; exact (World.putObj_heap_other (by omega)).trans h2.K
    have hrow3 := hrow.kept hg3 (jI hrow h2.L (fun cur e => by cases e))
    have hb3 : Below w.heap.size w W3 := h2.below.grown hg3 h2.below.size (fun k e => by cases e; omega)
    obtain ⟨hc3, hf3⟩ := oC hv3
    clear hW3
    refine ⟨none, W3, hend, ?_⟩
    gi_wp2
    rw [← hs0]
    refine ⟨by simp, .inl ⟨_, _, rfl, run_takeDeferred hK3, ?_⟩⟩
    exact ⟨_, results_tmp rfl _ _ _, v, ss, rfl, hS, hrow3.kept (gu _ _ _) (jI hrow3 hK3 (fun cur e => by cases e)), hnil, hb3.grown (gu _ _ _) hb3.size (fun k e => by cases e; omega)⟩
set_option maxHeartbeats 1000000 in
theorem ot (F : Fence) (n : Nat) (h8 : F.fn 114) (h11 : F.fn 173) (hro : F.round = none) (hn : 3 ≤ n) (g : Nat) (lb : Array Value) (hFg : F.fn g) (eg : ∀ args w, (callFunc g args).run Tryz.prog w = .ok (.enter g args) w)
    (S : List Int → Prop) (N : Nat) (hN : N ≤ maxLen) (hNb : N * 4 ≤ 140737488355328) (w : World) (hseq : SeqGives F (n - 1 - 1) Tryz.prog g lb (kQ .u32) S N w) :
    CallsIn F n Tryz.prog 114 #[.func (.func g) #[] lb] w fun e w' => ∃ (v : Value) (ss : List Int), e = .returned v ∧ S ss ∧ w'.ownsRow w.heap.size 25 1 v ss.length (ss.map (kQ .u32)) ∧ (v = .slice none 0 0 ↔ ss = []) ∧ Below w.heap.size w w' := by
  have h1 : 1 ≤ n := by omega
  refine callsIn_of_wp Tryz.func114 rfl h8 ?_ hro
  simp only [Tryz.ntmps114, List.size_toArray, List.length_cons, List.length_nil, Nat.reduceAdd, Nat.reduceSub, Array.replicate_succ, Array.replicate_zero, List.push_toArray, List.append_toArray, List.nil_append, List.cons_append]
  gi_wp2_with (gi_at_call 173; refine (sZ F (n - 1) h11 hro (by omega) g lb hFg eg S N hN hNb _ hseq).mono ?_; rintro e w' ⟨v, ss, rfl, hS, hrow, hnil, hb⟩)
  go_ret
  exact ⟨v, ss, rfl, hS, hrow, hnil, hb⟩
end Go.Proofs.YtpbfapbajmdlkaaGreat
namespace Go.Proofs.YtpbfapbajmdlkaaGreat
open Go Go.Sac
set_option maxRecDepth 100000
set_option maxHeartbeats 4000000
theorem CW(x:UInt32)(w:World) :
  Ret Tryz.prog 248 #[.int .u32 x.toNat] w λv w'=>v=.bool false/\w'=w:=by
 refine enter [2] Tryz.func248 O O (al O) (zSR (za O (zNR (zmm O (a7 O (Gg O O) (za O (a6 (zrf ?_))))))));have hx:(decide (x≠x))=false:=by simp
 refine⟨?_,rfl⟩;show Value.bool (decide (x≠x))=_;rw[hx]
theorem eR(x y:UInt32)(w:World) :
  Ret Tryz.prog 221 #[.int .u32 x.toNat,.int .u32 y.toNat] w λv w'=>v=.bool (decide (x<y))/\w'=w:=by
 refine enter [4] Tryz.func221 O O (al O) (zSR (za O (zNR (zm O (ag O C248 (CW x w) ?_)))));rintro _ w1 ⟨rfl,rfl⟩;refine zm O (aw O O (aw O O (aw O O (a7 O (aK O) (zm O (ah O (zm O (ah O (zm O (ah O (a7 O (uV O O) (a7 O (aK O) (za O (a6 (zrf ?_)))))))))))))));exact⟨rfl,rfl⟩
theorem B4(v:Value)(l:List UInt32)(w:World)(ho:Own w v l)(hl:l.length<=1000) :
  Ret Tryz.prog 215 #[v,.int .i64 0,.int .i64 l.length] w λ_ w'=>Own w' v (nE l)/\Chg (ay v) w w':=by
 have hob1:=ho.form rfl;obtain⟨pv,cv,rfl⟩:=hob1;refine enter [] Tryz.func215 O O (al O) (zSR (zmv O (aC O O (by omega)) (za O ?_)));refine a6 (aq (aX [0,1,2,6] (λn vs w'=>∃(i:Nat) (l':List UInt32),vs=[.slice pv l.length cv,.int .i64 0,.int .i64 l.length,.int .i64 i]/\i+n=l.length+1/\1<=i/\Own w' (.slice pv l.length cv) l'/\SrtU l l' i/\Chg (ay (.slice pv l.length cv)) w w') (l.length) ?_ ?_))
 ·exact⟨1,l,rfl,by omega,aM _,ho,SrtU.start l,Chg.refl' _ _⟩
 ·rintro n vs J w1 ⟨i,l1,rfl,hi,hi1,ho1,hs1,hc1⟩;refine aa (zSR (zmm O (a7 O (bK O O) ?_)));refine a6 (aA O (λh=>?_) (λh=>?_))
  ·refine zKN (aa (aq (zSR (zma O (a6 (aq ?_))))));have hob2:∃q,n=q+1:=⟨n-1,by omega⟩
   obtain⟨n,rfl⟩:=hob2;have hl1:=hs1.length;refine aX [0,1,2,6,7] (λn2 vs w'=>∃(l':List UInt32),vs=[.slice pv l.length cv,.int .i64 0,.int .i64 l.length,.int .i64 i,.int .i64 n2]/\n2<=i/\Own w' (.slice pv l.length cv) l'/\MidU l l' i n2/\Chg (ay (.slice pv l.length cv)) w w') (i) ?_ ?_
   ·exact⟨l1,rfl,aM _,ho1,hs1.mid,hc1⟩
   ·rintro j vs J2 w2 ⟨l2,rfl,hji,ho2,hm2,hc2⟩;refine aa (aa ?_);have hl2:=hm2.length;refine aH bx (.pure 0 (.pure 1 (.pure 2 (.pure 3 (.pure 4 (.pure 5 (.pure 6 (.read 7 (.pure 8 (.pure 9 (.pure 10 (.pure 11 (.read 12 (.eff 13 [] (.pure 14 .nil))))))))))))))) (by kernel_rfl) ?_;refine ym O (ym O ?_);by_cases hj:0<j
    ·refine yp O (λ_=>bG (dk O O) (congrArg Value.bool (decide_eq_true ((by omega))))) ?_;refine ym O (ym O (ym O (yex O (aS (j) aZ I25 O (ho2.sl) O O (by first|rfl|omega) (by omega)) ?_)));rintro _ ⟨b1,o1,rfl,he1,hb1⟩;refine aG O O O bu O O ((ho2.sl.at he1 (getD_some (d:=0) (by omega))).c0 O) ?_;refine ym O (ym O (yp O (λ_=>(bf O O (by omega))) ?_));refine yex O (aS (j-1) aZ I25 O (ho2.sl) O O (by first|rfl|omega) (by omega)) ?_;rintro _ ⟨b2,o2,rfl,he2,hb2⟩;refine aG O O O bu O O ((ho2.sl.at he2 (getD_some (d:=0) (by omega))).c0 O) ?_;refine ycl O qG (eR (l2.getD j 0) (l2.getD (j-1) 0) _) ?_;rintro _ w3 ⟨rfl,hw3⟩;refine⟨trivial,?_⟩;refine yp O (λ_=>(aN O)) ?_;refine az ?_;have hc3:Chg [] w2 w3:=by rw[hw3];exact Chg.heap O
     have ho3:=ho2.mod0 hc3;refine aA O (λhless=>?_) (λhless=>?_)
     ·refine zKN (aa (aq ?_));have hob3:∃q,j=q+1:=⟨j-1,by omega⟩
      obtain⟨j,rfl⟩:=hob3;refine aH bx (.pure 0 (.pure 1 (.pure 2 (.pure 3 (.pure 4 (.pure 5 (.pure 6 (.pure 7 (.pure 8 (.read 9 (.pure 10 (.pure 11 (.pure 12 (.read 13 (.pure 14 (.eff 15 [] (.pure 16 (.eff 17 [] .nil)))))))))))))))))) (by kernel_rfl) ?_;refine ym O (ym O (ym O (ym O (yp O (λ_=>(bf O O (by omega))) ?_))));refine ym O (ym O (yp O (λ_=>(bf O O (by omega))) ?_));refine yex O (aS (j) aZ I25 O (ho3.sl) O O (by first|rfl|omega) (by omega)) ?_;rintro _ ⟨b4,o4,rfl,he4,hb4⟩;refine aG O O O bu O O ((ho3.sl.at he4 (getD_some (d:=0) (by omega))).c0 O) ?_;refine ym O (ym O (yex O (aS (j+1) aZ I25 O (ho3.sl) O O (by first|rfl|omega) (by omega)) ?_));rintro _ ⟨b5,o5,rfl,he5,hb5⟩;refine aG O O O bu O O ((ho3.sl.at he5 (getD_some (d:=0) (by omega))).c0 O) ?_;refine yex O (aS (j+1) aZ I25 O (ho3.sl) O O (by first|rfl|omega) (by omega)) ?_;rintro _ ⟨b6,o6,rfl,he6,hb6⟩;refine dx O (bU (a:=l2.getD j 0) I25 O (ho3.mod0 (drw _)) O (he6) O O (by omega)) ?_;rintro w7 ⟨ho7,hc7,hs7⟩;refine⟨trivial,?_⟩;refine yex O (aS (j) aZ I25 O (ho7.sl) O O (by first|rfl|omega) (by simp;omega)) ?_;rintro _ ⟨b8,o8,rfl,he8,hb8⟩;refine dx O (bU (a:=l2.getD (j+1) 0) I25 O (ho7) O (he8) O O (by simp;omega)) ?_;rintro w9 ⟨ho9,hc9,hs9⟩;refine⟨trivial,?_⟩;refine ez (ax (aj (ae (zmv O (bf O O (by omega)) (za O ?_)))));refine a6 (aT (j) (bq (by omega) ?_));have e9:(l2.set (j+1) (l2.getD j 0)).set j (l2.getD (j+1) 0)=tE l2 (j+1):=by simp[tE]
      rw[e9] at ho9;have hcx:Chg (ay (.slice pv l.length cv)) w w9:=((hc2.tr0 (hc3.tr (drw _))).tr hc7).tr hc9;exact⟨tE l2 (j+1),au rfl (au O (au O (au O (au (bL (by omega)) bO)))),by omega,ho9,hm2.swap (by omega) hji (by omega) hless,hcx⟩
     ·refine aO (an (an (aE (ax (aj (ae (zmv O (aC O O (by omega)) (za O ?_))))))));refine a6 ?_;have hstop:j=0∨¬l2.getD j 0<l2.getD (j-1) 0:=.inr hless;have ho2:=ho3;have hc2:=hc2.tr0 hc3;refine aT (n) (bq (by omega) ?_);refine⟨i+1,l2,?_,by omega,by omega,ho2,hm2.done hji hstop,hc2⟩;exact au O (au O (au O (au (bL (by omega)) bO)))
    ·refine yp O (λ_=>bG (dk O O) (congrArg Value.bool (decide_eq_false ((by omega))))) ?_;refine ym O (yno O (yno O (yno O (cA O O O (yno O (yno O (yno O (yno O (cA O O O (iY O O O (yp O (λ_=>(aK O)) ?_)))))))))));refine az (aI (rfl) (aO (an (an (aE (ax (aj (ae (zmv O (aC O O (by omega)) (za O ?_))))))))));refine a6 ?_;have hstop:j=0∨¬l2.getD j 0<l2.getD (j-1) 0:=.inl (by omega);have ho2:=ho2.mod0 (drw _);have hc2:=hc2.tr0 (drw _);refine aT (n) (bq (by omega) ?_);refine⟨i+1,l2,?_,by omega,by omega,ho2,hm2.done hji hstop,hc2⟩;exact au O (au O (au O (au (bL (by omega)) bO)))
  ·refine aO (an (an (aE (fV ?_))));rw[hs1.sort (by rw[hs1.length];omega)] at ho1;exact⟨ho1,hc1⟩
theorem Hf(v:Value)(l:List UInt32)(lim:Int)(w:World)(ho:Own w v l)(hl:l.length<=12) :
  Ret Tryz.prog 174 #[v,.int .i64 0,.int .i64 l.length,.int .i64 lim] w λ_ w'=>Own w' v (nE l)/\Chg (ay v) w w':=by
 refine enter [] Tryz.func174 O O (al O) (zSR (za O (zNR (za O (a6 (aq (aX [0,1,2,3,8,9] (λn vs w'=>vs=[v,.int .i64 0,.int .i64 l.length,.int .i64 lim,.bool true,.bool true]/\w'=w) (0) ?_ ?_)))))))
 ·exact⟨rfl,rfl⟩
 ·rintro n vs J w1 ⟨rfl,rfl⟩;refine aq (zSR (zmm O (a7 O (bf O O (by omega)) (za O ?_))));refine a6 (aa (zSR (zmv O (fN O O) (a6 (bI O (by omega) ?_)))));refine zSR (zmm O (zm O (ag O C215 (B4 v l _ ho (by omega)) ?_)));rintro _ w2 ⟨ho2,hc2⟩;refine a6 (bC (aL (aR (aL (aR (cV ?_))))));exact⟨ho2,hc2⟩
theorem Iv(x:UInt64)(w:World)(hx:x.toNat<256) :
  Ret Tryz.prog 188 #[.int .u64 x.toNat] w λv w'=>(∃k:Int,v=.int .i64 k)/\w'=w:=by
 have hge:∀b:UInt64,256<=b.toNat->¬x≥b:=λb hb h=>by
  have:=UInt64.le_iff_toNat_le.1 h
  omega
 refine enter [2] Tryz.func188 O O (al O) (zSR (za O (a6 (aa (zSR (zmv O (m7 (b:=4294967296) O O) ?_))))));refine a6 (aJ O (hge _ (by decide)) ?_);refine zKN (aa (zSR (zmv O (m7 (b:=65536) O O) ?_)));refine a6 (aJ O (hge _ (by decide)) ?_);refine zKN (aa (zSR (zmv O (m7 (b:=256) O O) ?_)));refine a6 (aJ O (hge _ (by decide)) ?_);refine zKR (zmm O (a7 O (gk O eA uU5) ?_));refine bD O ((⟨_,λ_=>mT uU9 rfl rfl (uR _) (getD_some (d:=0) (by show _<256;exact UInt8.toNat_lt _)),⟨_,rfl,UInt8.toNat_lt _⟩⟩:∃v,(∀w',exec _ _ _ _ w'=.ok (.value v) w')/\∃b:UInt8,v=.int .u8 b.toNat/\b.toNat<256)) ?_;rintro _ ⟨b,rfl,hb⟩;refine a7 O (gg O uU5 uU3 (by omega)) (a7 O (aC O O (by omega)) (za O ?_));refine a6 (zrf ?_);exact⟨⟨_,rfl⟩,rfl⟩
theorem EE(x:UInt64)(w:World)(hx:x.toNat<256) :
  Ret Tryz.prog 132 #[.int .u64 x.toNat] w λv w'=>(∃k:Int,v=.int .i64 k)/\w'=w:=by
 refine enter [2] Tryz.func132 O O (al O) (zSR (za O (a6 (aa (aI (rfl) (zKR (zm O (ag O C188 (Iv x w hx) ?_))))))));rintro _ w1 ⟨⟨k,rfl⟩,rfl⟩;refine za O (a6 (zrf ?_));exact⟨⟨k,rfl⟩,rfl⟩
theorem FU(v:Value)(l:List UInt32)(w:World)(ho:Own w v l)(hl:l.length<=12) :
  Ret Tryz.prog 115 #[v] w λ_ w'=>Own w' v (nE l)/\Chg (ay v) w w':=by
 have hf:=ho.form rfl;obtain⟨pv,cv,rfl⟩:=hf;have h64:(dm (l.length:Int)).toNat=l.length:=by rw[dR,mK (show l.length<18446744073709551616 by omega)]
 refine enter [] Tryz.func115 O O (al O) (zSR (zmv O (aB O aZ) (za O (a6 (ae (zmm O (zmv O (dc O uU3 pD) (ag O C132 (EE (dm l.length) _ (by omega)) ?_))))))));rintro _ w1 ⟨⟨k,rfl⟩,rfl⟩;refine ag O C174 (Hf (.slice pv l.length cv) l k _ ho hl) ?_;rintro _ w2 ⟨ho2,hc2⟩;refine bA (fV ?_);exact⟨ho2,hc2⟩
theorem insP_ok{pv:Option Addr}{n cv:Nat}{l0:List UInt32}{w0 w:World}(h:SPm (.slice pv n cv) l0 w0 w)(hn:l0.length=n)(hm:n<=1000)(a b:Nat)(hab:a<=b)(hb:b<=n) :
  Ret Tryz.prog 215 #[.slice pv n cv,.int .i64 a,.int .i64 b] w λ_ w'=>SPm (.slice pv n cv) l0 w0 w':=by
 refine enter [] Tryz.func215 O O (al O) (zSR (zmv O (aC O O (by omega)) (za O ?_)));refine a6 (aq (aX [0,1,2,6] (λq vs w'=>∃i:Nat,vs=[.slice pv n cv,.int .i64 a,.int .i64 b,.int .i64 i]/\i+q=b+a+3/\a+1<=i/\SPm (.slice pv n cv) l0 w0 w') (b+2) ?_ ?_))
 ·exact⟨a+1,rfl,by omega,aM _,h⟩
 ·rintro q vs J w1 ⟨i,rfl,hi,hai,h1⟩;refine aa (zSR (zmm O (a7 O (bK O O) ?_)));refine a6 (aA O (λhlt=>?_) (λhlt=>?_))
  ·refine zKN (aa (aq (zSR (zma O (a6 (aq ?_))))));have hob1:∃z,q=z+1:=⟨q-1,by omega⟩
   obtain⟨q,rfl⟩:=hob1;refine aX [0,1,2,6,7] (λj vs w'=>vs=[.slice pv n cv,.int .i64 a,.int .i64 b,.int .i64 i,.int .i64 j]/\j<=i/\SPm (.slice pv n cv) l0 w0 w') (i) ?_ ?_
   ·exact⟨rfl,aM _,h1⟩
   ·rintro j vs2 J2 w2 ⟨rfl,hji,h2⟩;refine aa (aa ?_);obtain⟨l1,ho1,hp1,hk1⟩:=id h2;have hl1:l1.length=n:=hp1.length_eq.trans hn;refine aH bx (.pure 0 (.pure 1 (.pure 2 (.pure 3 (.pure 4 (.pure 5 (.pure 6 (.read 7 (.pure 8 (.pure 9 (.pure 10 (.pure 11 (.read 12 (.eff 13 [] (.pure 14 .nil))))))))))))))) (by kernel_rfl) ?_;refine ym O (ym O ?_);by_cases hj:a<j
    ·refine yp O (λ_=>bG (dk O O) (congrArg Value.bool (decide_eq_true ((by omega))))) ?_;refine ym O (ym O (ym O (yex O (aS (j) aZ I25 O (ho1.sl) O O (by first|rfl|omega) (by omega)) ?_)));rintro _ ⟨b2,o2,rfl,he2,hb2⟩;refine aG O O O bu O O ((ho1.sl.at he2 (getD_some (d:=0) (by omega))).c0 O) ?_;refine ym O (ym O (yp O (λ_=>(bf O O (by omega))) ?_));refine yex O (aS (j-1) aZ I25 O (ho1.sl) O O (by first|rfl|omega) (by omega)) ?_;rintro _ ⟨b3,o3,rfl,he3,hb3⟩;refine aG O O O bu O O ((ho1.sl.at he3 (getD_some (d:=0) (by omega))).c0 O) ?_;refine ycl O qG (eR (l1.getD (j) 0) (l1.getD (j-1) 0) _) ?_;rintro _ v4 ⟨rfl,hv4⟩;refine⟨trivial,?_⟩;refine yp O (λ_=>(aN O)) ?_;refine az ?_;have hcv4:Chg [] w2 v4:=by rw[hv4];exact Chg.heap O
     have hS4:SPm (.slice pv n cv) l0 w0 v4:=SPm.chg0 ⟨l1,ho1,hp1,hk1⟩ hcv4;refine aA O (λhless=>?_) (λhless=>?_)
     ·refine zKN (aa (aq ?_));have hob2:∃q,j=q+1:=⟨j-1,by omega⟩
      obtain⟨j,rfl⟩:=hob2;obtain⟨l5,ho5,hp5,hk5⟩:=id hS4;have hl5:l5.length=n:=hp5.length_eq.trans hn;refine aH bx (.pure 0 (.pure 1 (.pure 2 (.pure 3 (.pure 4 (.pure 5 (.pure 6 (.pure 7 (.pure 8 (.read 9 (.pure 10 (.pure 11 (.pure 12 (.read 13 (.pure 14 (.eff 15 [] (.pure 16 (.eff 17 [] .nil)))))))))))))))))) (by kernel_rfl) ?_;refine ym O (ym O (ym O (ym O (yp O (λ_=>(bf O O (by omega))) ?_))));refine ym O (ym O (yp O (λ_=>(bf O O (by omega))) ?_));refine yex O (aS (j) aZ I25 O (ho5.sl) O O (by first|rfl|omega) (by omega)) ?_;rintro _ ⟨b6,o6,rfl,he6,hb6⟩;refine aG O O O bu O O ((ho5.sl.at he6 (getD_some (d:=0) (by omega))).c0 O) ?_;refine ym O (ym O (yex O (aS (j+1) aZ I25 O (ho5.sl) O O (by first|rfl|omega) (by omega)) ?_));rintro _ ⟨b7,o7,rfl,he7,hb7⟩;refine aG O O O bu O O ((ho5.sl.at he7 (getD_some (d:=0) (by omega))).c0 O) ?_;refine yex O (aS (j+1) aZ I25 O (ho5.sl) O O (by first|rfl|omega) (by omega)) ?_;rintro _ ⟨b8,o8,rfl,he8,hb8⟩;refine dx O (bU (a:=l5.getD (j) 0) I25 O (ho5.mod0 (drw _)) O (he8) O O (by omega)) ?_;rintro u8 ⟨hou8,hcu8,hsu8⟩;refine⟨trivial,?_⟩;refine yex O (aS (j) aZ I25 O (hou8.sl) O O (by first|rfl|omega) (by simp;omega)) ?_;rintro _ ⟨b9,o9,rfl,he9,hb9⟩;refine dx O (bU (a:=l5.getD (j+1) 0) I25 O (hou8) O (he9) O O (by simp;omega)) ?_;rintro u9 ⟨hou9,hcu9,hsu9⟩;refine⟨trivial,?_⟩;refine ez (ax (aj (ae (zmv O (bf O O (by omega)) (za O ?_)))));refine a6 ?_;have hS9:SPm (.slice pv n cv) l0 w0 u9:=⟨_,hou9,(eF l5 (j+1) (j) (by omega) (by omega)).trans hp5,((hk5.tr0 (drw _)).tr hcu8).tr hcu9⟩
      refine aT (j) (bq (by omega) ?_);exact⟨(au O (au O (au O (au O (au (bL (by omega)) bO))))),by omega,hS9⟩
     ·refine aO (an (an (aE (ax (aj (ae (zmv O (aC O O (by omega)) (za O ?_))))))));refine a6 ?_;have hZ:=hS4;refine aT (q) (bq (by omega) ?_);exact⟨i+1,rfl,by omega,by omega,hZ⟩
    ·refine yp O (λ_=>bG (dk O O) (congrArg Value.bool (decide_eq_false ((by omega))))) ?_;refine ym O (yno O (yno O (yno O (cA O O O (yno O (yno O (yno O (yno O (cA O O O (iY O O O (yp O (λ_=>(aK O)) ?_)))))))))));refine az (aI (rfl) (aO (an (an (aE (ax (aj (ae (zmv O (aC O O (by omega)) (za O ?_))))))))));refine a6 ?_;have hZ:=h2.chg0 (drw _);refine aT (q) (bq (by omega) ?_);exact⟨i+1,rfl,by omega,by omega,hZ⟩
  ·refine aO (an (an (aE (fV ?_))));exact h1
theorem DU{pv:Option Addr}{n cv:Nat}{l0:List UInt32}{w0 w:World}(h:SPm (.slice pv n cv) l0 w0 w)(hn:l0.length=n)(hm:n<=1000)(lo hi first:Nat)(hf:first+hi<=n)(hlo:lo<=1000) :
  Ret Tryz.prog 245 #[.slice pv n cv,.int .i64 lo,.int .i64 hi,.int .i64 first] w λ_ w'=>SPm (.slice pv n cv) l0 w0 w':=by
 refine enter [] Tryz.func245 O O (al O) (zSR (zma O (a6 (aq (aX [0,2,3,8] (λq vs w'=>∃root:Nat,vs=[.slice pv n cv,.int .i64 hi,.int .i64 first,.int .i64 root]/\hi+1<=root+q/\root<=1000/\SPm (.slice pv n cv) l0 w0 w') (hi+1) ?_ ?_)))))
 ·exact⟨lo,rfl,by omega,hlo,h⟩
 ·rintro q vs J w1 ⟨root,rfl,hq,hr,h1⟩;refine aq (zSR (zmv O (fq O O (by omega)) (a7 O (aC O O (by omega)) (za O ?_))));refine a6 (aa (zSR (zmm O (a7 O (fC O O) (a6 ?_)))));obtain⟨l10,ho10,hp10,hk10⟩:=id h1;have hl10:l10.length=n:=hp10.length_eq.trans hn;refine aA O (λhge=>?_) (λhge=>?_)
  ·refine aO (an (jt O (an (aE (fV ?_)))));exact h1
  ·refine zKN ?_;have hob3:∃z,q=z+1:=⟨q-1,by omega⟩
   obtain⟨q,rfl⟩:=hob3;have hob4:∃z:Nat,z=2*root+1:=⟨_,rfl⟩
   obtain⟨ch,hch⟩:=hob4;have hche:2*(root:Int)+1=(ch:Int):=by omega
   refine dY [0,2,3,8,9] (λvs w'=>∃ch:Nat,vs=[.slice pv n cv,.int .i64 hi,.int .i64 first,.int .i64 root,.int .i64 ch]/\root<ch/\ch<hi/\SPm (.slice pv n cv) l0 w0 w') ?_ ?_
   ·refine aa (aH bx (.pure 0 (.pure 1 (.pure 2 (.pure 3 (.pure 4 (.pure 5 (.pure 6 (.pure 7 (.pure 8 (.pure 9 (.read 10 (.pure 11 (.pure 12 (.pure 13 (.pure 14 (.pure 15 (.pure 16 (.read 17 (.eff 18 [] (.pure 19 .nil)))))))))))))))))))) (by kernel_rfl) ?_);refine ym O (yp O (λ_=>(aC O O (by omega))) ?_);refine ym O ?_;by_cases hj:ch+1<hi
    ·refine yp O (λ_=>bG (bK O O) (congrArg Value.bool (decide_eq_true ((by omega))))) ?_;refine ym O (ym O (ym O (ym O (yp O (λ_=>(aC O O (by omega))) ?_))));refine yex O (aS (first+ch) aZ I25 O (ho10.sl) O O (by first|rfl|omega) (by omega)) ?_;rintro _ ⟨b11,o11,rfl,he11,hb11⟩;refine aG O O O bu O O ((ho10.sl.at he11 (getD_some (d:=0) (by omega))).c0 O) ?_;refine ym O (ym O (ym O (yp O (λ_=>(aC O O (by omega))) ?_)));refine yp O (λ_=>(aC O O (by omega))) ?_;refine yex O (aS (first+ch+1) aZ I25 O (ho10.sl) O O (by first|rfl|omega) (by omega)) ?_;rintro _ ⟨b12,o12,rfl,he12,hb12⟩;refine aG O O O bu O O ((ho10.sl.at he12 (getD_some (d:=0) (by omega))).c0 O) ?_;refine ycl O qG (eR (l10.getD (first+ch) 0) (l10.getD (first+ch+1) 0) _) ?_;rintro _ v13 ⟨rfl,hv13⟩;refine⟨trivial,?_⟩;refine yp O (λ_=>(aN O)) ?_;refine az ?_;have hcv13:Chg [] w1 v13:=by rw[hv13];exact Chg.heap O
     have hS13:SPm (.slice pv n cv) l0 w0 v13:=SPm.chg0 ⟨l10,ho10,hp10,hk10⟩ hcv13;refine aA O (λhless=>?_) (λhless=>?_)
     ·refine ae (zmv O (aC O O (by omega)) (za O ?_));refine a6 ?_;exact⟨ch+1,(au O (au O (au O (au O (au (bL (by omega)) bO))))),by omega,by omega,hS13⟩
     ·refine zKN ?_;exact⟨ch,(au O (au O (au O (au O (au (bL (by omega)) bO))))),by omega,by omega,hS13⟩
    ·refine yp O (λ_=>bG (bK O O) (congrArg Value.bool (decide_eq_false ((by omega))))) ?_;refine ym O (yno O (yno O (yno O (yno O (yno O (cA O O O (yno O (yno O (yno O (yno O (yno O (yno O (cA O O O (iY O O O (yp O (λ_=>(aK O)) ?_)))))))))))))));refine az (aI (rfl) (zKN ?_));exact⟨ch,(au O (au O (au O (au O (au (bL (by omega)) bO))))),by omega,by omega,h1.chg0 (drw _)⟩
   ·rintro vs J2 w2 ⟨ch,rfl,hrc,hch2,h2⟩;refine aa (aa ?_);obtain⟨l14,ho14,hp14,hk14⟩:=id h2;have hl14:l14.length=n:=hp14.length_eq.trans hn;refine aH bx (.pure 0 (.pure 1 (.pure 2 (.pure 3 (.pure 4 (.read 5 (.pure 6 (.pure 7 (.pure 8 (.pure 9 (.pure 10 (.read 11 (.eff 12 [] (.pure 13 .nil)))))))))))))) (by kernel_rfl) ?_;refine ym O (ym O (ym O (yp O (λ_=>(aC O O (by omega))) ?_)));refine yex O (aS (first+root) aZ I25 O (ho14.sl) O O (by first|rfl|omega) (by omega)) ?_;rintro _ ⟨b15,o15,rfl,he15,hb15⟩;refine aG O O O bu O O ((ho14.sl.at he15 (getD_some (d:=0) (by omega))).c0 O) ?_;refine ym O (ym O (ym O (yp O (λ_=>(aC O O (by omega))) ?_)));refine yex O (aS (first+ch) aZ I25 O (ho14.sl) O O (by first|rfl|omega) (by omega)) ?_;rintro _ ⟨b16,o16,rfl,he16,hb16⟩;refine aG O O O bu O O ((ho14.sl.at he16 (getD_some (d:=0) (by omega))).c0 O) ?_;refine ycl O qG (eR (l14.getD (first+root) 0) (l14.getD (first+ch) 0) _) ?_;rintro _ v17 ⟨rfl,hv17⟩;refine⟨trivial,?_⟩;refine yp O (λ_=>(cz O)) ?_;refine az ?_;have hcv17:Chg [] w2 v17:=by rw[hv17];exact Chg.heap O
    have hS17:SPm (.slice pv n cv) l0 w0 v17:=SPm.chg0 ⟨l14,ho14,hp14,hk14⟩ hcv17;refine bX O (λhls=>?_) (λhls=>?_)
    ·refine bC (aL (aR (aL (aR (cV ?_)))));exact hS17
    ·refine zKN (aa ?_);obtain⟨l18,ho18,hp18,hk18⟩:=id hS17;have hl18:l18.length=n:=hp18.length_eq.trans hn;refine aH bx (.pure 0 (.pure 1 (.pure 2 (.pure 3 (.pure 4 (.pure 5 (.pure 6 (.pure 7 (.pure 8 (.pure 9 (.pure 10 (.pure 11 (.pure 12 (.read 13 (.pure 14 (.pure 15 (.pure 16 (.pure 17 (.pure 18 (.read 19 (.pure 20 (.eff 21 [] (.pure 22 (.eff 23 [] .nil)))))))))))))))))))))))) (by kernel_rfl) ?_;refine ym O (ym O (ym O (yp O (λ_=>(aC O O (by omega))) ?_)));refine ym O (ym O (ym O (yp O (λ_=>(aC O O (by omega))) ?_)));refine ym O (ym O (ym O (yp O (λ_=>(aC O O (by omega))) ?_)));refine yex O (aS (first+ch) aZ I25 O (ho18.sl) O O (by first|rfl|omega) (by omega)) ?_;rintro _ ⟨b19,o19,rfl,he19,hb19⟩;refine aG O O O bu O O ((ho18.sl.at he19 (getD_some (d:=0) (by omega))).c0 O) ?_;refine ym O (ym O (ym O (yp O (λ_=>(aC O O (by omega))) ?_)));refine yex O (aS (first+root) aZ I25 O (ho18.sl) O O (by first|rfl|omega) (by omega)) ?_;rintro _ ⟨b20,o20,rfl,he20,hb20⟩;refine aG O O O bu O O ((ho18.sl.at he20 (getD_some (d:=0) (by omega))).c0 O) ?_;refine yex O (aS (first+root) aZ I25 O (ho18.sl) O O (by first|rfl|omega) (by omega)) ?_;rintro _ ⟨b21,o21,rfl,he21,hb21⟩;refine dx O (bU (a:=l18.getD (first+ch) 0) I25 O (ho18.mod0 (drw _)) O (he21) O O (by omega)) ?_;rintro u21 ⟨hou21,hcu21,hsu21⟩;refine⟨trivial,?_⟩;refine yex O (aS (first+ch) aZ I25 O (hou21.sl) O O (by first|rfl|omega) (by simp;omega)) ?_;rintro _ ⟨b22,o22,rfl,he22,hb22⟩;refine dx O (bU (a:=l18.getD (first+root) 0) I25 O (hou21) O (he22) O O (by simp;omega)) ?_;rintro u22 ⟨hou22,hcu22,hsu22⟩;refine⟨trivial,?_⟩;refine az (ae (zma O (bA (ax (aj ?_)))));have hS22:SPm (.slice pv n cv) l0 w0 u22:=⟨_,hou22,(eF l18 (first+root) (first+ch) (by omega) (by omega)).trans hp18,((hk18.tr0 (drw _)).tr hcu21).tr hcu22⟩
     refine aT (q) (bq (by omega) ?_);exact⟨ch,rfl,by omega,by omega,hS22⟩
theorem heap_ok{pv:Option Addr}{n cv:Nat}{l0:List UInt32}{w0 w:World}(h:SPm (.slice pv n cv) l0 w0 w)(hn:l0.length=n)(hm:n<=1000)(a b:Nat)(hab:a<b)(hb:b<=n) :
  Ret Tryz.prog 216 #[.slice pv n cv,.int .i64 a,.int .i64 b] w λ_ w'=>SPm (.slice pv n cv) l0 w0 w':=by
 have hob5:∃m:Nat,m=b-a:=⟨_,rfl⟩
 obtain⟨m,hme⟩:=hob5;have hmi:(b:Int)-(a:Int)=(m:Int):=by omega
 have hob6:∃z:Nat,z=(m-1) / 2+1:=⟨_,rfl⟩
 obtain⟨q0,hq0⟩:=hob6;have hqi:((m:Int)-1) / 2=(q0:Int)-1:=by omega
 refine enter [] Tryz.func216 O O (al O) (zSR (zma O (zNR (za O (zNR (zmm O (a7 O (bf O O (by omega)) (za O ?_))))))));refine a6 (aa (zSR (zmv O (bf O O (by omega)) (a7 O (lG O O (by omega)) (za O ?_)))));refine a6 (aq ?_);rw[hmi,hqi];refine aX [0,6,7,8,9] (λq vs w'=>vs=[.slice pv n cv,.int .i64 a,.int .i64 0,.int .i64 m,.int .i64 ((q:Int)-1)]/\q<=m/\SPm (.slice pv n cv) l0 w0 w') (q0) ?_ ?_
 ·exact⟨rfl,by omega,h⟩
 ·rintro q vs J w1 ⟨rfl,hq,h1⟩;refine aa (zSR (zmv O (fC O O) ?_));refine a6 (aA O (λhge=>?_) (λhge=>?_))
  ·refine zKN (aa (aq (ae (zmm O (zmm O ?_)))));have hob7:∃z,q=z+1:=⟨q-1,by omega⟩
   obtain⟨z,rfl⟩:=hob7;have hz:((z+1:Nat):Int)-1=(z:Int):=by omega
   rw[hz];refine ag O C245 (DU h1 hn hm z m a (by omega) (by omega)) ?_;rintro _ w2 h2;refine bA (ax (aj (ae (zmv O (bf O O (by omega)) (za O ?_)))));refine a6 (aT (z) (bq (by omega) ?_));exact⟨rfl,by omega,h2⟩
  ·refine aO (an (an (aE (aj (zSR (zmv O (bf O O (by omega)) (za O ?_)))))));refine a6 (aq (aX [0,6,7,10] (λq vs w'=>vs=[.slice pv n cv,.int .i64 a,.int .i64 0,.int .i64 ((q:Int)-1)]/\q<=m/\SPm (.slice pv n cv) l0 w0 w') (m) ?_ ?_))
   ·exact⟨rfl,aM _,h1⟩
   ·rintro q2 vs2 J2 w2 ⟨rfl,hq2,h2⟩;refine aa (zSR (zmv O (fC O O) ?_));refine a6 (aA O (λhge2=>?_) (λhge2=>?_))
    ·refine zKN (aa (aq (aa ?_)));have hob8:∃z,q2=z+1:=⟨q2-1,by omega⟩
     obtain⟨z,rfl⟩:=hob8;have hz:((z+1:Nat):Int)-1=(z:Int):=by omega
     rw[hz];obtain⟨l23,ho23,hp23,hk23⟩:=id h2;have hl23:l23.length=n:=hp23.length_eq.trans hn;refine aH bx (.pure 0 (.pure 1 (.pure 2 (.pure 3 (.pure 4 (.pure 5 (.pure 6 (.pure 7 (.pure 8 (.pure 9 (.pure 10 (.read 11 (.pure 12 (.pure 13 (.pure 14 (.read 15 (.pure 16 (.eff 17 [] (.pure 18 (.eff 19 [] .nil)))))))))))))))))))) (by kernel_rfl) ?_;refine ym O (ym O (ym O (ym O (ym O (yp O (λ_=>(aC O O (by omega))) ?_)))));refine ym O (ym O (ym O (yp O (λ_=>(aC O O (by omega))) ?_)));refine yex O (aS (a+z) aZ I25 O (ho23.sl) O O (by first|rfl|omega) (by omega)) ?_;rintro _ ⟨b24,o24,rfl,he24,hb24⟩;refine aG O O O bu O O ((ho23.sl.at he24 (getD_some (d:=0) (by omega))).c0 O) ?_;refine ym O (ym O (yex O (aS (a) aZ I25 O (ho23.sl) O O (by first|rfl|omega) (by omega)) ?_));rintro _ ⟨b25,o25,rfl,he25,hb25⟩;refine aG O O O bu O O ((ho23.sl.at he25 (getD_some (d:=0) (by omega))).c0 O) ?_;refine yex O (aS (a) aZ I25 O (ho23.sl) O O (by first|rfl|omega) (by omega)) ?_;rintro _ ⟨b26,o26,rfl,he26,hb26⟩;refine dx O (bU (a:=l23.getD (a+z) 0) I25 O (ho23.mod0 (drw _)) O (he26) O O (by omega)) ?_;rintro u26 ⟨hou26,hcu26,hsu26⟩;refine⟨trivial,?_⟩;refine yex O (aS (a+z) aZ I25 O (hou26.sl) O O (by first|rfl|omega) (by simp;omega)) ?_;rintro _ ⟨b27,o27,rfl,he27,hb27⟩;refine dx O (bU (a:=l23.getD (a) 0) I25 O (hou26) O (he27) O O (by simp;omega)) ?_;rintro u27 ⟨hou27,hcu27,hsu27⟩;refine⟨trivial,?_⟩;refine az (ae (zmm O (zmm O ?_)));have hS27:SPm (.slice pv n cv) l0 w0 u27:=⟨_,hou27,(eF l23 (a) (a+z) (by omega) (by omega)).trans hp23,((hk23.tr0 (drw _)).tr hcu26).tr hcu27⟩
     refine ag O C245 (DU hS27 hn hm 0 z a (by omega) (by omega)) ?_;rintro _ w3 h3;refine bA (ax (aj (ae (zmv O (bf O O (by omega)) (za O ?_)))));refine a6 (aT (z) (bq (by omega) ?_));exact⟨rfl,by omega,h3⟩
    ·refine aO (an (an (aE (fV ?_))));exact h2
def blN(n:Nat):Nat:=if n=0 then 0 else Nat.log2 n+1
theorem Ib(n:Nat):n<2 ^ blN n:=by
 unfold blN
 split
 ·subst_vars;decide
 ·exact Nat.lt_log2_self
theorem Ic{n:Nat}(h:n≠0):2 ^ blN n<=2*n:=by
 unfold blN;rw[if_neg h,Nat.pow_succ]
 have:=Nat.log2_self_le h
 omega
theorem blN_8{n:Nat}(h:n<256):blN n<=8:=by
 unfold blN
 split
 ·decide
 ·rename_i h0
  have:=(Nat.log2_lt h0 (k:=8)).2 (by omega)
  omega
def Et:List UInt8:=(List.range 256).map λi=>UInt8.ofNat (blN i)
theorem BB{i:Nat}(h:i<256):Et[i]?=some (UInt8.ofNat (blN i)):=by
 unfold Et;rw[mJ,List.getElem?_range h];rfl
theorem FY(x:UInt64)(w:World)(h0:x.toNat≠0)(hx:x.toNat<65536) :
  Ret Tryz.prog 188 #[.int .u64 x.toNat] w λv w'=>(∃k:Nat,v=.int .i64 k/\k<=16/\x.toNat<2 ^ k/\2 ^ k<=2*x.toNat)/\w'=w:=by
 have hge:∀b:UInt64,x.toNat<b.toNat->¬x≥b:=λb hb h=>by
  have:=UInt64.le_iff_toNat_le.1 h
  omega
 refine enter [2] Tryz.func188 O O (al O) (zSR (za O (a6 (aa (zSR (zmv O (m7 (b:=4294967296) O O) ?_))))));refine a6 (aJ O (hge _ (iz hx (by decide))) ?_);refine zKN (aa (zSR (zmv O (m7 (b:=65536) O O) ?_)));refine a6 (aJ O (hge _ (iz hx (by decide))) ?_);refine zKN (aa (zSR (zmv O (m7 (b:=256) O O) ?_)));refine a6 (aA O (λh8=>?_) (λh8=>?_))
 ·refine zSR (zmv O (nQ O O (s:=8) O) (za O ?_));refine a6 (ae (zmv O (aC O O (by omega)) (za O ?_)));refine zNR (zmm O (a7 O (gk O eA uU5) ?_));have h8:256<=x.toNat:=UInt64.le_iff_toNat_le.1 h8;have hsh:(pF x 8).toNat=x.toNat / 256:=by
   unfold pF;rw[ef,zc]
   have:x.toNat / 2 ^ 8<=x.toNat:=Nat.div_le_self _ _
   omega
  have h8n:(u6 ((pF x 8).toNat:Int)).toNat=x.toNat / 256:=by
   rw[rk,iX,hsh];omega
  have hb8:=blN_8 (show x.toNat / 256<256 by omega);have q1:=Ib (x.toNat / 256);have q2:=Ic (show x.toNat / 256≠0 by omega);have q3:2 ^ (8+blN (x.toNat / 256))=256*2 ^ blN (x.toNat / 256):=by rw[Nat.pow_add]
  have hbn:(UInt8.ofNat (blN (x.toNat / 256))).toNat=blN (x.toNat / 256):=by rw[iX];omega
  refine a7 O (mT (l:=Et) uU9 (by kernel_rfl) O (uR _) (by rw[jk,h8n];exact BB (by omega))) ?_;refine a7 O (gg O uU5 uU3 (by omega)) (a7 O (aC O O (by omega)) (za O ?_));refine a6 (zrf ?_);exact⟨⟨8+blN (x.toNat / 256),by show Value.int .i64 ((8:Int)+((UInt8.ofNat (blN (x.toNat / 256))).toNat:Int))=_;rw[hbn];rfl,by omega,by omega,by omega⟩,rfl⟩
 ·refine zKR (zmm O (a7 O (gk O eA uU5) ?_));have h8:x.toNat<256:=Nat.lt_of_not_le (λh=>h8 (UInt64.le_iff_toNat_le.2 h));have h8n:(u6 (x.toNat:Int)).toNat=x.toNat:=by
   rw[rk,iX];omega
  have hb8:=blN_8 h8;have hbn:(UInt8.ofNat (blN x.toNat)).toNat=blN x.toNat:=by rw[iX];omega
  refine a7 O (mT (l:=Et) uU9 (by kernel_rfl) O (uR _) (by rw[jk,h8n];exact BB h8)) ?_;refine a7 O (gg O uU5 uU3 (by omega)) (a7 O (aC O O (by omega)) (za O ?_));refine a6 (zrf ?_);exact⟨⟨blN x.toNat,by show Value.int .i64 ((0:Int)+((UInt8.ofNat (blN x.toNat)).toNat:Int))=_;rw[hbn,Int.zero_add],by omega,Ib _,Ic h0⟩,rfl⟩
theorem BO(x:UInt64)(w:World)(h0:x.toNat≠0)(hx:x.toNat<65536) :
  Ret Tryz.prog 132 #[.int .u64 x.toNat] w λv w'=>(∃k:Nat,v=.int .i64 k/\k<=16/\x.toNat<2 ^ k/\2 ^ k<=2*x.toNat)/\w'=w:=by
 refine enter [2] Tryz.func132 O O (al O) (zSR (za O (a6 (aa (aI (rfl) (zKR (zm O (ag O C188 (FY x w h0 hx) ?_))))))));rintro _ w1 ⟨⟨k,rfl,hk⟩,rfl⟩;refine za O (a6 (zrf ?_));exact⟨⟨k,rfl,hk⟩,rfl⟩
theorem Hv(m:Nat)(w:World)(h0:1<=m)(hm:m<=1000) :
  Ret Tryz.prog 227 #[.int .i64 m] w λv w'=>(∃y:UInt64,v=.int .u64 y.toNat/\1<=y.toNat/\y.toNat<=2*m)/\w'=w:=by
 have h64:(dm (m:Int)).toNat=m:=by rw[dR,mK (show m<18446744073709551616 by omega)]
 refine enter [2] Tryz.func227 O O (al O) (zSR (a7 O (gK (v:=.int .u64 ((0:UInt64).toNat:Nat)) O) ?_));refine zNR (zmv O (dc O uU3 pD) (ag O C132 (BO (dm m) _ (by omega) (by omega)) ?_));rintro _ w1 ⟨⟨k,rfl,hk,hk1,hk2⟩,rfl⟩;have hp:2 ^ k<=65536:=mN (by decide) hk;have hpn:(UInt64.ofNat (2 ^ k)).toNat=2 ^ k:=by rw[ef];omega
 have hsh:Value.int .u64 (IntKind.u64.wrap ((1:Int)*2 ^ (min ((k:Int).toNat) 64)))=Value.int .u64 ((UInt64.ofNat (2 ^ k)).toNat:Int):=by
  have e:(2:Int) ^ k=((2 ^ k:Nat):Int):=(Int.natCast_pow 2 k).symm;rw[hpn,jk,ey (by omega),Int.one_mul,jn,e];congr 1;omega
 have hp1:1<=2 ^ k:=Nat.one_le_two_pow;refine a7 O (bG (DD O O (uR _)) hsh) ?_;refine za O (a6 (zrf ?_));exact⟨⟨UInt64.ofNat (2 ^ k),rfl,by omega,by omega⟩,rfl⟩
theorem Next_ok(rb:Nat)(x:UInt64)(w:World)(hB:Blk w rb [.int .u64 x.toNat]) :
  Ret Tryz.prog 228 #[.pointer (some ⟨rb,0,none⟩)] w λv w'=>∃y:UInt64,v=.int .u64 y.toNat/\Blk w' rb [.int .u64 y.toNat]/\Chg [rb] w w':=by
 refine enter [2] Tryz.func228 O O (al O) (zSR (a7 O (gK (v:=.int .u64 ((0:UInt64).toNat:Nat)) O) ?_));refine a6 (aa (aH bx (.pure 0 (.pure 1 (.read 2 (.pure 3 (.pure 4 (.read 5 (.pure 6 (.pure 7 (.pure 8 (.eff 9 [] .nil)))))))))) (by kernel_rfl) ?_));refine ym O (yn O (aG O O O tB O O (hB.c O) (ym O (yn O (aG O O O tB O O (hB.c O) (yp O (λ_=>(qP O O (s:=13) O)) ?_))))));refine yp O (λ_=>(uS O O)) ?_;refine yn O (dx O (bJ Iy O O ((hB.chg0 (drw _))) O O ((by decide:0<1)) O (rfl)) ?_);rintro w1 ⟨hB1,hc1,hs1⟩;refine⟨trivial,?_⟩;refine az (aa (aH bx (.pure 0 (.pure 1 (.read 2 (.pure 3 (.pure 4 (.read 5 (.pure 6 (.pure 7 (.pure 8 (.eff 9 [] .nil)))))))))) (by kernel_rfl) ?_));refine ym O (yn O (aG O O O tB O O (hB1.c O) (ym O (yn O (aG O O O tB O O (hB1.c O) (yp O (λ_=>(nQ O O (s:=7) O)) ?_))))));refine yp O (λ_=>(uS O O)) ?_;refine yn O (dx O (bJ Iy O O ((hB1.chg0 (drw _))) O O ((by decide:0<1)) O (rfl)) ?_);rintro w2 ⟨hB2,hc2,hs2⟩;refine⟨trivial,?_⟩;refine az (aa (aH bx (.pure 0 (.pure 1 (.read 2 (.pure 3 (.pure 4 (.read 5 (.pure 6 (.pure 7 (.pure 8 (.eff 9 [] .nil)))))))))) (by kernel_rfl) ?_));refine ym O (yn O (aG O O O tB O O (hB2.c O) (ym O (yn O (aG O O O tB O O (hB2.c O) (yp O (λ_=>(qP O O (s:=17) O)) ?_))))));refine yp O (λ_=>(uS O O)) ?_;refine yn O (dx O (bJ Iy O O ((hB2.chg0 (drw _))) O O ((by decide:0<1)) O (rfl)) ?_);rintro w3 ⟨hB3,hc3,hs3⟩;refine⟨trivial,?_⟩;refine zPR (zm O (zn O O (a7 O (aD tB O O (hB3.c O)) (za O (a6 (zrf ?_))))));exact⟨_,rfl,hB3,(((drw w).tr0' hc1).tr ((drw w1).tr0' hc2)).tr ((drw w2).tr0' hc3)⟩
theorem Cl(l:List Bs)(i j:Nat)(hi:i<l.length)(hj:j<l.length):((l.set i (l.getD j [])).set j (l.getD i [])).Perm l:=by
 have e1:l.getD j []=l[j]:=by simp[List.getD_eq_getElem?_getD,hj]
 have e2:l.getD i []=l[i]:=by simp[List.getD_eq_getElem?_getD,hi]
 rw[e1,e2];exact List.set_set_perm hi hj
def SPs(v:Value)(l0:List Bs)(w0 w:World):Prop:=∃l,Own w v l/\l.Perm l0/\Chg (ay v) w0 w
theorem SPs.chg0{v:Value}{l0:List Bs}{w0 w w':World}(h:SPs v l0 w0 w)(hc:Chg [] w w'):SPs v l0 w0 w':=by
 obtain⟨l,h1,h2,h3⟩:=h;exact⟨l,h1.mod0 hc,h2,h3.tr0 hc⟩
theorem Fu(x:Bs)(w:World) :
  Ret Tryz.prog 208 #[str x] w λv w'=>v=.bool false/\w'=w:=by
 refine enter [2] Tryz.func208 O O (al O) (zSR (za O (zNR (zmm O (a7 O (tw O O) (za O (a6 (zrf ?_))))))));have hx:(decide (x≠x))=false:=by simp
 refine⟨?_,rfl⟩;show Value.bool (decide (x≠x))=_;rw[hx]
theorem It(x y:Bs)(w:World) :
  Ret Tryz.prog 165 #[str x,str y] w λv w'=>(∃b:Bool,v=.bool b)/\w'=w:=by
 refine enter [4] Tryz.func165 O O (al O) (zSR (za O (zNR (zm O (ag O C208 (Fu x w) ?_)))));rintro _ w1 ⟨rfl,rfl⟩;refine zm O (aw O O (aw O O (aw O O (a7 O (aK O) (zm O (ah O (zm O (ah O (zm O (ah O (a7 O (zi O O) (a7 O (aK O) (za O (a6 (zrf ?_)))))))))))))));exact⟨⟨_,rfl⟩,rfl⟩
theorem insS_ok{pv:Option Addr}{n cv:Nat}{l0:List Bs}{w0 w:World}(h:SPs (.slice pv n cv) l0 w0 w)(hn:l0.length=n)(hm:n<=1000) :
  Ret Tryz.prog 179 #[.slice pv n cv,.int .i64 0,.int .i64 n] w λ_ w'=>SPs (.slice pv n cv) l0 w0 w':=by
 refine enter [] Tryz.func179 O O (al O) (zSR (zmv O (aC O O (by omega)) (za O ?_)));refine a6 (aq (aX [0,1,2,6] (λq vs w'=>∃i:Nat,vs=[.slice pv n cv,.int .i64 0,.int .i64 n,.int .i64 i]/\i+q=n+3/\1<=i/\SPs (.slice pv n cv) l0 w0 w') (n+2) ?_ ?_))
 ·exact⟨1,rfl,by omega,aM _,h⟩
 ·rintro q vs J w1 ⟨i,rfl,hi,hai,h1⟩;refine aa (zSR (zmm O (a7 O (bK O O) ?_)));refine a6 (aA O (λhlt=>?_) (λhlt=>?_))
  ·refine zKN (aa (aq (zSR (zma O (a6 (aq ?_))))));have hob1:∃z,q=z+1:=⟨q-1,by omega⟩
   obtain⟨q,rfl⟩:=hob1;refine aX [0,1,2,6,7] (λj vs w'=>vs=[.slice pv n cv,.int .i64 0,.int .i64 n,.int .i64 i,.int .i64 j]/\j<=i/\SPs (.slice pv n cv) l0 w0 w') (i) ?_ ?_
   ·exact⟨rfl,aM _,h1⟩
   ·rintro j vs2 J2 w2 ⟨rfl,hji,h2⟩;refine aa (aa ?_);obtain⟨l140,ho140,hp140,hk140⟩:=id h2;have hl140:l140.length=n:=hp140.length_eq.trans hn;refine aH bx (.pure 0 (.pure 1 (.pure 2 (.pure 3 (.pure 4 (.pure 5 (.pure 6 (.read 7 (.pure 8 (.pure 9 (.pure 10 (.pure 11 (.read 12 (.eff 13 [] (.pure 14 .nil))))))))))))))) (by kernel_rfl) ?_;refine ym O (ym O ?_);by_cases hj:0<j
    ·refine yp O (λ_=>bG (dk O O) (congrArg Value.bool (decide_eq_true ((by omega))))) ?_;refine ym O (ym O (ym O (yex O (aS (j) cO I9 O (ho140.sl) O O (by first|rfl|omega) (by omega)) ?_)));rintro _ ⟨b141,o141,rfl,he141,hb141⟩;refine aG O O O uU9 O O ((ho140.sl.at he141 (getD_some (d:=[]) (by omega))).c0 O) ?_;refine ym O (ym O (yp O (λ_=>(bf O O (by omega))) ?_));refine yex O (aS (j-1) cO I9 O (ho140.sl) O O (by first|rfl|omega) (by omega)) ?_;rintro _ ⟨b142,o142,rfl,he142,hb142⟩;refine aG O O O uU9 O O ((ho140.sl.at he142 (getD_some (d:=[]) (by omega))).c0 O) ?_;refine ycl O C165 (It (l140.getD j []) (l140.getD (j-1) []) _) ?_;rintro _ w3 ⟨⟨lb,rfl⟩,hw3⟩;refine⟨trivial,?_⟩;refine yp O (λ_=>(aN O)) ?_;refine az ?_;have hc3:Chg [] w2 w3:=by rw[hw3];exact Chg.heap O
     have h3:=h2.chg0 hc3;refine bX O (λhless=>?_) (λhless=>?_)
     ·refine zKN (aa (aq ?_));have hob2:∃q,j=q+1:=⟨j-1,by omega⟩
      obtain⟨j,rfl⟩:=hob2;obtain⟨l143,ho143,hp143,hk143⟩:=id h3;have hl143:l143.length=n:=hp143.length_eq.trans hn;refine aH bx (.pure 0 (.pure 1 (.pure 2 (.pure 3 (.pure 4 (.pure 5 (.pure 6 (.pure 7 (.pure 8 (.read 9 (.pure 10 (.pure 11 (.pure 12 (.read 13 (.pure 14 (.eff 15 [] (.pure 16 (.eff 17 [] .nil)))))))))))))))))) (by kernel_rfl) ?_;refine ym O (ym O (ym O (ym O (yp O (λ_=>(bf O O (by omega))) ?_))));refine ym O (ym O (yp O (λ_=>(bf O O (by omega))) ?_));refine yex O (aS (j) cO I9 O (ho143.sl) O O (by first|rfl|omega) (by omega)) ?_;rintro _ ⟨b144,o144,rfl,he144,hb144⟩;refine aG O O O uU9 O O ((ho143.sl.at he144 (getD_some (d:=[]) (by omega))).c0 O) ?_;refine ym O (ym O (yex O (aS (j+1) cO I9 O (ho143.sl) O O (by first|rfl|omega) (by omega)) ?_));rintro _ ⟨b145,o145,rfl,he145,hb145⟩;refine aG O O O uU9 O O ((ho143.sl.at he145 (getD_some (d:=[]) (by omega))).c0 O) ?_;refine yex O (aS (j+1) cO I9 O (ho143.sl) O O (by first|rfl|omega) (by omega)) ?_;rintro _ ⟨b6,o6,rfl,he6,hb6⟩;refine dx O (bU (a:=l143.getD j []) I9 O (ho143.mod0 (drw _)) O (he6) O O (by omega)) ?_;rintro w7 ⟨ho7,hc7,hs7⟩;refine⟨trivial,?_⟩;refine yex O (aS (j) cO I9 O (ho7.sl) O O (by first|rfl|omega) (by simp;omega)) ?_;rintro _ ⟨b8,o8,rfl,he8,hb8⟩;refine dx O (bU (a:=l143.getD (j+1) []) I9 O (ho7) O (he8) O O (by simp;omega)) ?_;rintro w9 ⟨ho9,hc9,hs9⟩;refine⟨trivial,?_⟩;refine ez (ax (aj (ae (zmv O (bf O O (by omega)) (za O ?_)))));refine a6 ?_;have h9:SPs (.slice pv n cv) l0 w0 w9:=⟨_,ho9,(Cl l143 (j+1) j (by omega) (by omega)).trans hp143,((hk143.tr0 (drw _)).tr hc7).tr hc9⟩
      refine aT (j) (bq (by omega) ?_);exact⟨(au O (au O (au O (au O (au (bL (by omega)) bO))))),by omega,h9⟩
     ·refine aO (an (an (aE (ax (aj (ae (zmv O (aC O O (by omega)) (za O ?_))))))));refine a6 ?_;have hZ:=h3;refine aT (q) (bq (by omega) ?_);exact⟨i+1,rfl,by omega,by omega,hZ⟩
    ·refine yp O (λ_=>bG (dk O O) (congrArg Value.bool (decide_eq_false ((by omega))))) ?_;refine ym O (yno O (yno O (yno O (cA O O O (yno O (yno O (yno O (yno O (cA O O O (iY O O O (yp O (λ_=>(aK O)) ?_)))))))))));refine az (aI (rfl) (aO (an (an (aE (ax (aj (ae (zmv O (aC O O (by omega)) (za O ?_))))))))));refine a6 ?_;have hZ:=h2.chg0 (drw _);refine aT (q) (bq (by omega) ?_);exact⟨i+1,rfl,by omega,by omega,hZ⟩
  ·refine aO (an (an (aE (fV ?_))));exact h1
theorem pdqS_ok{pv:Option Addr}{n cv:Nat}{l0:List Bs}{w:World}(lim:Int)(ho:Own w (.slice pv n cv) l0)(hn:l0.length=n)(hm:n<=12) :
  Ret Tryz.prog 131 #[.slice pv n cv,.int .i64 0,.int .i64 n,.int .i64 lim] w λ_ w'=>SPs (.slice pv n cv) l0 w w':=by
 refine enter [] Tryz.func131 O O (al O) (zSR (za O (zNR (za O (a6 (aq (aX [0,1,2,3,8,9] (λq vs w'=>vs=[.slice pv n cv,.int .i64 0,.int .i64 n,.int .i64 lim,.bool true,.bool true]/\w'=w) (0) ?_ ?_)))))))
 ·exact⟨rfl,rfl⟩
 ·rintro q vs J w1 ⟨rfl,rfl⟩;refine aq (zSR (zmm O (a7 O (bf O O (by omega)) (za O ?_))));refine a6 (aa (zSR (zmv O (fN O O) (a6 (bI O (by omega) ?_)))));refine zSR (zmm O (zm O (ag O C179 (insS_ok ⟨l0,ho,.refl _,Chg.refl' _ _⟩ hn (by omega)) ?_)));rintro _ w2 h2;refine a6 (bC (aL (aR (aL (aR (cV ?_))))));exact h2
theorem Im{v:Value}{l0:List Bs}{w:World}(ho:Own w v l0)(hm:l0.length<=12) :
  Ret Tryz.prog 78 #[v] w λ_ w'=>SPs v l0 w w':=by
 have hob3:=ho.form rfl;obtain⟨pv,cv,rfl⟩:=hob3;have h64:(dm (l0.length:Int)).toNat=l0.length:=by rw[dR,mK (show l0.length<18446744073709551616 by omega)]
 refine enter [] Tryz.func78 O O (al O) (zSR (zmv O (aB O cO) (za O (a6 (ae (zmm O (zmv O (dc O uU3 pD) (ag O C132 (EE (dm l0.length) _ (by omega)) ?_))))))));rintro _ w1 ⟨⟨k,rfl⟩,rfl⟩;refine ag O C131 (pdqS_ok k ho O hm) ?_;rintro _ w2 h2;refine bA (fV ?_);exact h2
theorem into_ok(c:TC)(mb:Nat)(s:TP)(hF:mb∉c.F/\c.w0.heap.size<=mb):∀(d:Nat) (w:World) (id:UInt32) (pg:List UInt32) (m:List Pr) (deep:Nat) (f:PgF),c.pg w s->SetAt w mb f->isT s.V d id pg m->(∀x∈pg,s.P.now.written x=true)->deep+d<=40->pg.Nodup->ClS s.V f pg ->
  Ret Tryz.prog 113 #[c.pv,.int .u32 id.toNat,.map (some mb),.int .i64 deep] w λr w'=>r=.int .i64 0/\∃f',SetAt w' mb f'/\(∀x,f' x=(f x||pg.elem x))/\c.pg w' s/\Chg [mb] w w':=by
 intro d
 induction d using Nat.strongRecOn with
 | _ d ih =>
  intro w id pg m deep f h hM ht hw hd hnd hcl;obtain⟨n,pg0,hpgq,hct,hV,hz,hf⟩:=mE ht;have hg:=CT.good hct hz hf;have hM2:=hM;obtain⟨st,hst,hsl⟩:=hM2;have hlt:mb<w.heap.size:=hM.lt;have hidp:id∈pg:=by rw[hpgq];exact cM
  refine enter [8] Tryz.func113 O O (al O) (zSR (za O (a6 (aa (zSR (zmv O (dk O O) (a6 (aJ O (by omega) ?_))))))));refine zKN (aa (zSR (zmm O ?_)));by_cases hfi:f id=true
  ·have hlook:(cB id st).getD (.bool false)=.bool true:=by rw[SetAt.look hsl,hfi]
   refine a7 O (bG (fk (k:=id) rj (du bu) I4 O O O hst) hlook) ?_;refine a6 (aW (rfl) (zSR (za O (a6 (zrt ?_)))));refine⟨rfl,f,hM,λx=>?_,h,Chg.refl' _ _⟩;cases hx:pg.elem x with
   | false => rw [Bool.or_false]
   | true => rw [hcl id hidp hfi d pg m ht x (by simpa using hx)]; rfl
  ·have hfi:f id=false:=by simpa using hfi
   have hlook:(cB id st).getD (.bool false)=.bool false:=by rw[SetAt.look hsl,hfi]
   refine a7 O (bG (fk (k:=id) rj (du bu) I4 O O O hst) hlook) ?_;refine a6 (aI (rfl) (zKR (zmm O (ag O C59 (uD c w s id n h (hw id hidp) hV hg) ?_))));rintro _ w1 ⟨⟨v,rfl,hn1,hnew1⟩,hc1⟩;refine zm O (zx O (zx O (zaa O (a6 (aa (zSR (zmv O (bV O O) (a6 (aJ O (λh=>h O) ?_)))))))));refine zKR (zmm O ?_);have hst1:=hst.mod hc1 (by simp);refine aQ O (gz (k:=id) rj (du bu) O O O hst1) ?_;rintro w2 ⟨hm2,hc2,hs2⟩;refine a6 (aa (zSR (zm O (zn O O (a7 O (a8 bS O I41 O O) ?_)))));have hvF:∀x∈v.F,x∉[mb]:=λx hx hh=>by simp at hh;subst hh;have:=hnew1 _ hx;omega
   have hn2:=hn1.chg hc2 hvF;have hS2:SetAt w2 mb (eX f id):=⟨_,hm2,rq hsl id⟩
   have hFm:∀x∈c.F,x∉[mb]:=λx hx hh=>by simp at hh;subst hh;exact hF.1 hx
   have hmw:∀x∈[mb],c.w0.heap.size<=x:=λx hx=>by simp at hx;subst hx;exact hF.2
   have h2:c.pg w2 s:=(h.chg0 hc1).chg hc2 hFm hmw;have hc02:Chg [mb] w w2:=hc1.tr0' hc2;have hob1:=CT.parts hct;obtain⟨ts,hids,hpg,hmm,hsep,hkid⟩:=hob1;have hob2:∃p c,v.i=.slice p (cnI n).length c:=hn2.i.form rfl;obtain⟨pi,ci,hvi⟩:=hob2;have hnI:(cnI n).length<=200:=by
    cases n with
    | leaf ps => exact eh _
    | br ks ids => have hgb : brOk ks ids := hg; exact bw hgb.few.2 (by decide)
   have hil:(cnI n).length=ts.length:=by rw[hids,bY]
   refine a7 O (aD aZ O O (((by rw[<-hvi];exact hn2.blk.c (by cases n <;> rfl)):_=some (Value.slice pi (cnI n).length ci)))) ?_;refine a7 O (aB O aZ) (zm O (a6 (aq (aX [0,2,3,33,34,35] (λk vs w'=>∃(i:Nat) (f':PgF),vs=[c.pv,.map (some mb),.int .i64 deep,.slice pi (cnI n).length ci,.int .i64 (cnI n).length,.int .i64 i]/\i+k=(cnI n).length/\SetAt w' mb f'/\(∀x,f' x=(f x||(id::pgT (ts.take i)).elem x))/\c.pg w' s/\NAt w' v n/\Chg [mb] w w') ((cnI n).length) ?_ ?_))))
   ·refine⟨0,eX f id,rfl,by omega,hS2,λx=>?_,h2,hn2,hc02⟩;unfold eX;by_cases e:x=id <;> simp[e,pgT]
   ·rintro k vs J w3 ⟨i,f3,rfl,hik,hS3,hf3,h3,hn3,hc3⟩;refine zSR (a7 O (bK O O) ?_);refine a6 (aa (aA O (λhltk=>?_) (λhltk=>?_)))
    ·refine zKN (aa (aq (aa (ae ?_))));have hob3:∃q,k=q+1:=⟨k-1,by omega⟩
     obtain⟨k,rfl⟩:=hob3;have hit:i<ts.length:=by omega
     have hob4:=hkid ts[i] (lQ hit);obtain⟨q,hdq,hkt,hkm⟩:=hob4;have hiS:Sl w3 (.slice pi (cnI n).length ci) (cnI n):=by rw[<-hvi];exact hn3.i
     have hget:(cnI n)[i]?=some ts[i].1:=by rw[hids,bs,mJ,bM hit];rfl
     refine bD O (aS (i) aZ I25 O (hiS) O O (by first|rfl|omega) (by omega)) ?_;rintro _ ⟨bi,oi,rfl,hei,hbi⟩;refine a7 O (aD bu O O (((hiS.at hei hget).c0 O))) (za O (zNR (zmm O (zmm O (a7 O (aC O O (by omega)) ?_)))));have hsplit:pgT ts=pgT (ts.take i)++(ts[i].2.1++pgT (ts.drop (i+1))):=by
      rw[<-eM,<-eO,<-jE hit,eZ]
     have htp:pgT (ts.take (i+1))=pgT (ts.take i)++ts[i].2.1:=by rw[<-fM hit,eO,eM];simp[pgT]
     have hsub0:∀x∈ts[i].2.1,x∈pg0:=λx hx=>by rw[hpg,hsplit];simp[hx]
     have hsub:∀x∈ts[i].2.1,x∈pg:=λx hx=>by rw[hpgq];exact bN _ (hsub0 x hx)
     have hndq:=hnd;rw[hpgq] at hndq;have hid0:=(List.nodup_cons.1 hndq).1;have hnd0:pg0.Nodup:=(List.nodup_cons.1 hndq).2;rw[hpg,hsplit,kh] at hnd0;have hndi:=(List.nodup_append.1 hnd0.2.1).1;have hcl3:ClS s.V f3 ts[i].2.1:=λx hx hfx d' pg' m' ht' y hy=>by
      rw[hf3] at hfx ⊢;rcases Bool.or_eq_true_iff.1 hfx with g|g
      ·rw[hcl x (hsub x hx) g d' pg' m' ht' y hy];rfl
      ·have g:x∈id::pgT (ts.take i):=by simpa using g
       rcases List.mem_cons.1 g with g|g
       ·rw[g] at hx;exact absurd (hsub0 id hx) hid0
       ·exact absurd O (hnd0.2.2 x g x (cL _ hx))
     refine ag O C113 (ih q (by omega) w3 ts[i].1 ts[i].2.1 ts[i].2.2 (deep+1) f3 h3 hS3 hkt (λx hx=>hw x (hsub x hx)) (by omega) hndi hcl3) ?_;rintro _ w4 ⟨rfl,f4,hS4,hf4,h4,hc4⟩;refine za O (zNR (zmv O (bV O O) (a6 (aJ O (λh=>h O) ?_))));refine bQ (ax (aj (ae (a7 O (aC O O (by omega)) (zm O ?_)))));refine a6 (aT (k) (bq (by omega) ?_));refine⟨i+1,f4,rfl,by omega,hS4,λx=>?_,h4,hn3.chg hc4 hvF,hc3.tr hc4⟩;rw[hf4,hf3,htp,Bool.or_assoc];congr 1;simp[Bool.or_assoc]
    ·refine aO (an (an (aE (aj (zSR (za O (a6 (zrf ?_))))))));have hT:ts.take i=ts:=cd (by omega);rw[hT] at hf3;refine⟨rfl,f3,hS3,λx=>?_,h3,hc3⟩;rw[hf3,hpgq,hpg]
theorem EC(c:TC)(mb:Nat)(s:TP)(hF:mb∉c.F/\c.w0.heap.size<=mb)(d:Nat)(w:World)(id:UInt32)(pg:List UInt32)(m:List Pr)(f:PgF)(h:c.pg w s)(hM:SetAt w mb f)(ht:isT s.V d id pg m)(hw:∀x∈pg,s.P.now.written x=true)(hd:d<=40)(hnd:pg.Nodup)(hcl:ClS s.V f pg) :
  Ret Tryz.prog 66 #[c.pv,.int .u32 id.toNat,.map (some mb)] w λr w'=>r=.int .i64 0/\∃f',SetAt w' mb f'/\(∀x,f' x=(f x||pg.elem x))/\c.pg w' s/\Chg [mb] w w':=by
 refine enter [6] Tryz.func66 O O (al O) (zSR (za O (zNR (zmm O (zm O (ag O C113 (into_ok c mb s hF d w id pg m 0 f h hM ht hw (by omega) hnd hcl) ?_))))));rintro _ w1 ⟨rfl,h1⟩;refine za O (a6 (zrf ?_));exact⟨rfl,h1⟩
end Go.Proofs.YtpbfapbajmdlkaaGreat
