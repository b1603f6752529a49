/- Batch upon batch over the same keys: never a page more than there must be, on a small disk, too. It holds for every input; there are no conditions. -/
import Derived.Test.YtpbfapbajmdlkaaGreatQ2
import Derived.Test.YtpbfapbajmdlkaaGreatSac1
import Derived.RangeFuncGives
import Derived.Maps.AppendAt
import Derived.Sort.MapsRangeIn
import Derived.WalkKit
import Derived.OwnWalkIn
import Derived.TacticsInMore
import Derived.RegionIn
import Derived.LoopNIn
import Derived.LoopIn
import Derived.Test.YtpbfapbajmdlkaaGreatSac2
namespace Go.Proofs.YtpbfapbajmdlkaaGreat
open Go Go.Sac
set_option maxRecDepth 100000
set_option maxHeartbeats 4000000
theorem zg{id:UInt32}{A B pg pg1 new out pg4 new2:List UInt32}(h1:(pg++out).Perm (pg1++new))(h2:pg4.Perm (A++(pg++B)++new2)):(pg4++([id]++out)).Perm (id::(A++(pg1++B))++(new++new2)):=by
 rw[oq] at h1 h2 ⊢;intro x;have h1:=h1 x;have h2:=h2 x;simp only[rW,uu,ur] at h1 h2 ⊢;omega
theorem Hole.put{V:UInt32->Bs}{d:Nat}{K1 K2:List Bs}{A B:List Kd}{m:List Pr}{p:Pr}(h:Hole V d K1 K2 A B m)(h1:∀k∈K1,ltB p.1 k=false)(h2:∀k∈K2,ltB p.1 k=true):Hole V d K1 K2 A B (fB m p) :=
 h.set (fun k hk q hq=>(re hq).elim (fun e=>e▸h1 k hk) (fun g=>h.seps.above h.lm k hk q g)) (fun k hk q hq=>(re hq).elim (fun e=>e▸h2 k (List.mem_of_mem_head? hk)) (fun g=>h.seps.below h.lm k hk q g))
theorem put_ok(c:TC)(xb:Nat)(p:Pr)(hp:nN p):∀(d:Nat) (w:World) (e:TE) (id:UInt32) (pg:List UInt32) (m:List Pr) (deep:Nat),c.ed xb w e->isT e.s.V d id pg m->(∀x∈pg,e.s.P.now.written x=true)->deep+d<=40->e.made.length+2*d<=900->e.gone.length+d<=900->e.s.k+2*d<=40000 ->
  Ret Tryz.prog 97 #[.pointer (some ⟨xb,0,none⟩),.int .u32 id.toNat,.agg #[str p.1,str p.2],.int .i64 deep] w fun r w'=>∃e' new out,c.to xb w w' e e'/\Stp c.n e e' new out/\new.length<=2*d/\out.length<=d+1 /\
   ((∃q,r=.tuple #[q,.int .i64 70]/\mZ c.n e'.s.P)∨∃v n' pg',r=.tuple #[v.ptr,.int .i64 0]/\c.has xb e' w.heap.size w' v n'/\CT e'.s.V d n' pg' (fB m p)/\(pg'++out).Perm (pg++new)/\wm n'/\jB n'):=by
 intro d
 induction d with
 | zero =>
  intro w e id pg m deep h ht hw hd hml hgl hk;obtain⟨rfl,hlf,hV⟩:=ht;have hps:=hlf.1;have hsz:cP m<=480:=hlf.2;have hll:=hlf.few;refine enter [8,9] Tryz.func97 rfl rfl (al rfl) (zSR (aY rfl (cT (l:=[str p.1,str p.2]) rfl rfl) ?_));rintro _ w1 ⟨tb,rfl,hnt,hT1,hc1,hl1⟩;refine zaa rfl (zNR (zmm rfl (zm rfl ?_)));have h1:=h.chg0 hc1;have k1:=hc1.1;refine ah rfl HW (nX c xb w1 e id (.leaf m) deep h1 (by omega) (hw id (by simp)) hV hlf (by omega)) ?_;rintro _ w2 ⟨v,e2,rfl,hto2,hst2,hs2,hh2⟩;refine zm rfl (zx rfl (zx rfl (zaa rfl (a8 (a6 (ae (zSR (zmv rfl (bS rfl rfl) (a8 (a6 (aI rfl (fun h=>h rfl) ?_)))))))))));refine aw (a6 (ae (zSR (zm rfl (zn rfl rfl (a7 rfl (aa bQ rfl I4 rfl rfl) ?_))))));have hlt1:=h1.lt;have htF:tb∉c.F++EF xb e:=fun hh=>by have:=h.lt tb hh;omega
  have hT2:=hT1.chg hto2.chg htF;have h2:=hto2.at_;have hlt2:=h2.lt;have k2:=hto2.chg.1;have hn2:=hh2.at_;have hnew2:=hh2.new;obtain⟨vb,vp,vk,vi⟩:=v;have hB2:Blk w2 vb [.bool true,vp,vk,vi]:=hn2.blk;have hp2:Sl w2 vp m:=hn2.p;have hbl2:=hB2.lt;have htv:tb≠vb:=fun e=>by have:=(hnew2 vb (by simp[NV.F])).1;omega
  have hvb:vb∉c.F++EF xb e2:=fun hh=>by
   rcases List.mem_append.1 hh with hh|hh
   ·have:=h.pg.lt vb hh;have:=(hnew2 vb (by simp[NV.F])).1;omega
   ·exact(hnew2 vb (by simp[NV.F])).2 hh
  refine a7 rfl (aC uU4 rfl rfl (hB2.c rfl)) (a8 (a6 (bh (rfl) (zSR (zmv rfl (aa j1 rfl I9 rfl rfl) (a7 rfl (aC uU9 rfl rfl (hT2.c rfl)) (ah rfl C61 (zz w2 ⟨vb,vp,vk,vi⟩ m p.1 hn2 hps.2 (by omega)) ?_)))))));rintro _ w3 ⟨rfl,hc3⟩;refine zm rfl (zx rfl (zx rfl (zaa rfl (zNR (zmm rfl (zn rfl rfl (a7 rfl (aa bQ rfl I33 rfl rfl) ?_)))))));have hB3:=hB2.chg0 hc3;have hT3:=hT2.chg0 hc3;refine a7 rfl (aC dc rfl rfl (hB3.c rfl)) (ah rfl C154 (wG w3 vp m (hp2.mod0 hc3) (by omega)) ?_);rintro v4 w4 ⟨ho4,hi4,hc4⟩;refine zn rfl rfl (a7 rfl (aa bQ rfl I33 rfl rfl) ?_);have hi4':=hi4.ge;have k3:=hc3.1;have k4:=hc4.1;have hob1:=ho4.sl.form rfl;obtain⟨p4,c4,rfl⟩:=hob1;have hB4:=hB3.chg0 hc4;have hT4:=hT3.chg0 hc4;refine aP rfl (bG I33 rfl rfl (hB4) rfl rfl ((by decide:1<4)) rfl (rfl)) ?_;rintro w5 ⟨hB5,hc5,hs5⟩;refine a8 (a6 (ae (zSR (zm rfl (a8 (a6 ?_))))));replace hB5:Blk w5 vb [.bool true,.slice p4 m.length c4,vk,vi]:=hB5;have hb4:∀x∈ax (.slice p4 m.length c4),x≠vb:=fun x hx=>by have:=hi4' x hx;omega
  have hbt:tb∉ax (.slice p4 m.length c4):=fun hx=>by have:=hi4' tb hx;have:=hT2.lt;omega
  have ho5:=ho4.mod hc5 (fun x hx hh=>by simp at hh;exact hb4 x hx hh);have hT5:=hT4.chg hc5 (by simp;exact htv);have hw0:c.w0.heap.size<=w.heap.size:=h.pg.1.2.1.1;have hnv:=(hnew2 vb (by simp[NV.F])).1;have hok:fO (fB m p):=putP_ok hps hp;have hz5:cP (fB m p)<=694:=by have:=Ey (p:=p) hps.2;have:=hp.1.2;have:=hp.2;omega
  have hnk:∀x∈ax vk,x≠vb:=fun x hx=>hn2.ap x (cj _ (cG _ hx));have hni:∀x∈ax vi,x≠vb:=fun x hx=>hn2.ap x (cj _ (cj _ hx));have hfin:∀{w':World} {p':Option Addr} {c':Nat},Blk w' vb [.bool true,.slice p' (fB m p).length c',vk,vi]->Own w' (.slice p' (fB m p).length c') (fB m p)->(∀x∈ax (.slice p' (fB m p).length c'),w2.heap.size<=x/\x≠vb)->Chg [vb] w2 w' ->
    ∃e' new out,c.to xb w w' e e'/\Stp c.n e e' new out/\new.length<=2*0/\out.length<=0+1/\((∃q,Value.tuple #[.pointer (some ⟨vb,0,none⟩),.int .i64 0]=.tuple #[q,.int .i64 70]/\mZ c.n e'.s.P)∨∃v n' pg',Value.tuple #[.pointer (some ⟨vb,0,none⟩),.int .i64 0]=.tuple #[v.ptr,.int .i64 0]/\c.has xb e' w.heap.size w' v n'/\CT e'.s.V 0 n' pg' (fB m p)/\(pg'++out).Perm ([id]++new)/\wm n'/\jB n'):=fun {w' p' c'} hB ho hnw hc=>by
   have hed:c.ed xb w' e2:=h2.chg hc (fun x hx hh=>by simp at hh;subst hh;exact hvb hx) (fun x hx=>by simp at hx;subst hx;omega);have hto:c.to xb w w' e e2:=⟨hed,fun x hx=>(hto2.grow x hx).imp (fun q=>q) (fun q=>by omega),(hc1.mono (by simp)).tr (hto2.chg.trans hc (fun _ hx _=>hx) (fun x hx hl=>by simp at hx;subst hx;omega))⟩
   refine⟨e2,[],[id],hto,hst2,eO _,aM _,.inr ⟨⟨vb,.slice p' (fB m p).length c',vk,vi⟩,.leaf (fB m p),[],rfl,⟨⟨hB,ho.sl,hn2.k.mod hc (fun x hx hh=>by simp at hh;exact hnk x hx hh),hn2.i.mod hc (fun x hx hh=>by simp at hh;exact hni x hx hh),fun x hx=>?_⟩,fun x hx=>?_⟩,⟨rfl,rfl,hok⟩,by simp,⟨hok,hz5⟩,trivial⟩⟩
   ·rcases List.mem_append.1 hx with hx|hx
    ·exact(hnw x hx).2
    ·rcases List.mem_append.1 hx with hx|hx
     ·exact hnk x hx
     ·exact hni x hx
   ·simp only[NV.F,bV,fQ] at hx;rcases hx with rfl|hx|hx|hx
    ·exact⟨by omega,(hnew2 _ (by simp[NV.F])).2⟩
    ·have:=(hnw x hx).1
     exact⟨by omega,fun hh=>by have:=hlt2 x (cj _ hh);omega⟩
    ·have:=hnew2 x (by simp[NV.F,hx]);exact⟨by omega,this.2⟩
    ·have:=hnew2 x (by simp[NV.F,hx]);exact⟨by omega,this.2⟩
  have hc24:Chg [vb] w2 w4:=(hc3.tr hc4).mono (by simp);have hTa:At w5 tb 0 [str p.1,str p.2]:=hT5.at (by rfl)
  cases hhas:ft m p.1 with
  | true =>
   have hpl:=iu hhas
   skip
   refine bh (rfl) ?_;refine aG bz (.pure 0 (.pure 1 (.pure 2 (.read 3 (.pure 4 (.read 5 (.pure 6 (.eff 7 [] .nil)))))))) (by kernel_rfl) ?_;refine ym rfl (yn rfl (yp rfl (fun _=>(aa bQ rfl I33 rfl rfl)) ?_));refine aH rfl rfl rfl dc rfl rfl (hB5.c rfl) (ym rfl (dm rfl rfl rfl (fun w'=>At w' tb 0 [str p.1,str p.2]) (hTa) (fun w1 h1=>cM j1 rfl I49 rfl h1 rfl) ?_));refine yex rfl (aU (dU m p.1) dc I49 rfl (ho5.sl) rfl rfl (by first|rfl|omega) (hpl)) ?_;rintro _ ⟨bi,oi,rfl,hei,hbi⟩;refine dr rfl (bR (a:=p) I49 rfl (ho5) rfl (hei) rfl rfl (hpl)) ?_;rintro w6 ⟨ho6,hc6,hs6⟩;refine⟨trivial,?_⟩;refine zPR (zma rfl (za rfl (a8 (a6 (zrt ?_)))));have hc6:Chg (ax (.slice p4 m.length c4)) w5 w6:=hc6;have hB6:=hB5.chg hc6 (fun hh=>hb4 vb hh rfl);have hle:m.length=(fB m p).length:=by rw[vv hps.2 hhas,gK]
   rw[<-vv hps.2 hhas] at ho6;have hnw:∀x∈ax (.slice p4 m.length c4),w2.heap.size<=x/\x≠vb:=fun x hx=>⟨by have:=hi4' x hx;omega,hb4 x hx⟩
   rw[hle] at hB6 ho6 hnw;exact hfin hB6 ho6 hnw ((hc24.tr hc5).trans hc6 (fun _ hx _=>hx) (fun x hx hl=>by have:=hi4' x hx;omega))
  | false =>
   have hpl:=u7 m p.1
   skip
   refine aK (rfl) ?_;refine aG bz (.pure 0 (.pure 1 (.pure 2 (.pure 3 (.read 4 (.pure 5 (.read 6 (.eff 7 [4] (.eff 8 [] (.pure 9 (.pure 10 (.eff 11 [] .nil)))))))))))) (by kernel_rfl) ?_;refine ym rfl (ym rfl (yn rfl (yp rfl (fun _=>(aa bQ rfl I33 rfl rfl)) ?_)));refine aH rfl rfl rfl dc rfl rfl (hB5.c rfl) (ym rfl (dm rfl rfl rfl (fun w'=>At w' tb 0 [str p.1,str p.2]) (hTa) (fun w1 h1=>cM j1 rfl I49 rfl h1 rfl) ?_));refine eC rfl (nE p dc I49 rfl rfl rfl rfl rfl (by decide)) ?_;rintro _ w6 ⟨b6,rfl,hB6,hn6,hc6,hl6⟩;have hc6:Chg [] w5 w6:=(drw w5).tr hc6;refine⟨⟨(hB5.chg0 hc6).c rfl,trivial⟩,?_⟩;have hlt5:=ho5.sl.lt;refine ycl rfl C155 (D4 w6 p4 c4 b6 m p (dU m p.1) (ho5.mod0 hc6) hB6 (fun hh=>by have:=hlt5 b6 hh;have:=hn6;simp at this;omega) hpl (by omega)) ?_;rintro v7 w7 ⟨ho7,hi7,hc7⟩;refine⟨trivial,?_⟩;refine yn rfl (yp rfl (fun _=>(aa bQ rfl I33 rfl rfl)) ?_);have k5:=hc5.1;have k6:=hc6.1;rw[<-nL hps.2 hhas] at ho7;have hi7':∀x∈ax v7,w3.heap.size<=x/\x≠vb:=fun x hx=>by
    rcases hi7 x hx with g|g
    ·have:=hi4' x g;exact⟨by omega,hb4 x g⟩
    ·exact⟨by omega,by omega⟩
   have hob2:=ho7.sl.form rfl;obtain⟨p7,c7,rfl⟩:=hob2;have hB7:=(hB5.chg0 hc6).chg hc7 (fun hh=>hb4 vb hh rfl);refine dr rfl (bG I33 rfl rfl (hB7) rfl rfl ((by decide:1<4)) rfl (rfl)) ?_;rintro w8 ⟨hB8,hc8,hs8⟩;refine⟨trivial,?_⟩;refine zPR (zma rfl (za rfl (a8 (a6 (zrt ?_)))));replace hB8:Blk w8 vb [.bool true,.slice p7 (fB m p).length c7,vk,vi]:=hB8;have ho8:=ho7.mod hc8 (fun x hx hh=>by simp at hh;exact(hi7' x hx).2 hh);exact hfin hB8 ho8 (fun x hx=>by have:=hi7' x hx;exact⟨by omega,this.2⟩) ((((hc24.tr hc5).tr (hc6.mono (by simp))).trans hc7 (fun _ hx _=>hx) (fun x hx hl=>by have:=hi4' x hx;omega)).tr hc8)
 | succ d ih =>
  intro w e id pg m deep h ht hw hd hml hgl hk;have hob3:=m9 ht;obtain⟨n,pg0,rfl,hct,hV,hz,hf⟩:=hob3;have hg:=CT.good hct hz hf;cases n with
  | leaf ps => exact hct.elim
  | br ks ids =>
  have hgb:brOk ks ids:=hg;have hfew:=hgb.few;refine enter [8,9] Tryz.func97 rfl rfl (al rfl) (zSR (aY rfl (cT (l:=[str p.1,str p.2]) rfl rfl) ?_));rintro _ w1 ⟨tb,rfl,hnt,hT1,hc1,hl1⟩;refine zaa rfl (zNR (zmm rfl (zm rfl ?_)));have h1:=h.chg0 hc1;have k1:=hc1.1;refine ah rfl HW (nX c xb w1 e id (.br ks ids) deep h1 (by omega) (hw id (by simp)) hV hg (by omega)) ?_;rintro _ w2 ⟨v,e2,rfl,hto2,hst2,hs2,hh2⟩;refine zm rfl (zx rfl (zx rfl (zaa rfl (a8 (a6 (ae (zSR (zmv rfl (bS rfl rfl) (a8 (a6 (aI rfl (fun h=>h rfl) ?_)))))))))));refine aw (a6 (ae (zSR (zm rfl (zn rfl rfl (a7 rfl (aa bQ rfl I4 rfl rfl) ?_))))));have hlt1:=h1.lt;have htF:tb∉c.F++EF xb e:=fun hh=>by have:=h.lt tb hh;omega
  have hT2:=hT1.chg hto2.chg htF;have h2:=hto2.at_;have hlt2:=h2.lt;have k2:=hto2.chg.1;have hn2:=hh2.at_;have hnew2:=hh2.new;obtain⟨vb,vp,vk,vi⟩:=v;have hB2:Blk w2 vb [.bool false,vp,vk,vi]:=hn2.blk;have hi2:Sl w2 vi ids:=hn2.i;refine a7 rfl (aC uU4 rfl rfl (hB2.c rfl)) (a8 (a6 (aK (rfl) (zKR (zmv rfl (aa j1 rfl I9 rfl rfl) (a7 rfl (aC uU9 rfl rfl (hT2.c rfl)) (ah rfl C60 (vD w2 ⟨vb,vp,vk,vi⟩ ks ids p.1 hn2 hgb.2.2.1.2 (by omega)) ?_)))))));rintro _ w3 ⟨rfl,hw3⟩;refine za rfl (a8 (a6 (ae ?_)));subst hw3;have hob4:=hct.hole p.1;obtain⟨K1,K2,A,t,B,rfl,hpl,rfl,rfl,rfl,hole,hit,hne,hbA,hbB,hq1,hq2⟩:=hob4;rw[<-hpl,<-hole.la];obtain⟨i0,pg1,m1⟩:=t;have hAl:A.length<(bu A++i0::bu B).length:=by rw[aF,bT,bY];omega
  have hget:(bu A++i0::bu B)[A.length]?=some i0:=by rw[<-bT A];simp
  have hTa:At w2 tb 0 [str p.1,str p.2]:=hT2.at (by rfl)
  have hml2:e2.made=e.made:=by have:=hst2.made;rw[cy] at this;exact this
  have hgl2:e2.gone.length=e.gone.length+1:=by rw[hst2.gone,aF];rfl
  have hr:∀x,e2.s.P.now.written x=e.s.P.now.written x:=fun x=>by rw[hs2]
  have hw1:∀x∈pg1,e.s.P.now.written x=true:=fun x hx=>hw x (by simp[hx]);refine aG bz (.pure 0 (.pure 1 (.pure 2 (.pure 3 (.read 4 (.pure 5 (.pure 6 (.read 7 (.read 8 (.pure 9 (.pure 10 (.eff 11 [] (.pure 12 (.pure 13 (.pure 14 (.pure 15 (.pure 16 .nil))))))))))))))))) (by kernel_rfl) ?_;refine ym rfl (ym rfl (yn rfl (yp rfl (fun _=>(aa bQ rfl I41 rfl rfl)) ?_)));refine aH rfl rfl rfl aX rfl rfl (hB2.c rfl) (ym rfl (yex rfl (aU (A.length) aX I25 rfl (hi2) rfl rfl (by first|rfl|omega) (hAl)) ?_));rintro _ ⟨bi,oi,rfl,hei,hbi⟩;refine aH rfl rfl rfl bw rfl rfl (((hi2.at hei hget).c0 rfl)) (dm rfl rfl rfl (fun w'=>At w' tb 0 [str p.1,str p.2]) (hTa) (fun w1 h1=>cM j1 rfl I49 rfl h1 rfl) ?_);refine ym rfl (yp rfl (fun _=>(aB rfl rfl (by omega))) ?_);refine ycl rfl C97 (ih _ e2 i0 pg1 m1 (deep+1) (h2.chg0 (drw w2)) (by rw[hs2];exact hit) (fun x hx=>by rw[hr];exact hw1 x hx) (by omega) (by rw[hml2];omega) (by omega) (by rw[hs2];omega)) ?_;rintro v3 w3 ⟨e3,new,out,hto3,hst3,hnl,hol,hr3⟩;refine⟨trivial,?_⟩;replace hto3:c.to xb w2 w3 e2 e3:=hto3.pre (drw w2);have hto03:c.to xb w w3 e e3:=((hto2.trans hto3).pre hc1)
  have hst03:Stp c.n e e3 ([]++new) ([id]++out):=hst2.trans hst3;rcases hr3 with⟨q,rfl,hno3⟩|⟨u,n',pg',rfl,hu3,hct3,hperm,hcok,hcf⟩
  ·refine ym rfl (yx rfl (yx rfl (ya rfl (ya rfl (aJ (a6 (ae (zSR (zmv rfl (bS rfl rfl) (a8 (a6 (bM rfl (by decide) ?_))))))))))));refine zSR (zma rfl (za rfl (a8 (a6 (zrt ?_)))));exact⟨e3,new,[id]++out,hto03,hst03,by omega,by rw[aF,gq];omega,.inl ⟨_,rfl,hno3⟩⟩
  ·refine ym rfl (yx rfl (yx rfl (ya rfl (ya rfl (aJ (a6 (ae (zSR (zmv rfl (bS rfl rfl) (a8 (a6 (aI rfl (fun h=>h rfl) ?_))))))))))));refine zKR (zmm rfl (zmm rfl (zm rfl ?_)));have h3:=hto3.at_;have hflo:∀x∈c.F,x<w.heap.size:=h.pg.lt;have hflo1:∀x∈c.F,x<w1.heap.size:=h1.pg.lt;have hv3:c.has xb e3 w.heap.size w3 ⟨vb,vp,vk,vi⟩ (.br (K1++K2) (bu A++i0::bu B)):=(hh2.step hto3 hflo1).lo k1;have hdw:w2.heap.size<=(({ w2 with drawn:=w2.drawn+1 }:World)).heap.size:=aM _
   have hu3':c.has xb e3 w.heap.size w3 u n':=hu3.lo (bq k1 (bq k2 hdw));have hold:∀x,e.s.P.now.written x=true->e3.s.V x=e.s.V x:=fun x hx=>by rw[hst3.ext.old x (by rw[hr];exact hx),hs2]
   have hwr:∀x,e.s.P.now.written x=true->e3.s.P.now.written x=true:=fun x hx=>hst3.ext.wr (by rw[hr];exact hx);have hwp:∀x∈pg',e3.s.P.now.written x=true:=fun x hx=>by
    rcases List.mem_append.1 (hperm.subset (cG _ hx)) with g|g
    ·exact hwr x (hw1 x g)
    ·exact(hst3.ext.mem g).2
   have hole3:Hole e3.s.V d K1 K2 A B (fB m1 p):=Hole.put (hole.mono (fun y hy=>hold y (hw y (by rcases List.mem_append.1 hy with g|g <;> simp[g])))) hq1 hq2
   have hmk:e3.made.length<=900/\e3.s.k+2<=40000:=by
    have a1:=hst3.made;have a2:=hst3.k;have a3:e2.s.k=e.s.k:=by rw[hs2]
    rw[hml2] at a1;have a4:=congrArg List.length a1;rw[aF] at a4;omega
   have hkk:=hmk.2;have hall:∀x∈pgT A++(pg'++pgT B),e3.s.P.now.written x=true:=fun x hx=>by
    rcases List.mem_append.1 hx with g|g
    ·exact hwr x (hw x (by simp[g]))
    ·rcases List.mem_append.1 g with g|g
     ·exact hwp x g
     ·exact hwr x (hw x (by simp[g]))
   refine ah rfl C156 (mN c xb w3 e3 ⟨vb,vp,vk,vi⟩ u w.heap.size d K1 K2 A B i0 n' pg' (fB m1 p) h3 hv3 hu3' hflo hole3 hct3 (putP_ne _ _) hcf hcok hall hmk.1 hkk (bq hfew.2 (by decide))) ?_;rintro v4 w4 ⟨e4,new2,h4,hgr4,hc4,hst4,hr4⟩;refine zaa rfl (a8 (a6 (zrf ?_)));have hst04:=hst03.trans hst4;rw[dA,cy] at hst04;have hvw:w.heap.size<=vb:=(hv3.new vb (by simp[NV.F])).1;have hto04:c.to xb w w4 e e4:=⟨h4,fun x hx=>by
    rcases hgr4 x hx with g|g
    ·exact hto03.grow x g
    ·exact .inr (by have:=hto03.chg.1;omega),hto03.chg.trans hc4 (fun _ hx _=>hx) (fun x hx hl=>by
     rcases List.mem_cons.1 hx with g|g
     ·have g:x=vb:=g;omega
     ·rcases List.mem_append.1 g with g|g
      ·exact cG _ g
      ·rcases hto03.grow x g with g|g
       ·exact cj _ g
       ·omega)⟩
   rcases hr4 with⟨rfl,hno4,hn4⟩|⟨rfl,hn4,n4,pg4,kv,iv,hct4,hperm4,hz4,hf4,hhas4⟩
   ·exact⟨e4,new++new2,[id]++out,hto04,hst04,by rw[aF];omega,by rw[aF,gq];omega,.inl ⟨_,rfl,hno4⟩⟩
   ·refine⟨e4,new++new2,[id]++out,hto04,hst04,by rw[aF];omega,by rw[aF,gq];omega,.inr ⟨⟨vb,vp,kv,iv⟩,n4,pg4,rfl,hhas4,?_,zg hperm hperm4,hct4.ok (.inl (bq hz4 (by have:cnZ (.br (K1++K2) (bu A++i0::bu B))<=480:=hz;omega))),hf4 (.inl hgb.1)⟩⟩;rw[GD hbA hbB];exact hct4
theorem CT.some{V:UInt32->Bs}{d:Nat}{ks:List Bs}{ids pg:List UInt32}{m:List Pr}(h:CT V (d+1) (.br ks ids) pg m):m≠[]:=by
 obtain⟨ts,rfl,_,rfl,rfl,h5,h6⟩:=h;cases ts with
 | nil => exact absurd h5.len (by simp [msT])
 | cons t ts => rw [fN]; simp [(h6 t List.mem_cons_self).2]
theorem DC{w:World}{nb:Nat}{p p':Option Addr}{c c':Nat}{ks:List Bs}{ids:List UInt32}(hN:Blk w nb [.bool false,.slice none 0 0,.slice p ks.length c,.slice p' ids.length c'])(hk:Sl w (.slice p ks.length c) ks)(hi:Sl w (.slice p' ids.length c') ids)(h1:∀x∈ax (.slice p ks.length c),x<nb)(h2:∀x∈ax (.slice p' ids.length c'),x<nb):NAt w ⟨nb,.slice none 0 0,.slice p ks.length c,.slice p' ids.length c'⟩ (.br ks ids) :=
 ⟨hN,Sl.nil _ _,hk,hi,fun x hx=>by
  have hx:x∈ax (.slice p ks.length c)++ax (.slice p' ids.length c'):=hx;rcases List.mem_append.1 hx with hx|hx
  ·exact Nat.ne_of_lt (h1 x hx)
  ·exact Nat.ne_of_lt (h2 x hx)⟩
def JoinR(c:TC)(xb lo:Nat)(w:World)(e:TE)(v:NV)(d:Nat)(pg:List UInt32)(m:List Pr)(r:Value)(w':World):Prop :=
 ∃e' new out,c.ed xb w' e'/\(∀x∈EF xb e',x∈EF xb e∨w.heap.size<=x)/\Chg (v.b::(c.F++EF xb e)) w w'/\Stp c.n e e' new out/\new.length<=2/\out.length<=1 /\
  ((r=.int .i64 70/\mZ c.n e'.s.P)∨(r=.int .i64 0/\∃n' pg' kv iv,CT e'.s.V d n' pg' m/\(pg'++out).Perm (pg++new)/\cnZ n'<=546/\c.has xb e' lo w' ⟨v.b,v.p,kv,iv⟩ n'))
theorem Hc(c:TC)(xb:Nat)(w:World)(e:TE)(v u:NV)(lo d:Nat)(K1 K2:List Bs)(A B:List Kd)(i0:UInt32)(ids0:List UInt32)(pg:List UInt32)(m:List Pr)
  (h:c.ed xb w e) (hv:c.has xb e lo w v (.br (K1++K2) (bu A++i0::bu B))) (hu:c.has xb e lo w u (.br [] ids0)) (hf:∀x∈c.F,x<lo)
  (hole:Hole e.s.V (d+1) K1 K2 A B m) (hct:CT e.s.V (d+1) (.br [] ids0) pg m) (_:m≠[]) (hb:brOk (K1++K2) (bu A++i0::bu B))
  (hw:∀x∈pgT A++(pg++pgT B),e.s.P.now.written x=true) (hml:e.made.length<=900) (hgl:e.gone.length<=900) (hk:e.s.k+2<=40000) :
  Ret Tryz.prog 170 #[.pointer (some ⟨xb,0,none⟩),v.ptr,.int .i64 A.length,u.ptr] w (JoinR c xb lo w e v (d+2) (pgT A++(pg++pgT B)) (prT A++(m++prT B))):=by
 have hfew:=hb.few;obtain⟨z,L1,key,L2,C,D,t,hKL,hCl,hkey,hit,htm,htp,hz,hAC,hids,hjoin⟩:=hole.nbr hb.1;obtain⟨iL,iR,hidl,ht1⟩:=hids i0;obtain⟨ny,py,htp2,hcty,hVy,hzy,hfy⟩:=m9 hit;cases ny with
 | leaf ps => exact hcty.elim
 | br ky iy =>
 obtain⟨mm,pp,hctj,holej,hpr,hperm⟩:=hjoin [] ids0 pg ky iy py hct hcty htp2;have hAl:A.length<=68:=by have:=hfew.2;simp only[aF,bY,bT] at this;omega
 have hmax:max ((A.length:Int)-1) 0=(C.length:Int):=by
  cases z with
  | true => have q1 := hz.2 rfl; have q2 : A.length = C.length + 0 := hAC; omega
  | false => have q2 : A.length = C.length + 1 := hAC; omega
 obtain⟨b,vp,vk,vi⟩:=v;have hn:=hv.at_;have hB:Blk w b [.bool false,vp,vk,vi]:=hn.blk;have hi:Sl w vi (bu A++i0::bu B):=hn.i;have hkS:Sl w vk (K1++K2):=hn.k;rw[hidl] at hi;rw[hKL] at hkS;have hIl:(bu A++i0::bu B).length=(bu C++iL::iR::bu D).length:=by rw[hidl]
 have hIl2:(bu C++iL::iR::bu D).length=C.length+2+D.length:=by rw[aF,bY,bY,bT,bT];omega
 have hjl:C.length+z.toNat<(bu C++iL::iR::bu D).length:=by have:=Bool.toNat_le z;omega
 have hjg:(bu C++iL::iR::bu D)[C.length+z.toNat]?=some t.1:=by
  rw[<-bT C];cases z with
  | true => have q : iR = t.1 := ht1; rw [ga (by omega), q]; simp
  | false => have q : iL = t.1 := ht1; rw [q]; simp
 obtain⟨pi,ci,rfl⟩:∃p c,vi=.slice p (bu C++iL::iR::bu D).length c:=hi.form rfl;refine enter [8] Tryz.func170 rfl rfl (al rfl) (zSR (za rfl (zNR (zmv rfl (bg rfl rfl (by omega)) (a7 rfl (sZ rfl rfl) (za rfl ?_))))));refine a8 (a6 ?_);rw[hmax];refine zSR (zma rfl (a8 (a6 (lq [10] [10,20,21] (fun vs w'=>vs=[.int .i64 (C.length+z.toNat:Nat)]/\w=w') (by kernel_rfl) ?_ ?_))))
 ·refine zSR (zmv rfl (dB rfl rfl) ?_);refine a8 (a6 (az rfl (fun hA=>?_) (fun hA=>?_)))
  ·refine ag (za rfl (a8 (a6 ?_)));refine⟨?_,rfl⟩;have hz1:z=true:=hz.1 (by omega);have q2:A.length=C.length+0:=by rw[hz1] at hAC;exact hAC
   have q3:C.length=0:=by omega
   rw[hz1,q3];rfl
  ·refine aw (a6 ?_);refine⟨?_,rfl⟩;have hz0:z=false:=by cases z with|true=>exact absurd (by have:=hz.2 rfl;omega) hA|false=>rfl
   rw[hz0];rfl
 ·rintro vs J w1 ⟨rfl,rfl⟩;refine ae (zSR (zmm rfl (zn rfl rfl (a7 rfl (aa bQ rfl I41 rfl rfl) ?_))));refine a7 rfl (aC aX rfl rfl (hB.c rfl)) (a7 rfl (aA rfl aX) (a7 rfl (fH rfl rfl) (a8 (a6 (aI rfl (by omega) ?_)))));refine zKR (zmm rfl (zn rfl rfl (a7 rfl (aa bQ rfl I41 rfl rfl) ?_)));have hwt:∀x∈t.2.1,e.s.P.now.written x=true:=fun x hx=>hw x (by have:=htp x hx;rcases List.mem_append.1 this with g|g <;> simp[g])
  refine a7 rfl (aC aX rfl rfl (hB.c rfl)) (zm rfl (bF rfl (aU (C.length+z.toNat) aX I25 rfl (hi) rfl rfl (by first|rfl|omega) (hjl)) ?_));rintro _ ⟨bi,oi,rfl,hei,hbi⟩;refine a7 rfl (aC bw rfl rfl (((hi.at hei hjg).c0 rfl))) (ah rfl HW (nX c xb w e t.1 (.br ky iy) 0 h (by omega) (hwt _ (by rw[htp2];simp)) hVy (CT.good hcty hzy hfy) (by omega)) ?_);rintro _ w2 ⟨y,e2,rfl,hto2,hst2,hs2,hh2⟩;refine zm rfl (zx rfl (zx rfl (zaa rfl (a8 (a6 (ae (zSR (zm rfl ?_))))))));have hob1:∃x,x=(bif z then u else y):=⟨_,rfl⟩
  obtain⟨ua,hua⟩:=hob1;have hob2:∃x,x=(bif z then y else u):=⟨_,rfl⟩
  obtain⟨ub,hub⟩:=hob2;refine a7 rfl (bJ (bS rfl rfl) (congrArg Value.bool (decide_eq_false (fun h=>h rfl)))) ?_;refine zm rfl (aj rfl (zm rfl (aj rfl (zn rfl rfl (aj rfl (a7 rfl (aa bQ rfl I4 rfl rfl) (aj rfl ?_)))))));have hhy:=hh2.at_;have hBy:Blk w2 y.b [.bool false,y.p,y.k,y.i]:=hhy.blk;refine a7 rfl (aC uU4 rfl rfl (hBy.c rfl)) (a7 rfl (aN rfl) (a8 (a6 (aK (rfl) (zKR (zmm rfl (zaa rfl (a8 (a6 (lq [13,14] [13,14,51,52,53,54] (fun vs w'=>vs=[ua.ptr,ub.ptr]/\w2=w') (by kernel_rfl) ?_ ?_))))))))))
  ·refine zSR (zmv rfl (dB rfl rfl) ?_);refine a8 (a6 (az rfl (fun hA=>?_) (fun hA=>?_)))
   ·refine ag (zmm rfl (zaa rfl (a8 (a6 ?_))));have hz1:z=true:=hz.1 (by omega);subst hz1;have hua:ua=u:=hua;have hub:ub=y:=hub;rw[hua,hub];exact⟨rfl,rfl⟩
   ·refine aw (a6 ?_);have hz0:z=false:=by cases z with|true=>exact absurd (by have:=hz.2 rfl;omega) hA|false=>rfl
    subst hz0;have hua:ua=y:=hua;have hub:ub=u:=hub;rw[hua,hub];exact⟨rfl,rfl⟩
  ·rintro vs J w3 ⟨rfl,rfl⟩;have hlo:lo<=w.heap.size:=by
    have h1:=(hv.new b (by simp[NV.F])).1;have h2:=hB.lt;omega
   have hv2:=hv.step hto2 hf;have hu2:=hu.step hto2 hf;have hy2:=hh2.lo hlo;have hi2':=hv2.at_.i;have hob3:∃x,x=(bif z then ([]:List Bs) else ky):=⟨_,rfl⟩
   obtain⟨ka,hka⟩:=hob3;have hob4:∃x,x=(bif z then ky else ([]:List Bs)):=⟨_,rfl⟩
   obtain⟨kb,hkb⟩:=hob4;have hob5:∃x,x=(bif z then ids0 else iy):=⟨_,rfl⟩
   obtain⟨ia,hia⟩:=hob5;have hob6:∃x,x=(bif z then iy else ids0):=⟨_,rfl⟩
   obtain⟨ib,hib⟩:=hob6;rw[<-hka,<-hkb,<-hia,<-hib] at hctj;have hA2:c.has xb e2 lo w2 ua (.br ka ia):=by subst hua;subst hka;subst hia;cases z;exact hy2;exact hu2
   have hB2:c.has xb e2 lo w2 ub (.br kb ib):=by subst hub;subst hkb;subst hib;cases z;exact hu2;exact hy2
   have hsz:cnZ (.br (ka++key::kb) (ia++ib))<=546:=by
    have hob7:=hct.lone;obtain⟨d',id,_,q,_⟩:=hob7;have q1:3+4*iy.length+db ky<=480:=hzy;have q2:=hkey.2;show 3+4*(ia++ib).length+db (ka++key::kb)<=546;rw[aF,ir,jz];subst hia;subst hib;subst hka;subst hkb;subst q;cases z <;> simp[db] at q1 ⊢ <;> omega
   have hBv:Blk w2 b [.bool false,vp,vk,.slice pi (bu C++iL::iR::bu D).length ci]:=hv2.at_.blk;have hk2:=hv2.at_.k;have hk2:Sl w2 vk (K1++K2):=hk2;rw[hKL] at hk2;obtain⟨ab,ap,ak,ai⟩:=ua;obtain⟨bb,bp,bk,bi⟩:=ub;have hBa:Blk w2 ab [.bool false,ap,ak,ai]:=hA2.at_.blk;have hBb:Blk w2 bb [.bool false,bp,bk,bi]:=hB2.at_.blk;have hak:Sl w2 ak ka:=hA2.at_.k;have hbk:Sl w2 bk kb:=hB2.at_.k;have hai:Sl w2 ai ia:=hA2.at_.i;have hbi2:Sl w2 bi ib:=hB2.at_.i;have hob8:∃p c,ak=.slice p ka.length c:=hak.form rfl;obtain⟨pak,cak,rfl⟩:=hob8;have hob9:∃p c,bk=.slice p kb.length c:=hbk.form rfl;obtain⟨pbk,cbk,rfl⟩:=hob9;have hob10:∃p c,ai=.slice p ia.length c:=hai.form rfl;obtain⟨pai,cai,rfl⟩:=hob10;have hob11:∃p c,bi=.slice p ib.length c:=hbi2.form rfl;obtain⟨pbi,cbi,rfl⟩:=hob11;have hlk:(ka++key::kb).length<=300/\(ia++ib).length<=300:=by
    have q1:=sE (ka++key::kb);have q:3+4*(ia++ib).length+db (ka++key::kb)<=546:=hsz;omega
   have hfS:[ka,[key],kb].flatten=ka++key::kb:=by simp
   have hfU:[ia,ib].flatten=ia++ib:=by simp
   refine lq [15] [15,55,56,57,58,59,60,61,62,63,64,65,66,67,68,69,70,71,72,73,74,75,76,77,78,79,80,81,82,83,84] (fun vs w'=>∃q:NV,vs=[q.ptr]/\NAt w' q (.br (ka++key::kb) (ia++ib))/\(∀x∈q.F,w2.heap.size<=x)/\Chg [] w2 w') (by kernel_rfl) ?_ ?_
   ·refine aG bz (.pure 0 (.pure 1 (.pure 2 (.read 3 (.pure 4 (.pure 5 (.pure 6 (.read 7 (.pure 8 (.pure 9 (.pure 10 (.pure 11 (.pure 12 (.pure 13 (.pure 14 (.read 15 (.pure 18 (.pure 19 (.pure 20 (.read 21 (.pure 22 (.pure 23 (.pure 24 (.read 25 (.alt (.eff 16 [21,25] (.alt (.eff 17 [21,25] (.eff 26 [3,7,15] (.eff 27 [] (.pure 28 (.eff 29 [] (.pure 30 .nil)))))) (.eff 26 [3,7,15] (.eff 17 [21,25] (.eff 27 [] (.pure 28 (.eff 29 [] (.pure 30 .nil)))))))) (.eff 26 [3,7,15] (.eff 16 [21,25] (.eff 17 [21,25] (.eff 27 [] (.pure 28 (.eff 29 [] (.pure 30 .nil)))))))))))))))))))))))))))))))) (by kernel_rfl) ?_;refine ym rfl (yn rfl (yp rfl (fun _=>(aa bQ rfl I70 rfl rfl)) ?_));refine aH rfl rfl rfl cL rfl rfl (hBa.c rfl) (ym rfl (yn rfl (yp rfl (fun _=>(aa bQ rfl I70 rfl rfl)) ?_)));refine aH rfl rfl rfl cL rfl rfl (hBv.c rfl) (ym rfl (ym rfl (yp rfl (fun _=>(aB rfl rfl (by omega))) ?_)));refine yex rfl (uG C.length (C.length+1) cL I9 rfl hk2 rfl rfl rfl rfl rfl (by rw[aF,bY];omega)) ?_;rintro vm ⟨hvm,hsm,hbm⟩;refine ym rfl (yn rfl (yp rfl (fun _=>(aa bQ rfl I70 rfl rfl)) ?_));have hmid:((L1++key::L2).drop C.length).take (C.length+1-C.length)=[key]:=by rw[hCl];simp
    rw[hmid] at hsm;obtain⟨pm,cm,rfl⟩:=hvm;refine aH rfl rfl rfl cL rfl rfl (hBb.c rfl) (ym rfl (yn rfl (yp rfl (fun _=>(aa bQ rfl I41 rfl rfl)) ?_)));refine aH rfl rfl rfl aX rfl rfl (hBa.c rfl) (ym rfl (yn rfl (yp rfl (fun _=>(aa bQ rfl I41 rfl rfl)) ?_)));refine aH rfl rfl rfl aX rfl rfl (hBb.c rfl) ?_;have hcum:=drw w2;have hlsS:∀w':World,Chg [] w2 w'->∀(i:Nat) (s:iQ) (l:List Bs),[(⟨.slice pak ka.length cak,_,_,_,rfl⟩:iQ),⟨.slice pm (C.length+1-C.length) cm,_,_,_,rfl⟩,⟨.slice pbk kb.length cbk,_,_,_,rfl⟩][i]?=some s->[ka,[key],kb][i]?=some l->Sl w' s.1 l:=fun w' hc i s l h1 h2=>by
     match i,h1,h2 with
     | 0, h1, h2 => cases h1; cases h2; exact hak.mod0 hc
     | 1, h1, h2 => cases h1; cases h2; exact hsm.mod0 hc
     | 2, h1, h2 => cases h1; cases h2; exact hbk.mod0 hc
     | n + 3, h1, _ => simp at h1
    have hlsU:∀w':World,Chg [] w2 w'->∀(i:Nat) (s:iQ) (l:List UInt32),[(⟨.slice pai ia.length cai,_,_,_,rfl⟩:iQ),⟨.slice pbi ib.length cbi,_,_,_,rfl⟩][i]?=some s->[ia,ib][i]?=some l->Sl w' s.1 l:=fun w' hc i s l h1 h2=>by
     match i,h1,h2 with
     | 0, h1, h2 => cases h1; cases h2; exact hai.mod0 hc
     | 1, h1, h2 => cases h1; cases h2; exact hbi2.mod0 hc
     | n + 2, h1, _ => simp at h1
    refine en ?_ ?_
    ·refine eC rfl (yJ [.slice pak ka.length cak,.slice pm (C.length+1-C.length) cm,.slice pbk kb.length cbk] [(⟨.slice pak ka.length cak,_,_,_,rfl⟩:iQ),⟨.slice pm (C.length+1-C.length) cm,_,_,_,rfl⟩,⟨.slice pbk kb.length cbk,_,_,_,rfl⟩] xz I70 rfl rfl rfl rfl rfl rfl (by decide)) ?_;rintro v16 wq16 ⟨hoL,hc16,hiL⟩;have hcum:=hcum.tr hc16;refine⟨⟨(hBa.chg0 hcum).c rfl,(hBb.chg0 hcum).c rfl,trivial⟩,?_⟩;refine en ?_ ?_
     ·refine ycl rfl C212 (qp _ v16 _ [ka,[key],kb] hoL.sl rfl (hlsS _ hcum) (by rw[hfS];omega) (al rfl)) ?_;rintro v17 wq17 ⟨hoK,hiK,hc17⟩;have hiK:∀x∈ax v17,w2.heap.size<=x:=fun x hx=>bq hcum.1 (hiK.ge x hx);rw[hfS] at hoK;have hcum:=hcum.tr hc17;have hoL:=hoL.mod0 hc17;refine⟨⟨(hBa.chg0 hcum).c rfl,(hBb.chg0 hcum).c rfl,trivial⟩,?_⟩;refine eC rfl (yJ [.slice pai ia.length cai,.slice pbi ib.length cbi] [(⟨.slice pai ia.length cai,_,_,_,rfl⟩:iQ),⟨.slice pbi ib.length cbi,_,_,_,rfl⟩] uW I41 rfl rfl rfl rfl rfl rfl (by decide)) ?_;rintro v26 wq26 ⟨hoM,hc26,hiM⟩;have hcum:=hcum.tr hc26;have hoL:=hoL.mod0 hc26;have hoK:=hoK.mod0 hc26;refine⟨⟨(hBa.chg0 hcum).c rfl,(hBv.chg0 hcum).c rfl,(hBb.chg0 hcum).c rfl,trivial⟩,?_⟩;refine ycl rfl C213 (qo _ v26 _ [ia,ib] hoM.sl rfl (hlsU _ hcum) (by rw[hfU];omega) (al rfl)) ?_;rintro v27 wq27 ⟨hoU,hiU,hc27⟩;refine⟨trivial,?_⟩;have hiU:∀x∈ax v27,w2.heap.size<=x:=fun x hx=>bq hcum.1 (hiU.ge x hx);rw[hfU] at hoU;have hcum:=hcum.tr hc27;have hoL:=hoL.mod0 hc27;have hoK:=hoK.mod0 hc27;have hoM:=hoM.mod0 hc27;have hob12:=hoK.sl.form rfl;obtain⟨p17,c17,rfl⟩:=hob12;have hob13:=hoU.sl.form rfl;obtain⟨p27,c27,rfl⟩:=hob13;refine yp rfl (fun _=>bP bQ wD rfl (zs:=[.bool false,.slice none 0 0,.slice none 0 0,.slice none 0 0]) rfl rfl (bI rfl rfl rfl (al rfl) (bI rfl rfl rfl (al rfl) (dP (cs':=[.bool false,.slice none 0 0,.slice p17 (ka++key::kb).length c17,.slice p27 (ia++ib).length c27]) rfl)))) ?_;refine eC rfl (cT (l:=[.bool false,.slice none 0 0,.slice p17 (ka++key::kb).length c17,.slice p27 (ia++ib).length c27]) rfl rfl) ?_;rintro _ wq29 ⟨nb,rfl,hnt,hN,hc29,hl29⟩;refine⟨trivial,?_⟩;refine ya rfl (aJ (a6 ?_));have kcum:=hcum.1;have hltK:=hoK.sl.lt;have hltU:=hoU.sl.lt;have hoL:=hoL.mod0 hc29;have hoK:=hoK.mod0 hc29;have hoM:=hoM.mod0 hc29;have hoU:=hoU.mod0 hc29;exact⟨⟨nb,.slice none 0 0,.slice p17 (ka++key::kb).length c17,.slice p27 (ia++ib).length c27⟩,rfl,DC hN hoK.sl hoU.sl (fun x hx=>hU (hltK x hx) hnt) (fun x hx=>hU (hltU x hx) hnt),fun x hx=>by
       have hx:x∈nb::(ax (.slice p17 (ka++key::kb).length c17)++ax (.slice p27 (ia++ib).length c27)):=hx;rcases List.mem_cons.1 hx with rfl|hx
       ·omega
       ·rcases List.mem_append.1 hx with hx|hx
        ·exact hiK x hx
        ·exact hiU x hx,hcum.tr hc29⟩
     ·refine eC rfl (yJ [.slice pai ia.length cai,.slice pbi ib.length cbi] [(⟨.slice pai ia.length cai,_,_,_,rfl⟩:iQ),⟨.slice pbi ib.length cbi,_,_,_,rfl⟩] uW I41 rfl rfl rfl rfl rfl rfl (by decide)) ?_;rintro v26 wq26 ⟨hoM,hc26,hiM⟩;have hcum:=hcum.tr hc26;have hoL:=hoL.mod0 hc26;refine⟨⟨(hBa.chg0 hcum).c rfl,(hBv.chg0 hcum).c rfl,(hBb.chg0 hcum).c rfl,trivial⟩,?_⟩;refine ycl rfl C212 (qp _ v16 _ [ka,[key],kb] hoL.sl rfl (hlsS _ hcum) (by rw[hfS];omega) (al rfl)) ?_;rintro v17 wq17 ⟨hoK,hiK,hc17⟩;have hiK:∀x∈ax v17,w2.heap.size<=x:=fun x hx=>bq hcum.1 (hiK.ge x hx);rw[hfS] at hoK;have hcum:=hcum.tr hc17;have hoL:=hoL.mod0 hc17;have hoM:=hoM.mod0 hc17;refine⟨⟨(hBa.chg0 hcum).c rfl,(hBb.chg0 hcum).c rfl,trivial⟩,?_⟩;refine ycl rfl C213 (qo _ v26 _ [ia,ib] hoM.sl rfl (hlsU _ hcum) (by rw[hfU];omega) (al rfl)) ?_;rintro v27 wq27 ⟨hoU,hiU,hc27⟩;refine⟨trivial,?_⟩;have hiU:∀x∈ax v27,w2.heap.size<=x:=fun x hx=>bq hcum.1 (hiU.ge x hx);rw[hfU] at hoU;have hcum:=hcum.tr hc27;have hoL:=hoL.mod0 hc27;have hoM:=hoM.mod0 hc27;have hoK:=hoK.mod0 hc27;have hob14:=hoK.sl.form rfl;obtain⟨p17,c17,rfl⟩:=hob14;have hob15:=hoU.sl.form rfl;obtain⟨p27,c27,rfl⟩:=hob15;refine yp rfl (fun _=>bP bQ wD rfl (zs:=[.bool false,.slice none 0 0,.slice none 0 0,.slice none 0 0]) rfl rfl (bI rfl rfl rfl (al rfl) (bI rfl rfl rfl (al rfl) (dP (cs':=[.bool false,.slice none 0 0,.slice p17 (ka++key::kb).length c17,.slice p27 (ia++ib).length c27]) rfl)))) ?_;refine eC rfl (cT (l:=[.bool false,.slice none 0 0,.slice p17 (ka++key::kb).length c17,.slice p27 (ia++ib).length c27]) rfl rfl) ?_;rintro _ wq29 ⟨nb,rfl,hnt,hN,hc29,hl29⟩;refine⟨trivial,?_⟩;refine ya rfl (aJ (a6 ?_));have kcum:=hcum.1;have hltK:=hoK.sl.lt;have hltU:=hoU.sl.lt;have hoL:=hoL.mod0 hc29;have hoM:=hoM.mod0 hc29;have hoK:=hoK.mod0 hc29;have hoU:=hoU.mod0 hc29;exact⟨⟨nb,.slice none 0 0,.slice p17 (ka++key::kb).length c17,.slice p27 (ia++ib).length c27⟩,rfl,DC hN hoK.sl hoU.sl (fun x hx=>hU (hltK x hx) hnt) (fun x hx=>hU (hltU x hx) hnt),fun x hx=>by
       have hx:x∈nb::(ax (.slice p17 (ka++key::kb).length c17)++ax (.slice p27 (ia++ib).length c27)):=hx;rcases List.mem_cons.1 hx with rfl|hx
       ·omega
       ·rcases List.mem_append.1 hx with hx|hx
        ·exact hiK x hx
        ·exact hiU x hx,hcum.tr hc29⟩
    ·refine eC rfl (yJ [.slice pai ia.length cai,.slice pbi ib.length cbi] [(⟨.slice pai ia.length cai,_,_,_,rfl⟩:iQ),⟨.slice pbi ib.length cbi,_,_,_,rfl⟩] uW I41 rfl rfl rfl rfl rfl rfl (by decide)) ?_;rintro v26 wq26 ⟨hoM,hc26,hiM⟩;have hcum:=hcum.tr hc26;refine⟨⟨(hBa.chg0 hcum).c rfl,(hBv.chg0 hcum).c rfl,(hBb.chg0 hcum).c rfl,trivial⟩,?_⟩;refine eC rfl (yJ [.slice pak ka.length cak,.slice pm (C.length+1-C.length) cm,.slice pbk kb.length cbk] [(⟨.slice pak ka.length cak,_,_,_,rfl⟩:iQ),⟨.slice pm (C.length+1-C.length) cm,_,_,_,rfl⟩,⟨.slice pbk kb.length cbk,_,_,_,rfl⟩] xz I70 rfl rfl rfl rfl rfl rfl (by decide)) ?_;rintro v16 wq16 ⟨hoL,hc16,hiL⟩;have hcum:=hcum.tr hc16;have hoM:=hoM.mod0 hc16;refine⟨⟨(hBa.chg0 hcum).c rfl,(hBb.chg0 hcum).c rfl,trivial⟩,?_⟩;refine ycl rfl C212 (qp _ v16 _ [ka,[key],kb] hoL.sl rfl (hlsS _ hcum) (by rw[hfS];omega) (al rfl)) ?_;rintro v17 wq17 ⟨hoK,hiK,hc17⟩;have hiK:∀x∈ax v17,w2.heap.size<=x:=fun x hx=>bq hcum.1 (hiK.ge x hx);rw[hfS] at hoK;have hcum:=hcum.tr hc17;have hoM:=hoM.mod0 hc17;have hoL:=hoL.mod0 hc17;refine⟨⟨(hBa.chg0 hcum).c rfl,(hBb.chg0 hcum).c rfl,trivial⟩,?_⟩;refine ycl rfl C213 (qo _ v26 _ [ia,ib] hoM.sl rfl (hlsU _ hcum) (by rw[hfU];omega) (al rfl)) ?_;rintro v27 wq27 ⟨hoU,hiU,hc27⟩;refine⟨trivial,?_⟩;have hiU:∀x∈ax v27,w2.heap.size<=x:=fun x hx=>bq hcum.1 (hiU.ge x hx);rw[hfU] at hoU;have hcum:=hcum.tr hc27;have hoM:=hoM.mod0 hc27;have hoL:=hoL.mod0 hc27;have hoK:=hoK.mod0 hc27;have hob16:=hoK.sl.form rfl;obtain⟨p17,c17,rfl⟩:=hob16;have hob17:=hoU.sl.form rfl;obtain⟨p27,c27,rfl⟩:=hob17;refine yp rfl (fun _=>bP bQ wD rfl (zs:=[.bool false,.slice none 0 0,.slice none 0 0,.slice none 0 0]) rfl rfl (bI rfl rfl rfl (al rfl) (bI rfl rfl rfl (al rfl) (dP (cs':=[.bool false,.slice none 0 0,.slice p17 (ka++key::kb).length c17,.slice p27 (ia++ib).length c27]) rfl)))) ?_;refine eC rfl (cT (l:=[.bool false,.slice none 0 0,.slice p17 (ka++key::kb).length c17,.slice p27 (ia++ib).length c27]) rfl rfl) ?_;rintro _ wq29 ⟨nb,rfl,hnt,hN,hc29,hl29⟩;refine⟨trivial,?_⟩;refine ya rfl (aJ (a6 ?_));have kcum:=hcum.1;have hltK:=hoK.sl.lt;have hltU:=hoU.sl.lt;have hoM:=hoM.mod0 hc29;have hoL:=hoL.mod0 hc29;have hoK:=hoK.mod0 hc29;have hoU:=hoU.mod0 hc29;exact⟨⟨nb,.slice none 0 0,.slice p17 (ka++key::kb).length c17,.slice p27 (ia++ib).length c27⟩,rfl,DC hN hoK.sl hoU.sl (fun x hx=>hU (hltK x hx) hnt) (fun x hx=>hU (hltU x hx) hnt),fun x hx=>by
      have hx:x∈nb::(ax (.slice p17 (ka++key::kb).length c17)++ax (.slice p27 (ia++ib).length c27)):=hx;rcases List.mem_cons.1 hx with rfl|hx
      ·omega
      ·rcases List.mem_append.1 hx with hx|hx
       ·exact hiK x hx
       ·exact hiU x hx,hcum.tr hc29⟩
   ·rintro vs J w4 ⟨q,rfl,hq4,hqn,hc4⟩;refine zSR (zmm rfl (a7 rfl (aB rfl rfl (by omega)) ?_));have k2:=hto2.chg.1;have k4:=hc4.1;have hn4:=hv2.at_.chg0 hc4;have hn4:NAt w4 ⟨b,vp,vk,.slice pi (bu C++iL::iR::bu D).length ci⟩ (.br (K1++K2) (bu A++i0::bu B)):=hn4;rw[hKL,hidl] at hn4;have hl1:(L1++key::L2).length=C.length+1+L2.length:=by rw[aF,bY,hCl];omega
    have hIK:(bu C++iL::iR::bu D).length=(L1++key::L2).length+1:=by rw[<-hIl,<-hKL];exact hb.2.1
    refine ah rfl C169 (uR w4 ⟨b,vp,vk,.slice pi (bu C++iL::iR::bu D).length ci⟩ (L1++key::L2) (bu C++iL::iR::bu D) (C.length+1) hn4 (by omega) hIK (by omega) (by rw[<-hIl];have:=hfew.2;omega)) ?_;rintro _ w5 ⟨⟨kv,iv,hn5,hnew5⟩,hc5⟩;refine zNR (zmm rfl (zmm rfl ?_));have e1:(L1++key::L2).take (C.length+1-1)++(L1++key::L2).drop (C.length+1-1+1)=L1++L2:=by
     rw[Nat.add_sub_cancel,hCl,cI rfl,nQ]
    have e2':(bu C++iL::iR::bu D).take (C.length+1)++(bu C++iL::iR::bu D).drop (C.length+1+1)=bu C++iL::bu D:=by
     rw[<-bT C,Au,show bu C++iL::iR::bu D=(bu C++[iL])++iR::bu D by simp,show(bu C).length+1+1=(bu C++[iL]).length+1 by simp,nQ];simp
    rw[e1,e2'] at hn5;have k5:=hc5.1;have h2:=hto2.at_;have hlt2:=h2.lt;have hbF:b∉c.F++EF xb e2:=hv2.far hf b (by simp[NV.F]);have hlob:=(hv2.new b (by simp[NV.F])).1;have hw0:=h.w0lo hf;have h5:c.ed xb w5 e2:=(h2.chg0 hc4).chg hc5 (fun x hx hh=>by simp at hh;subst hh;exact hbF hx) (fun x hx=>by simp at hx;subst hx;omega);have hv5:c.has xb e2 lo w5 ⟨b,vp,kv,iv⟩ (.br (L1++L2) (bu C++iL::bu D)):=⟨hn5,fun x hx=>by
     have hx:x∈b::(ax vp++(ax kv++ax iv)):=hx;rcases List.mem_cons.1 hx with rfl|hx
     ·exact hv2.new _ (by simp[NV.F])
     ·rcases List.mem_append.1 hx with hx|hx
      ·exact hv2.new x (by simp[NV.F,hx])
      ·have:=hnew5 x hx
       exact⟨by omega,fun hh=>by have:=hlt2 x (cj _ hh);omega⟩⟩
    have hBlt:=hBv.lt;have hq5:c.has xb e2 lo w5 q (.br (ka++key::kb) (ia++ib)):=⟨hq4.chg hc5 (fun x hx hh=>by have hh:x∈[b]:=hh;simp at hh;have:=hqn x hx;omega),fun x hx=>by
     have:=hqn x hx
     exact⟨by omega,fun hh=>by have:=hlt2 x (cj _ hh);omega⟩⟩
    have hml2:e2.made.length<=900:=by rw[hst2.made,cy];exact hml
    have hk2':e2.s.k+2<=40000:=by rw[hs2];exact hk
    have hw5:∀x∈pgT C++(pp++pgT D),e2.s.P.now.written x=true:=fun x hx=>by rw[hs2];exact hw x (hperm.subset (cG _ hx))
    have hl5:(bu C++iL::bu D).length<=10000:=by rw[aF,bY,bT,bT];have:=hfew.2;omega
    have hzz:=y7 L1 L2 (bu C) (bu D) iL iL iR key;have hbz:=hb.2.2.2;rw[hKL,hidl,hzz] at hbz;refine ah rfl C156 (mN c xb w5 e2 ⟨b,vp,kv,iv⟩ q lo (d+1) L1 L2 C D iL (.br (ka++key::kb) (ia++ib)) pp mm h5 hv5 hq5 hf (by rw[hs2];exact holej) (by rw[hs2];exact hctj) (CT.some hctj) (by simp[jB]) (hctj.ok (.inl hsz)) hw5 hml2 hk2' hl5) ?_;rintro v6 w6 ⟨e6,new,h6,hgr6,hc6,hst6,hr6⟩;refine za rfl (a8 (a6 (zrf ?_)));have hst:=hst2.trans hst6;rw[dA,cy] at hst;have hgrow:∀x∈EF xb e6,x∈EF xb e∨w.heap.size<=x:=fun x hx=>by
     rcases hgr6 x hx with g|g
     ·exact hto2.grow x g
     ·exact .inr (by omega)
    have hchg:Chg (b::(c.F++EF xb e)) w w6:=(((hto2.chg.mono (fun x hx _=>bN _ hx)).tr0 hc4).tr (hc5.mono (fun x hx _=>by have hx:x∈[b]:=hx;simp at hx;subst hx;exact cK))).trans hc6 (fun _ hx _=>hx) (fun x hx hl=>by
     rcases List.mem_cons.1 hx with g|g
     ·exact List.mem_cons.2 (.inl g)
     ·rcases List.mem_append.1 g with g|g
      ·exact bN _ (cG _ g)
      ·rcases hto2.grow x g with g|g
       ·exact bN _ (cj _ g)
       ·omega)
    rcases hr6 with⟨rfl,hno,hnl⟩|⟨rfl,hnl,n',pg',kv',iv',hct',hpm',hz',_,hhas'⟩
    ·exact⟨e6,new,[t.1],h6,hgrow,hchg,hst,by omega,aM _,.inl ⟨rfl,hno⟩⟩
    ·refine⟨e6,new,[t.1],h6,hgrow,hchg,hst,hnl,aM _,.inr ⟨rfl,n',pg',kv',iv',by rw[<-hpr];exact hct',?_,?_,hhas'⟩⟩
     ·rw[oq] at hperm hpm' ⊢;intro x;have q1:=hperm x;have q2:=hpm' x;simp only[rW,uu,ur] at q1 q2 ⊢;omega
     ·have hz':cnZ n'<=brZ (L1++L2) (bu C++iL::bu D)+66:=hz';omega
theorem brZ_out(ks:List Bs)(ids:List UInt32)(a b:Nat):brZ (ks.take a++ks.drop (a+1)) (ids.take b++ids.drop (b+1))<=brZ ks ids:=by
 have h1:=jy ks a;have h2:=jy (ks.drop a) 1;rw[gT] at h2;show 3+4*(ids.take b++ids.drop (b+1)).length+db (ks.take a++ks.drop (a+1))<=3+4*ids.length+db ks;rw[ir,aF,bA,bD];omega
theorem Hole.out{V:UInt32->Bs}{d:Nat}{K1 K2:List Bs}{A B:List Kd}{m:List Pr}(h:Hole V d K1 K2 A B m)(i0:UInt32)(hne:K1++K2≠[]):CT V (d+1) (.br ((K1++K2).take (A.length-1)++(K1++K2).drop (A.length-1+1)) ((bu A++i0::bu B).take A.length++(bu A++i0::bu B).drop (A.length+1))) (pgT A++pgT B) (prT A++prT B):=by
 have h0:Hole V d K1 K2 A B []:=h.sub (fun p hp=>by simp at hp);have hl:=h0.la;have e1:(bu A++i0::bu B).take A.length++(bu A++i0::bu B).drop (A.length+1)=bu A++bu B:=by
  rw[<-bT A,nQ,cI rfl]
 rw[e1];cases hK:K1 with
 | nil =>
  subst hK;have hA:A=[]:=List.length_eq_zero_iff.1 hl;subst hA;cases K2 with
  | nil => exact absurd rfl hne
  | cons k K2 =>
   have:=h0.gone0
   simpa [bu,pgT,prT] using this
 | cons a l =>
  obtain⟨L,k,rfl⟩:∃L k,K1=L++[k]:=⟨K1.dropLast,K1.getLast (by rw[hK];simp),(yu _).symm⟩
  rw[<-hK,hl];have e2:((L++[k])++K2).take ((L++[k]).length-1)++((L++[k])++K2).drop ((L++[k]).length-1+1)=L++K2:=by
   rw[aF,gq,Nat.add_sub_cancel,bO,cI rfl,gN,nQ]
  rw[e2];exact h0.gone
theorem CT.rich{V:UInt32->Bs}:∀{d:Nat} {n:Cn} {pg:List UInt32} {m:List Pr},CT V d n pg m->pf n=false->m≠[]/\jB n
 | 0, .leaf ps, _, _, ⟨h, _, _⟩, hp => ⟨fun e => by subst e; subst h; simp [pf] at hp, trivial⟩
 | 0, .br _ _, _, _, h, _ => h.elim
 | _ + 1, .leaf _, _, _, h, _ => h.elim
 | _ + 1, .br ks ids, _, _, h, hp => by
  refine⟨CT.some h,fun e=>?_⟩;subst e;obtain⟨_,id,_,q,_⟩:=h.lone;subst q;simp[pf] at hp
theorem CT.poor{V:UInt32->Bs}:∀{d:Nat} {n:Cn} {pg:List UInt32} {m:List Pr},CT V d n pg m->pf n=true->(n=.leaf []/\m=[]/\pg=[])∨∃d' ids,d=d'+1/\n=.br [] ids/\m≠[]
 | 0, .leaf ps, _, _, ⟨h, h2, _⟩, hp => .inl ⟨by cases ps with | nil => rfl | cons => simp [pf] at hp, by cases ps with | nil => exact h.symm | cons => simp [pf] at hp, h2⟩
 | 0, .br _ _, _, _, h, _ => h.elim
 | _ + 1, .leaf _, _, _, h, _ => h.elim
 | d + 1, .br ks ids, _, _, h, hp => .inr ⟨d, ids, rfl, by
   have hm:=CT.some h;obtain⟨ts,rfl,_,_,_,h5,_⟩:=h
   have:=h5.len
   rw[msT,df] at this;cases ks with
   | nil => rfl
   | cons k ks => simp [pf, bT] at hp; simp at this; omega, CT.some h⟩
theorem drop_ok(c:TC)(xb:Nat)(key:Bs):∀(d:Nat) (w:World) (e:TE) (id:UInt32) (pg:List UInt32) (m:List Pr) (deep:Nat),c.ed xb w e->isT e.s.V d id pg m->(∀x∈pg,e.s.P.now.written x=true)->deep+d<=40->e.made.length+2*d<=900->e.gone.length+2*d<=900->e.s.k+2*d<=40000 ->
  Ret Tryz.prog 110 #[.pointer (some ⟨xb,0,none⟩),.int .u32 id.toNat,str key,.int .i64 deep] w fun r w'=>∃e' new out,c.to xb w w' e e'/\Stp c.n e e' new out/\new.length<=2*d/\out.length<=2*d+1 /\
   ((∃q,r=.tuple #[q,.bool true,.int .i64 70]/\ft m key=true/\mZ c.n e'.s.P)∨(∃q,r=.tuple #[q,.bool false,.int .i64 0]/\ft m key=false/\new=[]) ∨
    ∃v n' pg',r=.tuple #[v.ptr,.bool true,.int .i64 0]/\ft m key=true/\c.has xb e' w.heap.size w' v n'/\CT e'.s.V d n' pg' (kf m key)/\(pg'++out).Perm (pg++new)/\wm n'):=by
 intro d
 induction d with
 | zero =>
  intro w e id pg m deep h ht hw hd hml hgl hk;obtain⟨rfl,hlf,hV⟩:=ht;have hps:=hlf.1;have hsz:cP m<=480:=hlf.2;have hll:=hlf.few;refine enter [8,9,10] Tryz.func110 rfl rfl (al rfl) (zSR (zaa rfl (za rfl (zNR (zmm rfl (zm rfl (ah rfl HW (nX c xb w e id (.leaf m) deep h (by omega) (hw id (by simp)) hV hlf (by omega)) ?_)))))));rintro _ w2 ⟨v,e2,rfl,hto2,hst2,hs2,hh2⟩;refine zm rfl (zx rfl (zx rfl (zaa rfl (a8 (a6 (ae (zSR (zmv rfl (bS rfl rfl) (a8 (a6 (aI rfl (fun h=>h rfl) ?_)))))))))));refine aw (a6 (ae (zSR (zm rfl (zn rfl rfl (a7 rfl (aa bQ rfl I4 rfl rfl) ?_))))));have h2:=hto2.at_;have hlt2:=h2.lt;have k2:=hto2.chg.1;have hn2:=hh2.at_;have hnew2:=hh2.new;obtain⟨vb,vp,vk,vi⟩:=v;have hB2:Blk w2 vb [.bool true,vp,vk,vi]:=hn2.blk;have hp2:Sl w2 vp m:=hn2.p;have hvb:vb∉c.F++EF xb e2:=fun hh=>by
   rcases List.mem_append.1 hh with hh|hh
   ·have:=h.pg.lt vb hh;have:=(hnew2 vb (by simp[NV.F])).1;omega
   ·exact(hnew2 vb (by simp[NV.F])).2 hh
  refine a7 rfl (aC uU4 rfl rfl (hB2.c rfl)) (a8 (a6 (bh (rfl) (zSR (zmm rfl (ah rfl C61 (zz w2 ⟨vb,vp,vk,vi⟩ m key hn2 hps.2 (by omega)) ?_))))));rintro _ w3 ⟨rfl,hc3⟩;refine zm rfl (zx rfl (zx rfl (zaa rfl (a8 (a6 (ae (zSR (zm rfl (a8 (a6 ?_))))))))));have hB3:=hB2.chg0 hc3;have hw0:c.w0.heap.size<=w.heap.size:=h.pg.1.2.1.1;have hnv:=(hnew2 vb (by simp[NV.F])).1;have hbl2:=hB2.lt;cases hhas:ft m key with
  | true =>
   have hpl:=iu hhas
   skip
   refine bh (rfl) ?_;refine ag (zmm rfl (zn rfl rfl (a7 rfl (aa bQ rfl I33 rfl rfl) ?_)));refine a7 rfl (aC dc rfl rfl (hB3.c rfl)) (ah rfl C154 (wG w3 vp m (hp2.mod0 hc3) (by omega)) ?_);rintro v4 w4 ⟨ho4,hi4,hc4⟩;refine zmm rfl (a7 rfl (aB rfl rfl (by omega)) ?_);have hi4':=hi4.ge;have k3:=hc3.1;have k4:=hc4.1;have hob1:=ho4.sl.form rfl;obtain⟨p4,c4,rfl⟩:=hob1;refine ah rfl C168 (D7 w4 p4 c4 m (dU m key) ho4 hpl (by omega)) ?_;rintro v5 w5 ⟨ho5,hi5,hc5⟩;refine zn rfl rfl (a7 rfl (aa bQ rfl I33 rfl rfl) ?_);rw[<-Hn hps.2 hhas] at ho5;have hc35:=hc4.t0 hc5 (fun x hx=>hi4' x hx);have hi5':∀x∈ax v5,w3.heap.size<=x:=fun x hx=>(hi5 x hx).elim (fun g=>hi4' x g) (fun g=>by omega);have hob2:=ho5.sl.form rfl;obtain⟨p5,c5,rfl⟩:=hob2;have hB5:=hB3.chg0 hc35;refine aP rfl (bG I33 rfl rfl (hB5) rfl rfl ((by decide:1<4)) rfl (rfl)) ?_;rintro w6 ⟨hB6,hc6,hs6⟩;refine zNR (zmm rfl (zaa rfl (za rfl (a8 (a6 (zrt ?_))))));replace hB6:Blk w6 vb [.bool true,.slice p5 (kf m key).length c5,vk,vi]:=hB6;have hb5:∀x∈ax (.slice p5 (kf m key).length c5),w2.heap.size<=x/\x≠vb:=fun x hx=>by have:=hi5' x hx;exact⟨by omega,by omega⟩
   have ho6:=ho5.mod hc6 (fun x hx hh=>by simp at hh;exact(hb5 x hx).2 hh);have hnk:∀x∈ax vk,x≠vb:=fun x hx=>hn2.ap x (cj _ (cG _ hx));have hni:∀x∈ax vi,x≠vb:=fun x hx=>hn2.ap x (cj _ (cj _ hx));have hc:Chg [vb] w2 w6:=((hc3.tr hc35).mono (by simp)).tr hc6;have hed:c.ed xb w6 e2:=h2.chg hc (fun x hx hh=>by simp at hh;subst hh;exact hvb hx) (fun x hx=>by simp at hx;subst hx;omega);have hto:c.to xb w w6 e e2:=⟨hed,hto2.grow,hto2.chg.trans hc (fun _ hx _=>hx) (fun x hx hl=>by simp at hx;subst hx;omega)⟩
   have hz:=F5 m key;refine⟨e2,[],[id],hto,hst2,eO _,aM _,.inr (.inr ⟨⟨vb,.slice p5 (kf m key).length c5,vk,vi⟩,.leaf (kf m key),[],rfl,rfl,⟨⟨hB6,ho6.sl,hn2.k.mod hc (fun x hx hh=>by simp at hh;exact hnk x hx hh),hn2.i.mod hc (fun x hx hh=>by simp at hh;exact hni x hx hh),fun x hx=>?_⟩,fun x hx=>?_⟩,⟨rfl,rfl,DY hps⟩,by simp,⟨DY hps,by omega⟩⟩)⟩
   ·rcases List.mem_append.1 hx with hx|hx
    ·exact(hb5 x hx).2
    ·rcases List.mem_append.1 hx with hx|hx
     ·exact hnk x hx
     ·exact hni x hx
   ·simp only[NV.F,bV,fQ] at hx;rcases hx with rfl|hx|hx|hx
    ·exact⟨by omega,(hnew2 _ (by simp[NV.F])).2⟩
    ·have:=(hb5 x hx).1
     exact⟨by omega,fun hh=>by have:=hlt2 x (cj _ hh);omega⟩
    ·have:=hnew2 x (by simp[NV.F,hx]);exact⟨by omega,this.2⟩
    ·have:=hnew2 x (by simp[NV.F,hx]);exact⟨by omega,this.2⟩
  | false =>
   skip
   refine aK (rfl) ?_;refine zKR (zmm rfl (zaa rfl (za rfl (a8 (a6 (zrt ?_))))));exact⟨e2,[],[id],⟨h2.chg0 hc3,hto2.grow,hto2.chg.tr0 hc3⟩,hst2,eO _,aM _,.inr (.inl ⟨_,rfl,rfl,rfl⟩)⟩
 | succ d ih =>
  intro w e id pg m deep h ht hw hd hml hgl hk;have hob3:=m9 ht;obtain⟨n,pg0,rfl,hct,hV,hz,hf⟩:=hob3;have hg:=CT.good hct hz hf;cases n with
  | leaf ps => exact hct.elim
  | br ks ids =>
  have hgb:brOk ks ids:=hg;have hfew:=hgb.few;refine enter [8,9,10] Tryz.func110 rfl rfl (al rfl) (zSR (zaa rfl (za rfl (zNR (zmm rfl (zm rfl (ah rfl HW (nX c xb w e id (.br ks ids) deep h (by omega) (hw id (by simp)) hV hg (by omega)) ?_)))))));rintro _ w2 ⟨v,e2,rfl,hto2,hst2,hs2,hh2⟩;refine zm rfl (zx rfl (zx rfl (zaa rfl (a8 (a6 (ae (zSR (zmv rfl (bS rfl rfl) (a8 (a6 (aI rfl (fun h=>h rfl) ?_)))))))))));refine aw (a6 (ae (zSR (zm rfl (zn rfl rfl (a7 rfl (aa bQ rfl I4 rfl rfl) ?_))))));have h2:=hto2.at_;have k2:=hto2.chg.1;have hn2:=hh2.at_;obtain⟨vb,vp,vk,vi⟩:=v;have hB2:Blk w2 vb [.bool false,vp,vk,vi]:=hn2.blk;have hi2:Sl w2 vi ids:=hn2.i;refine a7 rfl (aC uU4 rfl rfl (hB2.c rfl)) (a8 (a6 (aK (rfl) (zKR (zmm rfl (ah rfl C60 (vD w2 ⟨vb,vp,vk,vi⟩ ks ids key hn2 hgb.2.2.1.2 (by omega)) ?_))))));rintro _ w3 ⟨rfl,hw3⟩;refine za rfl (zNR (zmm rfl (zn rfl rfl (a7 rfl (aa bQ rfl I41 rfl rfl) ?_))));subst hw3;have hob4:=hct.hole key;obtain⟨K1,K2,A,t,B,rfl,hpl,rfl,rfl,rfl,hole,hit,hne,hbA,hbB,hq1,hq2⟩:=hob4;rw[<-hpl,<-hole.la];obtain⟨i0,pg1,m1⟩:=t;have hAl:A.length<(bu A++i0::bu B).length:=by rw[aF,bT,bY];omega
  have hget:(bu A++i0::bu B)[A.length]?=some i0:=by rw[<-bT A];simp
  have hml2:e2.made=e.made:=by have:=hst2.made;rw[cy] at this;exact this
  have hgl2:e2.gone.length=e.gone.length+1:=by rw[hst2.gone,aF];rfl
  have hr:∀x,e2.s.P.now.written x=e.s.P.now.written x:=fun x=>by rw[hs2]
  have hw1:∀x∈pg1,e.s.P.now.written x=true:=fun x hx=>hw x (by simp[hx]);have hhm:=AD hct.pairs.2 hbA hbB;rw[hhm,Ho hbA hbB];refine a7 rfl (aC aX rfl rfl (hB2.c rfl)) (zm rfl (bF rfl (aU (A.length) aX I25 rfl (hi2) rfl rfl (by first|rfl|omega) (hAl)) ?_));rintro _ ⟨bi,oi,rfl,hei,hbi⟩;refine a7 rfl (aC bw rfl rfl (((hi2.at hei hget).c0 rfl))) (zmm rfl (a7 rfl (aB rfl rfl (by omega)) ?_));refine ah rfl C110 (ih _ e2 i0 pg1 m1 (deep+1) h2 (by rw[hs2];exact hit) (fun x hx=>by rw[hr];exact hw1 x hx) (by omega) (by rw[hml2];omega) (by omega) (by rw[hs2];omega)) ?_;rintro v3 w3 ⟨e3,new,out,hto3,hst3,hnl,hol,hr3⟩;have hto03:c.to xb w w3 e e3:=hto2.trans hto3;have hst03:Stp c.n e e3 ([]++new) ([id]++out):=hst2.trans hst3;have hol3:([id]++out).length<=2*(d+1):=by rw[aF,gq];omega
  rcases hr3 with⟨q,rfl,hh3,hno3⟩|⟨q,rfl,hh3,hn3⟩|⟨u,n',pg',rfl,hh3,hu3,hct3,hperm,hcok⟩
  ·refine zm rfl (zx rfl (zx rfl (zx rfl (zaa rfl (za rfl (a8 (a6 (ae (aq (zSR (zmv rfl (bJ (bS rfl rfl) (congrArg Value.bool (decide_eq_true (by decide)))) ?_)))))))))));refine zm rfl (aD rfl rfl (aD rfl rfl (a7 rfl (aQ rfl) (za rfl (a8 (a6 (bh (rfl) (zSR (zmm rfl (zma rfl (zaa rfl (a8 (a6 (zrb ?_))))))))))))));exact⟨e3,new,[id]++out,hto03,hst03,by omega,by omega,.inl ⟨_,rfl,hh3,hno3⟩⟩
  ·refine zm rfl (zx rfl (zx rfl (zx rfl (zaa rfl (za rfl (a8 (a6 (ae (aq (zSR (zmv rfl (bJ (bS rfl rfl) (congrArg Value.bool (decide_eq_false (fun h=>h rfl)))) ?_)))))))))));refine zm rfl (aj rfl (zm rfl (aj rfl (a7 rfl (cA rfl) (a7 rfl (aN rfl) (za rfl (a8 (a6 (bh (rfl) (zSR (zmm rfl (zma rfl (zaa rfl (a8 (a6 (zrb ?_))))))))))))))));exact⟨e3,new,[id]++out,hto03,hst03,by omega,by omega,.inr (.inl ⟨_,rfl,hh3,hn3⟩)⟩
  ·refine zm rfl (zx rfl (zx rfl (zx rfl (zaa rfl (za rfl (a8 (a6 (ae (aq (zSR (zmv rfl (bJ (bS rfl rfl) (congrArg Value.bool (decide_eq_false (fun h=>h rfl)))) ?_)))))))))));refine zm rfl (aj rfl (zm rfl (aj rfl (a7 rfl (cA rfl) (a7 rfl (aN rfl) (za rfl (a8 (a6 (aK (rfl) (zSR (zm rfl ?_)))))))))));have h3:=hto3.at_;have hflo:∀x∈c.F,x<w.heap.size:=h.pg.lt;have hv3:c.has xb e3 w.heap.size w3 ⟨vb,vp,vk,vi⟩ (.br (K1++K2) (bu A++i0::bu B)):=hh2.step hto3 hflo;have hu3':c.has xb e3 w.heap.size w3 u n':=hu3.lo k2;have hold:∀x,e.s.P.now.written x=true->e3.s.V x=e.s.V x:=fun x hx=>by rw[hst3.ext.old x (by rw[hr];exact hx),hs2]
   have hwr:∀x,e.s.P.now.written x=true->e3.s.P.now.written x=true:=fun x hx=>hst3.ext.wr (by rw[hr];exact hx);have hwp:∀x∈pg',e3.s.P.now.written x=true:=fun x hx=>by
    rcases List.mem_append.1 (hperm.subset (cG _ hx)) with g|g
    ·exact hwr x (hw1 x g)
    ·exact(hst3.ext.mem g).2
   have hole3:Hole e3.s.V d K1 K2 A B (kf m1 key):=(hole.mono (fun y hy=>hold y (hw y (by rcases List.mem_append.1 hy with g|g <;> simp[g])))).sub (fun p hp=>B2 hp)
   have hmk:e3.made.length<=900/\e3.gone.length<=900/\e3.s.k+2<=40000:=by
    have a1:=hst3.made;have a2:=hst3.k;have a3:e2.s.k=e.s.k:=by rw[hs2]
    rw[hml2] at a1;have a4:=congrArg List.length a1;have a5:=congrArg List.length hst3.gone;rw[aF] at a4 a5;omega
   obtain⟨hmk1,hmk2,hmk3⟩:=hmk;have hall:∀x∈pgT A++(pg'++pgT B),e3.s.P.now.written x=true:=fun x hx=>by
    rcases List.mem_append.1 hx with g|g
    ·exact hwr x (hw x (by simp[g]))
    ·rcases List.mem_append.1 g with g|g
     ·exact hwp x g
     ·exact hwr x (hw x (by simp[g]))
   have hil:(bu A++i0::bu B).length<=10000:=bq hfew.2 (by decide);have hzp:brZ (K1++K2) (bu A++i0::bu B)<=480:=hz;have hvw:w.heap.size<=vb:=(hv3.new vb (by simp[NV.F])).1;have k3:=hto03.chg.1;have hend:∀{w4:World} {e4:TE} {S:List Nat},c.ed xb w4 e4->(∀x∈EF xb e4,x∈EF xb e3∨w3.heap.size<=x)->Chg (vb::(c.F++EF xb e3)) w3 w4->c.to xb w w4 e e4:=fun {w4 e4 S} h4 hgr4 hc4=>⟨h4,fun x hx=>by
    rcases hgr4 x hx with g|g
    ·exact hto03.grow x g
    ·exact .inr (by omega),hto03.chg.trans hc4 (fun _ hx _=>hx) (fun x hx hl=>by
     rcases List.mem_cons.1 hx with g|g
     ·have g:x=vb:=g;omega
     ·rcases List.mem_append.1 g with g|g
      ·exact cG _ g
      ·rcases hto03.grow x g with g|g
       ·exact cj _ g
       ·omega)⟩
   refine ah rfl C112 (poor_ok w3 u n' hu3'.at_) ?_;rintro _ w4 ⟨rfl,hw4⟩;refine a7 rfl (cA rfl) (za rfl (a8 (a6 ?_)));subst hw4;refine bU rfl (fun hpo=>?_) (fun hpo=>?_)
   ·refine zSR (zmm rfl (zmm rfl (zm rfl ?_)));replace hpo:pf n'=false:=by simpa using hpo
    have hob5:=CT.rich hct3 hpo;obtain⟨hne3,hfull⟩:=hob5;refine ah rfl C156 (mN c xb w3 e3 ⟨vb,vp,vk,vi⟩ u w.heap.size d K1 K2 A B i0 n' pg' (kf m1 key) h3 hv3 hu3' hflo hole3 hct3 hne3 hfull hcok hall hmk1 hmk3 hil) ?_;rintro v4 w4 ⟨e4,new2,h4,hgr4,hc4,hst4,hr4⟩;refine zaa rfl (za rfl (a8 (a6 (zrb ?_))));have hst04:=hst03.trans hst4;rw[dA,cy] at hst04;have hto04:=hend (S:=[]) h4 hgr4 hc4;rcases hr4 with⟨rfl,hno4,hn4⟩|⟨rfl,hn4,n4,pg4,kv,iv,hct4,hperm4,hz4,hf4,hhas4⟩
    ·exact⟨e4,new++new2,[id]++out,hto04,hst04,by rw[aF];omega,by omega,.inl ⟨_,rfl,hh3,hno4⟩⟩
    ·exact⟨e4,new++new2,[id]++out,hto04,hst04,by rw[aF];omega,by omega,.inr (.inr ⟨⟨vb,vp,kv,iv⟩,n4,pg4,rfl,hh3,hhas4,hct4,zg hperm hperm4,hct4.ok (.inl (bq hz4 (by have:cnZ (.br (K1++K2) (bu A++i0::bu B))<=480:=hz;omega)))⟩)⟩
   ·refine zSR (zm rfl (zn rfl rfl (a7 rfl (aa bQ rfl I4 rfl rfl) ?_)));replace hpo:pf n'=true:=by simpa using hpo
    have hBu:=hu3'.at_.blk;have hpoor:=CT.poor hct3 hpo;rcases hpoor with⟨hn0,hm0,hp0⟩|⟨d',ids',hd0,hn0,hm0⟩
    ·have hBu:Blk w3 u.b [.bool true,u.p,u.k,u.i]:=by rw[hn0] at hBu;exact hBu
     refine a7 rfl (aC uU4 rfl rfl (hBu.c rfl)) (za rfl (a8 (a6 (bh (rfl) (zSR (zmm rfl (ah rfl C169 (uR w3 ⟨vb,vp,vk,vi⟩ (K1++K2) (bu A++i0::bu B) A.length hv3.at_ hAl hgb.2.1 (List.length_pos_iff.2 hgb.1) hil) ?_)))))));rintro _ w4 ⟨⟨kv,iv,hn4,hnew4⟩,hc4⟩;refine zNR (zma rfl (zaa rfl (a8 (a6 (zrb ?_)))));have hlt3:=h3.lt;have hvb:vb∉c.F++EF xb e3:=hv3.far hflo vb (by simp[NV.F]);have hw0:c.w0.heap.size<=w.heap.size:=h.pg.1.2.1.1;have h4:c.ed xb w4 e3:=h3.chg hc4 (fun x hx hh=>by simp at hh;subst hh;exact hvb hx) (fun x hx=>by simp at hx;subst hx;omega);have hto04:=hend (S:=[]) h4 (fun x hx=>.inl hx) (hc4.mono (fun x hx _=>by have hx:x∈[vb]:=hx;simp at hx;subst hx;exact cK));have hct4:=Hole.out hole3 i0 hgb.1;have hz4:=brZ_out (K1++K2) (bu A++i0::bu B) (A.length-1) A.length;subst hp0;rw[dA] at hst03;refine⟨e3,new,[id]++out,hto04,hst03,by omega,by omega,.inr (.inr ⟨⟨vb,vp,kv,iv⟩,_,pgT A++pgT B,rfl,hh3,⟨hn4,fun x hx=>?_⟩,?_,?_,hct4.ok (.inl (bq hz4 (by omega)))⟩)⟩
     ·have hx:x∈vb::(ax vp++(ax kv++ax iv)):=hx;rcases List.mem_cons.1 hx with rfl|hx
      ·exact hv3.new _ (by simp[NV.F])
      ·rcases List.mem_append.1 hx with hx|hx
       ·exact hv3.new x (by simp[NV.F,hx])
       ·have:=hnew4 x hx
        exact⟨by omega,fun hh=>by have:=hlt3 x (cj _ hh);omega⟩
     ·rw[hm0,dA];exact hct4
     ·have:=zg (id:=id) (A:=pgT A) (B:=pgT B) (new2:=[]) hperm (pg4:=pgT A++pgT B) (by simp)
      simpa using this
    ·have hBu:Blk w3 u.b [.bool false,u.p,u.k,u.i]:=by rw[hn0] at hBu;exact hBu
     have hole5:Hole e3.s.V (d'+1) K1 K2 A B (kf m1 key):=by rw[<-hd0];exact hole3
     have hct5:CT e3.s.V (d'+1) (.br [] ids') pg' (kf m1 key):=by rw[<-hd0,<-hn0];exact hct3
     have hu5:c.has xb e3 w.heap.size w3 u (.br [] ids'):=by rw[<-hn0];exact hu3'
     refine a7 rfl (aC uU4 rfl rfl (hBu.c rfl)) (za rfl (a8 (a6 (aK (rfl) (aw (ay (a6 (zSR (zmm rfl (zmm rfl (zm rfl (ah rfl C170 (Hc c xb w3 e3 ⟨vb,vp,vk,vi⟩ u w.heap.size d' K1 K2 A B i0 ids' pg' (kf m1 key) h3 hv3 hu5 hflo hole5 hct5 hm0 hgb hall hmk1 hmk2 hmk3) ?_))))))))))));rintro v4 w4 ⟨e4,new2,out2,h4,hgr4,hc4,hst4,hn4,ho4,hr4⟩;refine zaa rfl (za rfl (a8 (a6 (zrf ?_))));have hst04:=hst03.trans hst4;rw[dA] at hst04;have hto04:=hend (S:=[]) h4 hgr4 hc4;have hol4:([id]++out++out2).length<=2*(d+1)+1:=by rw[aF];omega
     rcases hr4 with⟨rfl,hno4⟩|⟨rfl,n4,pg4,kv,iv,hct4,hperm4,hz4,hhas4⟩
     ·exact⟨e4,new++new2,[id]++out++out2,hto04,hst04,by rw[aF];omega,hol4,.inl ⟨_,rfl,hh3,hno4⟩⟩
     ·refine⟨e4,new++new2,[id]++out++out2,hto04,hst04,by rw[aF];omega,hol4,.inr (.inr ⟨⟨vb,vp,kv,iv⟩,n4,pg4,rfl,hh3,hhas4,by rw[hd0];exact hct4,?_,hct4.ok (.inl hz4)⟩)⟩;rw[oq] at hperm hperm4 ⊢;intro x;have q1:=hperm x;have q2:=hperm4 x;simp only[rW,uu,ur] at q1 q2 ⊢;omega
theorem root_ok(c:TC)(xb:Nat)(w:World)(e:TE)(v:NV)(n:Cn)(lo d:Nat)(pg:List UInt32)(m:List Pr)(h:c.ed xb w e)(hv:c.has xb e lo w v n)(hf:∀x∈c.F,x<lo)
  (hct:CT e.s.V d n pg m) (hno:wm n) (hw:∀x∈pg,e.s.P.now.written x=true) (hml:e.made.length<=900) (hk:e.s.k+3<=40000) :
  Ret Tryz.prog 157 #[.pointer (some ⟨xb,0,none⟩),v.ptr] w fun r w'=>∃e' new,c.to xb w w' e e'/\Stp c.n e e' new [] /\
   ((new.length<=2/\∃q:UInt32,r=.tuple #[.int .u32 q.toNat,.int .i64 70]/\mZ c.n e'.s.P)∨∃id d' pg',r=.tuple #[.int .u32 id.toNat,.int .i64 0]/\new.length<=3/\d'<=d+1/\isT e'.s.V d' id pg' m/\pg'.Perm (pg++new)/\(cnZ n<=480->new.length<=1/\d'<=d)):=by
 have hzn:cnZ n<=900:=by
  cases n with
  | leaf ps => exact bq hno.2 (by decide)
  | br ks ids => exact bq hno.2.2 (by decide)
 have hn:(∃ps,n=.leaf ps)∨∃ks ids,n=.br ks ids:=by cases n with|leaf ps=>exact .inl ⟨ps,rfl⟩|br ks ids=>exact .inr ⟨ks,ids,rfl⟩
 have hB:=hv.at_.blk;refine enter [4,5] Tryz.func157 rfl rfl (al rfl) (zSR (a7 rfl (gB (v:=.int .u32 ((0:UInt32).toNat:Nat)) rfl) (za rfl ?_)));refine a8 (a6 (lq [] [4,5,8,9,10,11,12,13,14,15,16,17,18,19,20,21,22,23,24,25,26] (fun vs w'=>vs=[]/\jB n/\w=w') (by kernel_rfl) ?_ ?_))
 ·refine zSR (zm rfl (zn rfl rfl (a7 rfl (aa bQ rfl I4 rfl rfl) ?_)));rcases hn with⟨ps,hn⟩|⟨ks,ids,hn⟩
  ·have hB1:Blk w v.b [.bool true,v.p,v.k,v.i]:=by rw[hn] at hB;exact hB
   refine a7 rfl (aC uU4 rfl rfl (hB1.c rfl)) (a7 rfl (cA rfl) (zm rfl (aD rfl rfl (aD rfl rfl (aD rfl rfl (aD rfl rfl (aD rfl rfl (aD rfl rfl (a7 rfl (aN rfl) (a8 (a6 (aK (rfl) (aw (a6 ?_))))))))))))));exact⟨rfl,by rw[hn];trivial,rfl⟩
  ·have hB1:Blk w v.b [.bool false,v.p,v.k,v.i]:=by rw[hn] at hB;exact hB
   have hi:Sl w v.i ids:=by have:=hv.at_.i;rw[hn] at this;exact this
   have hob1:=hi.form rfl;obtain⟨pi,ci,hvi⟩:=hob1;rw[hvi] at hB1;refine a7 rfl (aC uU4 rfl rfl (hB1.c rfl)) (a7 rfl (cA rfl) (zm rfl (aj rfl (zm rfl (aj rfl (zn rfl rfl (aj rfl (a7 rfl (aa bQ rfl I41 rfl rfl) (aj rfl (a7 rfl (aC aX rfl rfl (hB1.c rfl)) (aj rfl (a7 rfl (aA rfl aX) (aj rfl (a7 rfl (dB rfl rfl) (a7 rfl (aQ rfl) (a8 (a6 (az rfl (fun h1=>?_) (fun h1=>?_)))))))))))))))))))
   ·refine zSR (zm rfl (zn rfl rfl (a7 rfl (aa bQ rfl I41 rfl rfl) ?_)));have hi':Sl w (.slice pi ids.length ci) ids:=hvi▸hi;have hct1:CT e.s.V d (.br ks ids) pg m:=hn▸hct;have hno1:wm (.br ks ids):=hn▸hno;have hks:ks=[]:=List.length_eq_zero_iff.1 (by have:ids.length=ks.length+1:=hno1.2.1;omega);rw[hks] at hct1;have hob2:=hct1.lone;obtain⟨d',id,hd',hids,hit⟩:=hob2;refine a7 rfl (aC aX rfl rfl (hB1.c rfl)) (bF rfl (aU (0) aX I25 rfl (hi') rfl rfl (by first|rfl|omega) (by omega)) ?_);rintro _ ⟨bi,oi,rfl,hei,hbi⟩;refine a7 rfl (aC bw rfl rfl (((hi'.at hei (a:=id) (by rw[hids];rfl)).c0 rfl))) ?_;refine zaa rfl (a8 (a6 (zrt ?_)));exact⟨e,[],TC.to.refl h,Stp.refl _ _,.inr ⟨id,d',pg,rfl,by simp,by omega,hit,by simp,fun _=>⟨by simp,by omega⟩⟩⟩
   ·refine aw (a6 ?_);refine⟨rfl,?_,rfl⟩;rw[hn] at hno ⊢;have hl:ids.length=ks.length+1:=hno.2.1;intro hk0;rw[hk0] at hl;exact h1 (by rw[hl];rfl)
 ·rintro vs J w1 ⟨rfl,hfull,rfl⟩;refine ae (zSR (zm rfl (ah rfl C199 (u5 w v n hv.at_ (by omega)) ?_)));rintro _ w2 ⟨rfl,hc2⟩;refine a7 rfl (gd rfl rfl) (a8 (a6 ?_));have h2:=h.chg0 hc2;have hv2:=hv.still hc2;have k2:=hc2.1;refine az rfl (fun hz=>?_) (fun hz=>?_)
  ·refine zSR (zmm rfl ?_);have hz4:cnZ n<=480:=by omega
   refine ah rfl C94 (oC c xb w2 e v n h2 hv2.at_ (CT.good hct hz4 hfull) hz4 (by omega) (by omega)) ?_;rintro v3 w3 hr3;rcases hr3 with⟨rfl,g2,g3⟩|⟨id,e3,rfl,hto3,hst3,hV3⟩
   ·refine zx rfl (zx rfl (zaa rfl (a8 (a6 (zrt ?_)))));exact⟨e,[],g3.pre hc2,Stp.refl _ _,.inl ⟨by simp,0,rfl,g2⟩⟩
   ·refine zx rfl (zx rfl (zaa rfl (a8 (a6 (zrt ?_)))));have hold:=hst3.ext.old;exact⟨e3,[id],hto3.pre hc2,hst3,.inr ⟨id,d,id::pg,rfl,by simp,by omega,(hct.mono (fun y hy=>hold y (hw y hy))).saved hz4 hfull hV3,(yE _ _).symm,fun _=>⟨by simp,aM _⟩⟩⟩
  ·refine aw (a6 (ae (ag ?_)));have hz4:480<cnZ n:=by omega
   have hmne:m≠[]:=fun hm=>by
    cases d with
    | zero => cases n with
     | leaf ps => have q := hct.1; rw [hm] at q; subst q; exact absurd hz4 (by decide)
     | br ks ids => exact hct
    | succ d => cases n with
     | leaf ps => exact hct
     | br ks ids => exact CT.some hct hm
   refine aY rfl (nE (0:UInt32) aX I25 rfl rfl rfl rfl rfl (by decide)) ?_;rintro _ w3 ⟨b3,rfl,hB3,hn3,hc3,hl3⟩;refine a7 rfl (bP bQ wD rfl (zs:=[.bool false,.slice none 0 0,.slice none 0 0,.slice none 0 0]) rfl rfl (bI rfl rfl rfl (al rfl) (dP (cs':=[.bool false,.slice none 0 0,.slice none 0 0,.slice (some ⟨b3,0,none⟩) 1 1]) rfl))) ?_;refine aY rfl (cT (l:=[.bool false,.slice none 0 0,.slice none 0 0,.slice (some ⟨b3,0,none⟩) 1 1]) rfl rfl) ?_;rintro _ w4 ⟨tb,rfl,hnt,hT4,hc4,hl4⟩;refine za rfl (a8 (a6 (ae (zSR (zmm rfl (zm rfl ?_))))));have hB4:=hB3.chg0 hc4;have k3:=hc3.1;have k4:=hc4.1;have hc24:=(hc2.tr hc3).tr hc4;have h4:=h.chg0 hc24;have hv4:=hv.still hc24;have hlt:=h.lt;have hlo:lo<=w.heap.size:=by
    have h1:=(hv.new v.b (by simp[NV.F])).1;have h2:=hv.at_.lt v.b (by simp[NV.F]);omega
   have hnn:NAt w4 ⟨tb,.slice none 0 0,.slice none 0 0,.slice (some ⟨b3,0,none⟩) 1 1⟩ (.br [] [0]):=DC (ks:=[]) (ids:=[0]) hT4 (Sl.nil _ _) (Blk.sl1 hB4) (fun x hx=>by simp[ax] at hx) (fun x hx=>by simp[ax] at hx;subst hx;omega);have htop:c.has xb e lo w4 ⟨tb,.slice none 0 0,.slice none 0 0,.slice (some ⟨b3,0,none⟩) 1 1⟩ (.br ([]++[]) (bu []++0::bu [])):=⟨hnn,fun x hx=>by
    have hx:x∈[tb,b3]:=hx;have hge:w.heap.size<=x:=by
     rcases List.mem_cons.1 hx with rfl|hx
     ·omega
     ·have:=List.mem_singleton.1 hx;omega
    exact⟨by omega,fun hh=>by have:=hlt x (cj _ hh);omega⟩⟩
   refine ah rfl C156 (mN c xb w4 e ⟨tb,.slice none 0 0,.slice none 0 0,.slice (some ⟨b3,0,none⟩) 1 1⟩ v lo d [] [] [] [] 0 n pg m h4 htop hv4 hf (Hole.top _ d m) hct hmne hfull hno (fun x hx=>hw x (by simpa [pgT] using hx)) hml (by omega) (by decide)) ?_;rintro v5 w5 ⟨e5,new,h5,hgr5,hc5,hst5,hr5⟩;have hto5:c.to xb w w5 e e5:=⟨h5,fun x hx=>(hgr5 x hx).imp (fun g=>g) (fun g=>by omega),(hc24.mono (by simp)).trans hc5 (fun _ hx _=>hx) (fun x hx hl=>by
    rcases List.mem_cons.1 hx with g|g
    ·have g:x=tb:=g;omega
    ·exact g)⟩
   rcases hr5 with⟨rfl,hno5,hn5⟩|⟨rfl,hn5,n5,pg5,kv,iv,hct5,hpm5,hz5,hf5,hhas5⟩
   ·refine za rfl (zNR (zmv rfl (bS rfl rfl) (a8 (a6 (bM rfl (by decide) ?_)))));refine zSR (zmv rfl (gB (v:=.int .u32 ((0:UInt32).toNat:Nat)) rfl) (za rfl ?_));refine a8 (a6 (zrt ?_));exact⟨e5,new,hto5,hst5,.inl ⟨by omega,0,rfl,hno5⟩⟩
   ·refine za rfl (zNR (zmv rfl (bS rfl rfl) (a8 (a6 (aI rfl (fun h=>h rfl) ?_)))));refine zKR (zmm rfl ?_);have hz6:cnZ n5<=480:=bq hz5 (by decide);have hf6:=hf5 (.inr hz4);have hml5:e5.made.length<=902:=by rw[hst5.made,aF];omega
    have hk5:e5.s.k+1<=40000:=by rw[hst5.k];omega
    have hpm5:pg5.Perm (pg++new):=by simpa [pgT] using hpm5
    have hct5:CT e5.s.V (d+1) n5 pg5 m:=by simpa [prT] using hct5
    refine ah rfl C94 (oC c xb w5 e5 ⟨tb,.slice none 0 0,kv,iv⟩ n5 h5 hhas5.at_ (CT.good hct5 hz6 hf6) hz6 (by omega) hk5) ?_;rintro v6 w6 hr6;rcases hr6 with⟨rfl,g2,g3⟩|⟨id,e6,rfl,hto6,hst6,hV6⟩
    ·refine zx rfl (zx rfl (zaa rfl (a8 (a6 (zrf ?_)))));exact⟨e5,new,hto5.trans g3,hst5,.inl ⟨by omega,0,rfl,g2⟩⟩
    ·refine zx rfl (zx rfl (zaa rfl (a8 (a6 (zrf ?_)))));have hold:=hst6.ext.old;have hw5:∀x∈pg5,e5.s.P.now.written x=true:=fun x hx=>by
      rcases List.mem_append.1 (hpm5.subset hx) with g|g
      ·exact hst5.ext.wr (hw x g)
      ·exact(hst5.ext.mem g).2
     exact⟨e6,new++[id],hto5.trans hto6,hst5.trans hst6,.inr ⟨id,d+1,id::pg5,rfl,by rw[aF,gq];omega,aM _,(hct5.mono (fun y hy=>hold y (hw5 y hy))).saved hz6 hf6 hV6,((yE _ _).symm.trans (hpm5.append_right [id])).trans (by rw[bO]),fun q=>absurd q (by omega)⟩⟩
def TC.same(c:TC)(w':World)(s:TP)(k:Nat):Prop:=∃s',c.pg w' s'/\Ext c.n s.P s'.P s.V s'.V []/\s'.k<=k
theorem uU(c:TC)(xb:Nat)(w:World)(e:TE)(s:TP)(h:c.ed xb w e)(hx:Ext c.n s.P e.s.P s.V e.s.V e.made)(hu:∀x,s.P.now.written x=true->s.P.now.used x=true)(hl:e.made.length<=1000) :
  Ret Tryz.prog 95 #[.pointer (some ⟨xb,0,none⟩)] w fun _ w'=>c.same w' s e.s.k/\Chg c.F w w':=by
 refine(undo_ok c xb w e h (fun x hx'=>(hx.mem hx').1) hx.nodup hl).mono ?_;rintro _ w' ⟨⟨s',h1,h2,h3,h4,h5,h6,h7⟩,hc⟩;exact⟨⟨s',h1,by rw[h2];exact hx.undo hu h4 h5 h6 h7,by omega⟩,hc⟩
theorem y2(c:TC)(xb:Nat)(w:World)(e:TE)(s:TP)(q:Value)(root:UInt32)(h:c.ed xb w e)(hx:Ext c.n s.P e.s.P s.V e.s.V e.made)(hu:∀x,s.P.now.written x=true->s.P.now.used x=true)(hl:e.made.length<=1000) :
  Ret Tryz.prog 98 #[.pointer (some ⟨xb,0,none⟩),q,.int .u32 root.toNat,.int .i64 70] w fun r w'=>r=.tuple #[.int .u32 root.toNat,.slice none 0 0,.int .i64 70]/\c.same w' s e.s.k/\Chg c.F w w':=by
 refine enter [8,9,10] Tryz.func98 rfl rfl (al rfl) (zSR (a7 rfl (gB (v:=.int .u32 ((0:UInt32).toNat:Nat)) rfl) (zaa rfl ?_)));refine zNR (zma rfl (a8 (a6 (ae (zSR (zmv rfl (dB rfl rfl) (a8 (a6 (aI rfl (by decide) ?_)))))))));refine aw (a6 (ae (zSR (zmv rfl (bS rfl rfl) ?_))));refine a8 (a6 (bM rfl (by decide) ?_));refine zSR (zm rfl (ah rfl C95 (uU c xb w e s h hx hu hl) ?_));rintro _ w1 ⟨h1,hc1⟩;refine zNR (zmm rfl (zaa rfl (za rfl (a8 (a6 (zrt ?_))))));exact⟨rfl,h1,hc1⟩
theorem ends_ok(c:TC)(xb:Nat)(w:World)(e:TE)(s:TP)(v:NV)(root:UInt32)(n:Cn)(lo d:Nat)(pg:List UInt32)(m:List Pr)(h:c.ed xb w e)(hx:Ext c.n s.P e.s.P s.V e.s.V e.made)(hu:∀x,s.P.now.written x=true->s.P.now.used x=true)
  (hv:c.has xb e lo w v n) (hf:∀x∈c.F,x<lo) (hct:CT e.s.V d n pg m) (hno:wm n) (hw:∀x∈pg,e.s.P.now.written x=true) (hml:e.made.length<=900) (hk:e.s.k+3<=40000) :
  Ret Tryz.prog 98 #[.pointer (some ⟨xb,0,none⟩),v.ptr,.int .u32 root.toNat,.int .i64 0] w fun r w' =>
   ((r=.tuple #[.int .u32 root.toNat,.slice none 0 0,.int .i64 70]/\c.same w' s (e.s.k+3)/\fZ s.P c.n<=e.made.length+2) ∨
    ∃id d' pg' new gv s',r=.tuple #[.int .u32 id.toNat,gv,.int .i64 0]/\c.pg w' s'/\Ext c.n s.P s'.P s.V s'.V (e.made++new)/\s'.k<=e.s.k+3/\new.length<=3/\d'<=d+1/\isT s'.V d' id pg' m/\pg'.Perm (pg++new)/\(cnZ n<=480->new.length<=1/\d'<=d)/\Own w' gv e.gone/\∀x∈ax gv,x∈EF xb e∨w.heap.size<=x)/\Chg (c.F++EF xb e) w w':=by
 refine enter [8,9,10] Tryz.func98 rfl rfl (al rfl) (zSR (a7 rfl (gB (v:=.int .u32 ((0:UInt32).toNat:Nat)) rfl) (zaa rfl ?_)));refine zNR (zma rfl (a8 (a6 (ae (zSR (zmv rfl (dB rfl rfl) (a8 (a6 (bM rfl (rfl) (ag (zmm rfl (ah rfl C157 (root_ok c xb w e v n lo d pg m h hv hf hct hno hw hml hk) ?_))))))))))));rintro v1 w1 ⟨e1,new,hto1,hst1,hr1⟩;have h1:=hto1.at_;have hx1:=hx.trans hst1.ext;have hml1:e1.made=e.made++new:=hst1.made;have hk1:=hst1.k;rcases hr1 with⟨hnl,q,rfl,hno1⟩|⟨id,d',pg',rfl,hnl,hd',hit,hpm,hsm⟩
 ·refine zm rfl (zx rfl (zx rfl (zaa rfl (a8 (a6 (ae (zSR (zmv rfl (bS rfl rfl) (a8 (a6 (bM rfl (by decide) ?_)))))))))));refine zSR (zm rfl (ah rfl C95 (uU c xb w1 e1 s h1 (by rw[hml1];exact hx1) hu (by rw[hml1,aF];omega)) ?_));rintro _ w2 ⟨⟨s2,hp2,hx2,hk2⟩,hc2⟩;refine zNR (zmm rfl (zaa rfl (za rfl (a8 (a6 (zrt ?_))))));have hroom:=hx1.room h.pg.n4.2 hno1;rw[aF] at hroom;refine⟨.inl ⟨rfl,⟨s2,hp2,hx2,by omega⟩,by omega⟩,hto1.chg.tr (hc2.mono (fun x hx _=>cG _ hx))⟩
 ·refine zm rfl (zx rfl (zx rfl (zaa rfl (a8 (a6 (ae (zSR (zmv rfl (bS rfl rfl) (a8 (a6 (aI rfl (fun h=>h rfl) ?_)))))))))));refine aw (a6 (ae ?_));have hB1:=h1.blk;refine aG bz (.pure 0 (.pure 1 (.pure 2 (.pure 3 (.read 4 (.pure 5 (.pure 6 (.pure 7 .nil)))))))) (by kernel_rfl) ?_;refine ym rfl (ym rfl (yn rfl (yp rfl (fun _=>(aa lT rfl I41 rfl rfl)) ?_)));refine aH rfl rfl rfl aX rfl rfl (hB1.c rfl) (ya rfl (ya rfl (ya rfl (aJ (a6 (zrf ?_))))));have hg1:e1.gone=e.gone:=by have:=hst1.gone;rw[cy] at this;exact this
  refine⟨.inr ⟨id,d',pg',new,e1.gv,e1.s,rfl,h1.pg.chg0 (drw _),hx1,by omega,hnl,hd',hit,hpm,hsm,?_,fun x hx=>hto1.grow x (by simp[EF,hx])⟩,hto1.chg.tr0 (drw _)⟩
  have:=h1.go
  rw[hg1] at this;exact this.mod0 (drw _)
theorem ed0{c:TC}{w w':World}{s:TP}{xb:Nat}(h:c.pg w s)(hm:Chg [] w w')(hB:Blk w' xb [c.pv,.slice none 0 0,.slice none 0 0])(hx:w.heap.size<=xb):c.ed xb w' ⟨s,.slice none 0 0,.slice none 0 0,[],[]⟩ :=
 ⟨h.chg0 hm,hB,Own.nil _,Own.nil _,by simp[ax],by simp[ax],fun x hx=>by simp[ax] at hx,fun x hq=>by
  have hq:x∈[xb]:=hq;have hq:=List.mem_singleton.1 hq;subst hq;have h1:=h.1.2.1.1;exact⟨by omega,fun hh=>by have:=h.lt _ hh;omega⟩⟩
def HD(c:TC)(w:World)(s:TP)(root:UInt32)(d:Nat)(pg:List UInt32)(_ m':List Pr)(r:Value->Value->Value->Value)(ra:Value)(k:Nat)(w':World):Prop :=
 (ra=r (.int .u32 root.toNat) (.slice none 0 0) (.int .i64 70)/\c.same w' s k/\fZ s.P c.n<=2*(d+1)) ∨
 ∃id d' pg' made gone gv s',ra=r (.int .u32 id.toNat) gv (.int .i64 0)/\c.pg w' s'/\Ext c.n s.P s'.P s.V s'.V made/\s'.k<=k/\made.length<=2*d+3/\d'<=d+1/\isT s'.V d' id pg' m'/\(pg'++gone).Perm (pg++made)/\(d=0->cP m'<=480->made.length<=1/\d'=0)/\gone.length<=2*d+1/\Own w' gv gone/\∀x∈ax gv,w.heap.size<=x
theorem o0{F S:List Nat}{w0 w w':World}(h0:Chg F w0 w)(h:Chg (F++S) w w')(hS:∀x∈S,w0.heap.size<=x):Chg F w0 w' :=
 h0.trans h (fun _ hx _=>hx) (fun x hx hl=>(List.mem_append.1 hx).elim id (fun g=>by have:=hS x g;omega))
theorem AO{c:TC}{w w5 w6:World}{s:TP}{xb:Nat}{e:TE}{v:NV}{n:Cn}{root:UInt32}{d:Nat}{pg pg6 new out:List UInt32}{m m':List Pr}(h:c.pg w s)(hx:w.heap.size<=xb)(k5:w.heap.size<=w5.heap.size)(hto:c.to xb w5 w6 ⟨s,.slice none 0 0,.slice none 0 0,[],[]⟩ e)(hst:Stp c.n ⟨s,.slice none 0 0,.slice none 0 0,[],[]⟩ e new out)
  (hnl:new.length<=2*d) (hol:out.length<=2*d+1) (hv:c.has xb e w5.heap.size w6 v n) (hct:CT e.s.V d n pg6 m') (hpm:(pg6++out).Perm (pg++new)) (hno:wm n) (hw:∀x∈pg,s.P.now.written x=true) (hd:d<=40) (hk:s.k+2*d+3<=40000) (hc:Chg c.F w w6) :
  Ret Tryz.prog 98 #[.pointer (some ⟨xb,0,none⟩),v.ptr,.int .u32 root.toNat,.int .i64 0] w6 fun r w'=>HD c w s root d pg m m' (fun a b e=>.tuple #[a,b,e]) r (s.k+2*d+3) w'/\Chg c.F w w':=by
 have hm6:e.made=new:=hst.made;have hg6:e.gone=out:=hst.gone;have hk6:e.s.k=s.k+new.length:=hst.k;have hx6:Ext c.n s.P e.s.P s.V e.s.V new:=hst.ext;have hEF:∀x∈EF xb e,w.heap.size<=x:=fun x hx'=>by
  rcases hto.grow x hx' with g|g
  ·have g:x∈[xb]:=g
   have:=List.mem_singleton.1 g;omega
  ·omega
 have k6:=hc.1;have hw6:∀x∈pg6,e.s.P.now.written x=true:=fun x hx=>by
  rcases List.mem_append.1 (hpm.subset (cG _ hx)) with g|g
  ·exact hx6.wr (hw x g)
  ·exact(hx6.mem g).2
 refine(ends_ok c xb w6 e s v root n w5.heap.size d pg6 m' hto.at_ (by rw[hm6];exact hx6) (fun x hx=>h.wu hx) hv (fun x hx=>by have:=h.lt x hx;omega) hct hno hw6 (by rw[hm6];omega) (by omega)).mono ?_;rintro r w7 ⟨hr,hc7⟩;refine⟨?_,o0 hc hc7 hEF⟩;rcases hr with⟨rfl,hs,hroom⟩|⟨id,d',pg',new2,gv,s',rfl,hp,hx',hk',hn2,hd',hit,hpm',hsm,hgv,hgb⟩
 ·refine .inl ⟨rfl,?_,by rw[hm6] at hroom;omega⟩;obtain⟨s',q1,q2,q3⟩:=hs;exact⟨s',q1,q2,by omega⟩
 ·rw[hm6] at hx';refine .inr ⟨id,d',pg',new++new2,out,gv,s',rfl,hp,hx',by omega,by rw[aF];omega,hd',hit,?_,fun hd0 hz=>?_,hol,hg6▸hgv,fun x hx=>(hgb x hx).elim (fun g=>hEF x g) (fun g=>by omega)⟩
  ·rw[oq] at hpm hpm' ⊢;intro x;have q1:=hpm x;have q2:=hpm' x;simp only[rW] at q1 q2 ⊢;omega
  ·subst hd0;have hzn:cnZ n<=480:=by
    cases n with
    | leaf ps => have q : ps = m' := hct.1; subst q; exact hz
    | br ks ids => exact hct.elim
   have:=hsm hzn
   rw[aF];omega
theorem E5(c:TC)(w:World)(s:TP)(root:UInt32)(d:Nat)(pg:List UInt32)(m:List Pr)(p:Pr)(h:c.pg w s)(ht:isT s.V d root pg m)(hw:∀x∈pg,s.P.now.written x=true)(hd:d<=40)(hk:s.k+2*d+3<=40000) :
  Ret Tryz.prog 57 #[c.pv,.int .u32 root.toNat,str p.1,str p.2] w fun r w'=>((¬nN p/\r=.tuple #[.int .u32 0,.slice none 0 0,.int .i64 90]/\c.pg w' s)∨(nN p/\HD c w s root d pg m (fB m p) (fun a b e=>.tuple #[a,b,e]) r (s.k+2*d+3) w'))/\Chg c.F w w':=by
 refine enter [8,9,10] Tryz.func57 rfl rfl (al rfl) (zSR (a7 rfl (gB (v:=.int .u32 ((0:UInt32).toNat:Nat)) rfl) (zaa rfl ?_)));refine zNR (zmm rfl (a7 rfl (bP j1 I49 rfl (zs:=[str [],str []]) rfl rfl (bI rfl rfl rfl (al rfl) (bI rfl rfl rfl (al rfl) (dP (cs':=[str p.1,str p.2]) rfl)))) ?_));refine aY rfl (dk (l:=[str [],str []]) I49 rfl rfl) ?_;rintro _ w1 ⟨tb,rfl,hnt,hT1,hc1,hl1⟩;refine aP rfl (cF (l:=[str p.1,str p.2]) I49 rfl rfl hT1 rfl rfl (aM 2) (by simp[fD]) (cV rfl)) ?_;rintro w2 ⟨hT2,hc2,hs2⟩;refine a8 (a6 (ae (ae (ag ?_))));have hc02:Chg [] w w2:=hc1.t1 hc2 hnt;have hTa:At w2 tb 0 [str p.1,str p.2]:=hT2.at (by rfl)
 refine a7 rfl (cM j1 rfl I49 rfl hTa rfl) (aY rfl (nE p dc I49 rfl rfl rfl rfl rfl (by decide)) ?_);rintro _ w3 ⟨b3,rfl,hB3,hn3,hc3,hl3⟩;refine ah rfl C96 (uf w3 _ [p] (Blk.sl1 hB3) (by simp)) ?_;rintro v4 w4 ⟨hc4,hr4⟩;have hc04:=(hc02.tr hc3).tr hc4;have hT4:=(hT2.chg0 hc3).chg0 hc4;rcases hr4 with⟨hno,rfl⟩|⟨hok,hz,rfl⟩|⟨hok,bv,rfl,_,_⟩
 ·refine zm rfl (zx rfl (zx rfl (zaa rfl (zNR (zmv rfl (bS rfl rfl) (a8 (a6 (bM rfl (by decide) ?_))))))));refine zSR (a7 rfl (gB (v:=.int .u32 ((0:UInt32).toNat:Nat)) rfl) (zaa rfl ?_));refine a8 (a6 (zrt ?_));exact⟨.inl ⟨fun hp=>hno ⟨fun q hq=>by have:=List.mem_singleton.1 hq;subst this;exact hp,yF _ _⟩,rfl,h.chg0 hc04⟩,hc04.mono (by simp)⟩
 ·have hp:=hok.1 p (List.mem_singleton.2 rfl);rw[iq] at hz
  have:=hp.1.2
  have:=hp.2
  omega
 ·have hp:=hok.1.1 p (List.mem_singleton.2 rfl);refine zm rfl (zx rfl (zx rfl (zaa rfl (zNR (zmv rfl (bS rfl rfl) (a8 (a6 (aI rfl (fun h=>h rfl) ?_))))))));refine zKR (zmv rfl (bP lT I175 rfl (zs:=[.pointer none,.slice none 0 0,.slice none 0 0]) rfl rfl (bI rfl rfl rfl (al rfl) (dP (cs':=[c.pv,.slice none 0 0,.slice none 0 0]) rfl))) ?_);refine aY rfl (cT (l:=[c.pv,.slice none 0 0,.slice none 0 0]) rfl rfl) ?_;rintro _ w5 ⟨xb,rfl,hxn,hX5,hc5,hl5⟩;refine za rfl (zNR (zmm rfl ?_));have hc05:=hc04.tr hc5;have hTb:At w5 tb 0 [str p.1,str p.2]:=(hT4.chg0 hc5).at (by rfl)
  refine a7 rfl (cM j1 rfl I49 rfl hTb rfl) ?_;have k04:=hc04.1;have k05:=hc05.1;have hxw:w.heap.size<=xb:=by omega
  have he0:=ed0 h hc05 hX5 hxw;refine ah rfl C97 (put_ok c xb p hp d w5 ⟨s,.slice none 0 0,.slice none 0 0,[],[]⟩ root pg m 0 he0 ht hw (by omega) (by simp;omega) (by simp;omega) (by show s.k+2*d<=40000;omega)) ?_;rintro v6 w6 ⟨e6,new,out,hto,hst,hnl,hol,hr⟩;have hc06:Chg c.F w w6:=o0 (hc05.mono (by simp)) hto.chg (fun x hx=>by have hx:x∈[xb]:=hx;have:=List.mem_singleton.1 hx;omega);have hm6:e6.made=new:=hst.made;have hk6:e6.s.k=s.k+new.length:=hst.k;have hx6:Ext c.n s.P e6.s.P s.V e6.s.V new:=hst.ext;have hnd:=h.n4.2;rcases hr with⟨q,rfl,hno⟩|⟨v,n,pg6,rfl,hv6,hct6,hpm6,hcok,hcf⟩
  ·refine zm rfl (zx rfl (zx rfl (zaa rfl (zNR (zmm rfl (zmm rfl (ah rfl C98 (y2 c xb w6 e6 s q root hto.at_ (by rw[hm6];exact hx6) (fun x hx=>h.wu hx) (by rw[hm6];omega)) ?_)))))));rintro _ w7 ⟨rfl,⟨s7,hp7,hx7,hk7⟩,hc7⟩;refine zx rfl (zx rfl (zx rfl (zaa rfl (za rfl (a8 (a6 (zrf ?_)))))));have hroom:=hx6.room hnd hno;exact⟨.inr ⟨hp,.inl ⟨rfl,⟨s7,hp7,hx7,by omega⟩,by omega⟩⟩,hc06.tr hc7⟩
  ·refine zm rfl (zx rfl (zx rfl (zaa rfl (zNR (zmm rfl (zmm rfl (ah rfl C98 (AO (root:=root) (m:=m) h hxw k05 hto hst hnl (by omega) hv6 hct6 hpm6 hcok hw hd hk hc06) ?_)))))));rintro v7 w7 ⟨hr7,hc7⟩;rcases hr7 with⟨rfl,hs7,hroom⟩|⟨id,d',pg',made,gone,gv,s',rfl,hrest⟩
   ·refine zx rfl (zx rfl (zx rfl (zaa rfl (za rfl (a8 (a6 (zrf ?_)))))));exact⟨.inr ⟨hp,.inl ⟨rfl,hs7,hroom⟩⟩,hc7⟩
   ·refine zx rfl (zx rfl (zx rfl (zaa rfl (za rfl (a8 (a6 (zrf ?_)))))));exact⟨.inr ⟨hp,.inr ⟨id,d',pg',made,gone,gv,s',rfl,hrest⟩⟩,hc7⟩
def wo4(a b e:Value):Value:=.tuple #[a,b,.bool (match e with|.int .i64 0=>true|_=>false),e]
theorem CV(c:TC)(w:World)(s:TP)(root:UInt32)(d:Nat)(pg:List UInt32)(m:List Pr)(key:Bs)(h:c.pg w s)(ht:isT s.V d root pg m)(hw:∀x∈pg,s.P.now.written x=true)(hd:d<=40)(hk:s.k+2*d+3<=40000) :
  Ret Tryz.prog 62 #[c.pv,.int .u32 root.toNat,str key] w fun r w'=>((ft m key=false/\r=.tuple #[.int .u32 root.toNat,.slice none 0 0,.bool false,.int .i64 0]/\c.same w' s s.k)∨(ft m key=true/\HD c w s root d pg m (kf m key) wo4 r (s.k+2*d+3) w'))/\Chg c.F w w':=by
 refine enter [6,7,8,9] Tryz.func62 rfl rfl (al rfl) (zSR (a7 rfl (gB (v:=.int .u32 ((0:UInt32).toNat:Nat)) rfl) (zaa rfl (za rfl ?_))));refine zNR (zmv rfl (bP lT I175 rfl (zs:=[.pointer none,.slice none 0 0,.slice none 0 0]) rfl rfl (bI rfl rfl rfl (al rfl) (dP (cs':=[c.pv,.slice none 0 0,.slice none 0 0]) rfl))) ?_);refine aY rfl (cT (l:=[c.pv,.slice none 0 0,.slice none 0 0]) rfl rfl) ?_;rintro _ w5 ⟨xb,rfl,hxn,hX5,hc5,hl5⟩;refine za rfl (zNR (zmm rfl (zm rfl ?_)));have k05:=hc5.1;have hxw:w.heap.size<=xb:=by omega
 have he0:=ed0 h hc5 hX5 hxw;refine ah rfl C110 (drop_ok c xb key d w5 ⟨s,.slice none 0 0,.slice none 0 0,[],[]⟩ root pg m 0 he0 ht hw (by omega) (by simp;omega) (by simp;omega) (by show s.k+2*d<=40000;omega)) ?_;rintro v6 w6 ⟨e6,new,out,hto,hst,hnl,hol,hr⟩;have hc06:Chg c.F w w6:=o0 (hc5.mono (by simp)) hto.chg (fun x hx=>by have hx:x∈[xb]:=hx;have:=List.mem_singleton.1 hx;omega);have hm6:e6.made=new:=hst.made;have hk6:e6.s.k=s.k+new.length:=hst.k;have hx6:Ext c.n s.P e6.s.P s.V e6.s.V new:=hst.ext;have hnd:=h.n4.2;rcases hr with⟨q,rfl,hhas,hno⟩|⟨q,rfl,hhas,hnew⟩|⟨v,n,pg6,rfl,hhas,hv6,hct6,hpm6,hcok⟩
 ·refine zm rfl (zx rfl (zx rfl (zx rfl (zaa rfl (za rfl (a8 (a6 (ae (zSR (zmv rfl (bJ (dB rfl rfl) (congrArg Value.bool (decide_eq_false (by decide)))) ?_))))))))));refine zm rfl (aD rfl rfl (aD rfl rfl (a7 rfl (aN rfl) (a8 (a6 (aK (rfl) (zKR (zmm rfl (zmm rfl (ah rfl C98 (y2 c xb w6 e6 s q root hto.at_ (by rw[hm6];exact hx6) (fun x hx=>h.wu hx) (by rw[hm6];omega)) ?_))))))))));rintro _ w7 ⟨rfl,⟨s7,hp7,hx7,hk7⟩,hc7⟩;refine zm rfl (zx rfl (zx rfl (zx rfl (zaa rfl (za rfl (zNR (zmm rfl (zmm rfl ?_))))))));have hroom:=hx6.room hnd hno;refine aj rfl (zm rfl (aj rfl (a7 rfl (dB rfl rfl) (a7 rfl (aQ rfl) (zma rfl (zaa rfl (za rfl (a8 (a6 (zrf ?_))))))))));exact⟨.inr ⟨hhas,.inl ⟨rfl,⟨s7,hp7,hx7,by omega⟩,by omega⟩⟩,hc06.tr hc7⟩
 ·refine zm rfl (zx rfl (zx rfl (zx rfl (zaa rfl (za rfl (a8 (a6 (ae (zSR (zmv rfl (bJ (dB rfl rfl) (congrArg Value.bool (decide_eq_true (rfl)))) (zm rfl (aj rfl (zm rfl (aj rfl (a7 rfl (cA rfl) (a7 rfl (aQ rfl) (a8 (a6 (bh (rfl) (zSR (zma rfl (zaa rfl (za rfl (a8 (a6 (zrt ?_))))))))))))))))))))))))));subst hnew;exact⟨.inl ⟨hhas,rfl,⟨e6.s,hto.at_.pg,hx6,by simp at hk6;omega⟩⟩,hc06⟩
 ·refine zm rfl (zx rfl (zx rfl (zx rfl (zaa rfl (za rfl (a8 (a6 (ae (zSR (zmv rfl (bJ (dB rfl rfl) (congrArg Value.bool (decide_eq_true (rfl)))) (zm rfl (aj rfl (zm rfl (aj rfl (a7 rfl (cA rfl) (a7 rfl (aQ rfl) (a8 (a6 (aK (rfl) (zKR (zmm rfl (zmm rfl (ah rfl C98 (AO (root:=root) (m:=m) h hxw k05 hto hst hnl hol hv6 hct6 hpm6 hcok hw hd hk hc06) ?_)))))))))))))))))))))));rintro v7 w7 ⟨hr7,hc7⟩;rcases hr7 with⟨rfl,hs7,hroom⟩|⟨id,d',pg',made,gone,gv,s',rfl,hrest⟩
  ·refine zm rfl (zx rfl (zx rfl (zx rfl (zaa rfl (za rfl (zNR (zmm rfl (zmm rfl (aj rfl (zm rfl (aj rfl (a7 rfl (dB rfl rfl) (a7 rfl (aQ rfl) (zma rfl (zaa rfl (za rfl (a8 (a6 (zrf ?_)))))))))))))))))));exact⟨.inr ⟨hhas,.inl ⟨rfl,hs7,hroom⟩⟩,hc7⟩
  ·refine zm rfl (zx rfl (zx rfl (zx rfl (zaa rfl (za rfl (zNR (zmm rfl (zmm rfl (aj rfl (zm rfl (aj rfl (a7 rfl (dB rfl rfl) (a7 rfl (aQ rfl) (zma rfl (zaa rfl (za rfl (a8 (a6 (zrf ?_)))))))))))))))))));exact⟨.inr ⟨hhas,.inr ⟨id,d',pg',made,gone,gv,s',rfl,hrest⟩⟩,hc7⟩
def PutR(c:TC)(s:TP)(d:Nat)(pg:List UInt32)(m':List Pr)(r:Value->Value->Value)(ra:Value)(k:Nat)(w':World):Prop :=
 (ra=r (.int .u32 0) (.int .i64 70)/\c.same w' s k/\fZ s.P c.n<=2*(d+1)) ∨
 ∃id d' pg' made gone s',ra=r (.int .u32 (id:UInt32).toNat) (.int .i64 0)/\c.pg w' s'/\Ext c.n s.P s'.P s.V s'.V made/\s'.k<=k/\made.length<=2*d+3/\d'<=d+1/\isT s'.V d' id pg' m'/\(pg'++gone).Perm (pg++made)/\(d=0->cP m'<=480->made.length<=1/\d'=0)/\gone.length<=2*d+1
theorem TPut_ok(c:TC)(w:World)(s:TP)(root:UInt32)(d:Nat)(pg:List UInt32)(m:List Pr)(p:Pr)(h:c.pg w s)(ht:isT s.V d root pg m)(hw:∀x∈pg,s.P.now.written x=true)(hd:d<=40)(hk:s.k+2*d+3<=40000) :
  Ret Tryz.prog 20 #[c.pv,.int .u32 root.toNat,str p.1,str p.2] w fun r w'=>((¬nN p/\r=.tuple #[.int .u32 0,.int .i64 90]/\c.pg w' s)∨(nN p/\PutR c s d pg (fB m p) (fun a e=>.tuple #[a,e]) r (s.k+2*d+3) w'))/\Chg c.F w w':=by
 refine enter [8,9] Tryz.func20 rfl rfl (al rfl) (zSR (a7 rfl (gB (v:=.int .u32 ((0:UInt32).toNat:Nat)) rfl) (za rfl ?_)));refine zNR (zmm rfl (zmm rfl (ah rfl C57 (E5 c w s root d pg m p h ht hw hd hk) ?_)));rintro v1 w1 ⟨hr1,hc1⟩;rcases hr1 with⟨hp,rfl,h1⟩|⟨hp,⟨rfl,hs7,hroom⟩|⟨id,d',pg',made,gone,gv,s',rfl,q1,q2,q3,q4,q5,q6,q7,q8,q9,_⟩⟩
 ·refine zm rfl (zx rfl (zx rfl (zx rfl (zaa rfl (za rfl (a8 (a6 (ae (zSR (zmv rfl (bS rfl rfl) (a8 (a6 (bM rfl (by decide) ?_)))))))))))));refine zSR (zmv rfl (gB (v:=.int .u32 ((0:UInt32).toNat:Nat)) rfl) (za rfl ?_));refine a8 (a6 (zrt ?_));exact⟨.inl ⟨hp,rfl,h1⟩,hc1⟩
 ·refine zm rfl (zx rfl (zx rfl (zx rfl (zaa rfl (za rfl (a8 (a6 (ae (zSR (zmv rfl (bS rfl rfl) (a8 (a6 (bM rfl (by decide) ?_)))))))))))));refine zSR (zmv rfl (gB (v:=.int .u32 ((0:UInt32).toNat:Nat)) rfl) (za rfl ?_));refine a8 (a6 (zrt ?_));exact⟨.inr ⟨hp,.inl ⟨rfl,hs7,hroom⟩⟩,hc1⟩
 ·refine zm rfl (zx rfl (zx rfl (zx rfl (zaa rfl (za rfl (a8 (a6 (ae (zSR (zmv rfl (bS rfl rfl) (a8 (a6 (aI rfl (fun h=>h rfl) ?_)))))))))))));refine zKR (zma rfl (za rfl (a8 (a6 (zrf ?_)))));exact⟨.inr ⟨hp,.inr ⟨id,d',pg',made,gone,s',rfl,q1,q2,q3,q4,q5,q6,q7,q8,q9⟩⟩,hc1⟩
def de3(a e:Value):Value:=.tuple #[a,.bool (match e with|.int .i64 0=>true|_=>false),e]
theorem Fo(c:TC)(w:World)(s:TP)(h:c.pg w s)(hk:s.k+1<=40000) :
  Ret Tryz.prog 56 #[c.pv] w fun r w'=>((r=.tuple #[.int .u32 0,.int .i64 70]/\c.same w' s s.k/\fZ s.P c.n=0)∨∃id s',r=.tuple #[.int .u32 (id:UInt32).toNat,.int .i64 0]/\c.pg w' s'/\Ext c.n s.P s'.P s.V s'.V [id]/\s'.k<=s.k+1/\isT s'.V 0 id [id] [])/\Chg c.F w w':=by
 refine enter [2,3] Tryz.func56 rfl rfl (al rfl) (zSR (a7 rfl (gB (v:=.int .u32 ((0:UInt32).toNat:Nat)) rfl) (za rfl ?_)));refine zNR (zmv rfl (bP lT I175 rfl (zs:=[.pointer none,.slice none 0 0,.slice none 0 0]) rfl rfl (bI rfl rfl rfl (al rfl) (dP (cs':=[c.pv,.slice none 0 0,.slice none 0 0]) rfl))) ?_);refine aY rfl (cT (l:=[c.pv,.slice none 0 0,.slice none 0 0]) rfl rfl) ?_;rintro _ w1 ⟨xb,rfl,hxn,hX1,hc1,hl1⟩;refine za rfl (zNR (zm rfl ?_));have hxw:w.heap.size<=xb:=by omega
 have he1:=ed0 h hc1 hX1 hxw;refine a7 rfl (bP bQ wD rfl (zs:=[.bool false,.slice none 0 0,.slice none 0 0,.slice none 0 0]) rfl rfl (bI rfl rfl rfl (al rfl) (dP (cs':=[.bool true,.slice none 0 0,.slice none 0 0,.slice none 0 0]) rfl))) ?_;refine aY rfl (cT (l:=[.bool true,.slice none 0 0,.slice none 0 0,.slice none 0 0]) rfl rfl) ?_;rintro _ w2 ⟨tb,rfl,htn,hT2,hc2,hl2⟩;have hn2:NAt w2 ⟨tb,.slice none 0 0,.slice none 0 0,.slice none 0 0⟩ (.leaf []):=⟨hT2,Sl.nil _ _,Sl.nil _ _,Sl.nil _ _,fun x hx=>by simp[ax] at hx⟩
 have hlf:leafOk []:=⟨⟨fun p hp=>by simp at hp,Br⟩,by decide⟩
 have hc02:=hc1.tr hc2;have he2:=he1.chg0 hc2;refine ah rfl C94 (oC c xb w2 ⟨s,.slice none 0 0,.slice none 0 0,[],[]⟩ ⟨tb,.slice none 0 0,.slice none 0 0,.slice none 0 0⟩ (.leaf []) he2 hn2 hlf (by decide) (by simp) hk) ?_;rintro v3 w3 hr3;rcases hr3 with⟨rfl,g2,g3⟩|⟨id,e3,rfl,hto3,hst3,hV3⟩
 ·refine zm rfl (zx rfl (zx rfl (zaa rfl (a8 (a6 (ae (zSR (zmv rfl (bS rfl rfl) (a8 (a6 (bM rfl (by decide) ?_)))))))))));refine zSR (zm rfl ?_);have hc03:Chg c.F w w3:=o0 (hc02.mono (by simp)) g3.chg (fun x hx=>by have hx:x∈[xb]:=hx;have:=List.mem_singleton.1 hx;omega);have hx0:Ext c.n s.P s.P s.V s.V []:=Ext.refl _ _ _;refine ah rfl C95 (uU c xb w3 ⟨s,.slice none 0 0,.slice none 0 0,[],[]⟩ s g3.at_ hx0 (fun x hx=>h.wu hx) (by simp)) ?_;rintro _ w4 ⟨hs4,hc4⟩;refine zNR (zmv rfl (gB (v:=.int .u32 ((0:UInt32).toNat:Nat)) rfl) (za rfl ?_));refine a8 (a6 (zrt ?_));exact⟨.inl ⟨rfl,hs4,Nat.le_zero.1 (hx0.room h.n4.2 g2)⟩,hc03.tr hc4⟩
 ·refine zm rfl (zx rfl (zx rfl (zaa rfl (a8 (a6 (ae (zSR (zmv rfl (bS rfl rfl) (a8 (a6 (aI rfl (fun h=>h rfl) ?_)))))))))));refine zKR (zma rfl (za rfl (a8 (a6 (zrf ?_)))));have hc03:Chg c.F w w3:=o0 (hc02.mono (by simp)) hto3.chg (fun x hx=>by have hx:x∈[xb]:=hx;have:=List.mem_singleton.1 hx;omega);have hk3:e3.s.k=s.k+1:=hst3.k;exact⟨.inr ⟨id,e3.s,rfl,hto3.at_.pg,hst3.ext,by omega,⟨rfl,hlf,hV3⟩⟩,hc03⟩
theorem CT.isLeaf{V:UInt32->Bs}:∀{k:Nat} {ps m:List Pr} {pg:List UInt32},CT V k (.leaf ps) pg m->k=0/\ps=m/\pg=[]/\fO m
 | 0, _, _, _, h => ⟨rfl, h⟩
 | _ + 1, _, _, _, h => h.elim
theorem CT.isBr{V:UInt32->Bs}:∀{k:Nat} {ks:List Bs} {ids pg:List UInt32} {m:List Pr},CT V k (.br ks ids) pg m->∃q,k=q+1
 | 0, _, _, _, _, h => h.elim
 | k + 1, _, _, _, _, _ => ⟨k, rfl⟩
theorem TGet_ok(c:TC)(w:World)(s:TP)(root:UInt32)(d:Nat)(pg:List UInt32)(m:List Pr)(key:Bs)(h:c.pg w s)(ht:isT s.V d root pg m)(hw:∀x∈pg,s.P.now.written x=true)(hd:d<=40) :
  Ret Tryz.prog 23 #[c.pv,.int .u32 root.toNat,str key] w fun r w'=>r=.tuple #[str ((lK m key).getD []),.bool (ft m key),.int .i64 0]/\Chg [] w w':=by
 refine enter [6,7,8] Tryz.func23 rfl rfl (al rfl) (zSR (zaa rfl (za rfl (a8 (a6 (ae (zSR (zm rfl (a8 (a6 (aq (bf [0,1,2,13] (fun k vs w'=>∃(id:UInt32) (i:Nat) (pg':List UInt32) (m':List Pr),vs=[c.pv,.int .u32 id.toNat,str key,.int .i64 i]/\i+k=d/\Chg [] w w'/\isT s.V k id pg' m'/\(∀x∈pg',x∈pg)/\lK m' key=lK m key/\ft m' key=ft m key) (d) ?_ ?_))))))))))))
 ·exact⟨root,0,pg,m,rfl,by omega,Chg.refl _,ht,fun x hx=>hx,rfl,rfl⟩
 ·rintro k vs J w1 ⟨id,i,pg',m',rfl,hik,hc1,hit,hpg,hge,hha⟩;refine zSR (a7 rfl (bL rfl rfl) ?_);refine a8 (a6 (ae (bM rfl (by omega) ?_)));refine aw (a6 (ae (aq (zSR (zmm rfl ?_)))));have hob1:=m9 hit;obtain⟨n,pg0,hpq,hct,hV,hz,hf⟩:=hob1;have hg:=CT.good hct hz hf;have h1:=h.chg0 hc1;refine ah rfl C59 (uc c w1 s id n h1 (hw id (hpg id (by rw[hpq];simp))) hV hg) ?_;rintro _ w2 ⟨⟨v,rfl,hn2,hnew2⟩,hc2⟩;refine zm rfl (zx rfl (zx rfl (zaa rfl (a8 (a6 (ae (zSR (zmv rfl (bS rfl rfl) (a8 (a6 (aI rfl (fun h=>h rfl) ?_)))))))))));refine aw (a6 (ae (zSR (zm rfl (zn rfl rfl (a7 rfl (aa bQ rfl I4 rfl rfl) ?_))))));have hc02:=hc1.tr hc2;have hB:=hn2.blk;have hn:(∃ps,n=.leaf ps)∨∃ks ids,n=.br ks ids:=by cases n with|leaf ps=>exact .inl ⟨ps,rfl⟩|br ks ids=>exact .inr ⟨ks,ids,rfl⟩
  rcases hn with⟨ps,hn⟩|⟨ks,ids,hn⟩
  ·have hn3:NAt w2 v (.leaf ps):=hn▸hn2;have hB1:Blk w2 v.b [.bool true,v.p,v.k,v.i]:=hn3.blk;have hp:Sl w2 v.p ps:=hn3.p;rw[hn] at hct;have hob2:=CT.isLeaf hct;obtain⟨_,rfl,_,hok⟩:=hob2;have hfew:=m7 ps;have hz5:cP ps<=480:=by rw[hn] at hz;exact hz
   refine a7 rfl (aC uU4 rfl rfl (hB1.c rfl)) (a7 rfl (cA rfl) (a8 (a6 (aK (rfl) (zKR (zmm rfl (ah rfl C61 (zz w2 v ps key hn3 hok.2 (by omega)) ?_)))))));rintro _ w3 ⟨rfl,hc3⟩;refine zm rfl (zx rfl (zx rfl (zaa rfl (a8 (a6 (ae (zSR (zmv rfl (cA rfl) (a8 (a6 ?_))))))))));have hB3:=hB1.chg0 hc3;have hp3:=hp.mod0 hc3;refine bU rfl (fun hh=>?_) (fun hh=>?_)
   ·refine zSR (zaa rfl (za rfl (a8 (a6 (bC (aR (aZ (aR (aR (aZ (aR (dj ?_))))))))))));have hh:ft ps key=false:=by simpa using hh
    rw[<-hge,<-hha,hh,DJ hok.2 hh];exact⟨rfl,hc02.tr hc3⟩
   ·refine zKR (zm rfl (zn rfl rfl (a7 rfl (aa bQ rfl I33 rfl rfl) ?_)));have hh:ft ps key=true:=by simpa using hh
    refine a7 rfl (aC dc rfl rfl (hB3.c rfl)) (zm rfl (bF rfl (aU (dU ps key) dc I49 rfl (hp3) rfl rfl (by first|rfl|omega) (iu hh)) ?_));rintro _ ⟨bi,oi,rfl,hei,hbi⟩;refine a7 rfl (aa j1 rfl I9 rfl rfl) (a7 rfl (aC uU9 rfl rfl ((hp3.at hei (bX (iu hh))).cell (i:=1) rfl)) ?_);refine zaa rfl (za rfl (a8 (a6 (bC (aZ (aR (aR (aZ (aR (dj ?_))))))))));rw[<-hge,<-hha,hh,DK hok.2 hh];exact⟨rfl,hc02.tr hc3⟩
  ·have hn3:NAt w2 v (.br ks ids):=hn▸hn2;have hB1:Blk w2 v.b [.bool false,v.p,v.k,v.i]:=hn3.blk;have hi:Sl w2 v.i ids:=hn3.i;rw[hn] at hct hg;have hob3:=CT.isBr hct;obtain⟨q,rfl⟩:=hob3;have hgb:brOk ks ids:=hg;have hfew:=hgb.few;have hob4:=hct.hole key;obtain⟨K1,K2,A,t,B,rfl,hpl,rfl,rfl,rfl,hole,hit',hne,hbA,hbB,hq1,hq2⟩:=hob4;have hAl:A.length<(bu A++t.1::bu B).length:=by rw[aF,bT,bY];omega
   have hget:(bu A++t.1::bu B)[A.length]?=some t.1:=by rw[<-bT A];simp
   have hpl2:plc (K1++K2) key=A.length:=by rw[<-hpl,hole.la]
   refine a7 rfl (aC uU4 rfl rfl (hB1.c rfl)) (a7 rfl (cA rfl) (a8 (a6 (bh (rfl) (ae (aG bz (.pure 0 (.pure 1 (.pure 2 (.read 3 (.pure 4 (.pure 5 (.eff 6 [3] (.pure 7 (.read 8 (.pure 9 .nil)))))))))) (by kernel_rfl) ?_))))));refine ym rfl (yn rfl (yp rfl (fun _=>(aa bQ rfl I41 rfl rfl)) ?_));refine aH rfl rfl rfl aX rfl rfl (hB1.c rfl) (ym rfl (ym rfl (ycl rfl C60 (vD _ v (K1++K2) (bu A++t.1::bu B) key (hn3.chg0 (drw w2)) hgb.2.2.1.2 (by omega)) ?_)));rintro _ w3 ⟨rfl,hw3⟩;have hc3:Chg [] w2 w3:=hw3▸drw w2;refine⟨⟨(hB1.chg0 hc3).c rfl,trivial⟩,?_⟩;refine yex rfl (aU (plc (K1++K2) key) aX I25 rfl (hi.mod0 hc3) rfl rfl (by first|rfl|omega) (by rw[hpl2];exact hAl)) ?_;rintro _ ⟨bi,oi,rfl,hei,hbi⟩;refine aH rfl rfl rfl bw rfl rfl ((((hi.mod0 hc3).at hei (by rw[hpl2];exact hget)).c0 rfl)) ?_;refine ya rfl (aJ (a6 (aO (an (aE (a6 (ag (a7 rfl (aB rfl rfl (by omega)) (zm rfl ?_)))))))));refine a8 (a6 (aS (q) (bx (by omega) ?_)));have hsrt:=hct.pairs.2;have hpe:pg'=id::(pgT A++(t.2.1++pgT B)):=hpq;refine⟨t.1,i+1,t.2.1,t.2.2,au rfl (au rfl (au rfl (au (bH (by omega)) bK))),by omega,hc02.tr hc3,hit',fun x hx=>hpg x (by rw[hpe];simp[hx]),?_,?_⟩
   ·rw[<-hge,AF hbA hbB]
   ·rw[<-hha,AD hsrt hbA hbB]
def spV(s:Sp):Value:=.agg #[str s.lo,str s.hi,.bool s.fin]
theorem has_ok(w:World)(s:Sp)(key:Bs):Ret Tryz.prog 99 #[spV s,str key] w fun r w'=>r=.bool (s.has key)/\Chg [] w w':=by
 obtain⟨lo,hi,fin⟩:=s;refine enter [4] Tryz.func99 rfl rfl (al rfl) (zSR (aY rfl (cT (l:=[str lo,str hi,.bool fin]) rfl rfl) ?_));rintro _ w1 ⟨b,rfl,hn,hB,hc,hl⟩;refine za rfl (zNR (zmv rfl (aa iS rfl I9 rfl rfl) (a7 rfl (aC uU9 rfl rfl (hB.c rfl)) ?_)));have hd:ltB key lo=true∨ltB key lo=false:=by cases ltB key lo <;> simp
 have he:fin=true∨fin=false:=by cases fin <;> simp
 rcases hd with hd|hd
 ·refine a7 rfl (bJ (uF rfl rfl) (congrArg Value.bool (by rw[hd];rfl:(!ltB key lo)=false))) ?_;refine zm rfl (aD rfl rfl (aD rfl rfl (aD rfl rfl (aD rfl rfl (aD rfl rfl (aD rfl rfl (aD rfl rfl (aD rfl rfl (aD rfl rfl (a7 rfl (aN rfl) (za rfl (a8 (a6 (zrf ?_))))))))))))));exact⟨by rw[show Sp.has ⟨lo,hi,fin⟩ key=false by simp[Sp.has,hd]];rfl,hc⟩
 ·refine a7 rfl (bJ (uF rfl rfl) (congrArg Value.bool (by rw[hd];rfl:(!ltB key lo)=true))) ?_;refine zm rfl (aj rfl (a7 rfl (aa iS rfl I4 rfl rfl) (aj rfl ?_)));rcases he with rfl|rfl
  ·refine a7 rfl (aC uU4 rfl rfl (hB.c rfl)) (aj rfl (a7 rfl (cA rfl) (aj rfl (zm rfl (aj rfl (zm rfl (aj rfl (a7 rfl (aa iS rfl I9 rfl rfl) (aj rfl (a7 rfl (aC uU9 rfl rfl (hB.c rfl)) (aj rfl (a7 rfl (yG rfl rfl) (aj rfl (a7 rfl (aN rfl) (a7 rfl (aQ rfl) (za rfl (a8 (a6 (zrf ?_)))))))))))))))))));exact⟨by rw[show Sp.has ⟨lo,hi,true⟩ key=ltB key hi by simp[Sp.has,hd]];rfl,hc⟩
  ·refine a7 rfl (aC uU4 rfl rfl (hB.c rfl)) (aj rfl (a7 rfl (cA rfl) (aj rfl (zm rfl (aD rfl rfl (aD rfl rfl (aD rfl rfl (aD rfl rfl (aj rfl (a7 rfl (aQ rfl) (a7 rfl (aQ rfl) (za rfl (a8 (a6 (zrf ?_)))))))))))))));exact⟨by rw[show Sp.has ⟨lo,hi,false⟩ key=true by simp[Sp.has,hd]];rfl,hc⟩
theorem Hk(w:World)(s:Sp):Ret Tryz.prog 101 #[spV s] w fun r w'=>r=.bool s.emp/\Chg [] w w':=by
 obtain⟨lo,hi,fin⟩:=s;refine enter [2] Tryz.func101 rfl rfl (al rfl) (zSR (aY rfl (cT (l:=[str lo,str hi,.bool fin]) rfl rfl) ?_));rintro _ w1 ⟨b,rfl,hn,hB,hc,hl⟩;refine za rfl (zNR (a7 rfl (aa iS rfl I4 rfl rfl) ?_));cases fin with
 | true =>
  refine a7 rfl (aC uU4 rfl rfl (hB.c rfl)) (zm rfl (aj rfl (a7 rfl (aa iS rfl I9 rfl rfl) (aj rfl (a7 rfl (aC uU9 rfl rfl (hB.c rfl)) (aj rfl (a7 rfl (aa iS rfl I9 rfl rfl) (aj rfl (a7 rfl (aC uU9 rfl rfl (hB.c rfl)) (aj rfl (a7 rfl (uF rfl rfl) (a7 rfl (aQ rfl) (za rfl (a8 (a6 (zrf ?_))))))))))))))));exact⟨rfl,hc⟩
 | false =>
  refine a7 rfl (aC uU4 rfl rfl (hB.c rfl)) (zm rfl (aD rfl rfl (aD rfl rfl (aD rfl rfl (aD rfl rfl (aD rfl rfl (a7 rfl (aN rfl) (za rfl (a8 (a6 (zrf ?_)))))))))));exact⟨rfl,hc⟩
theorem kid_ok(w:World)(s:Sp)(v:NV)(ks:List Bs)(ids:List UInt32)(i:Nat)(h:NAt w v (.br ks ids))(hl:ids.length=ks.length+1)(hi:i<ids.length)(hm:ids.length<=10000):Ret Tryz.prog 100 #[spV s,v.ptr,.int .i64 i] w fun r w'=>r=spV (s.kid ks i)/\Chg [] w w':=by
 obtain⟨lo,hi',fin⟩:=s;obtain⟨vb,vp,vk,vi⟩:=v;have hBv:Blk w vb [.bool false,vp,vk,vi]:=h.blk;have hks:Sl w vk ks:=h.k;have hob1:∃p c,vk=.slice p ks.length c:=hks.form rfl;obtain⟨pk,ck,rfl⟩:=hob1;have hlt:=hBv.lt;refine fx [.cell 6 116] Tryz.func100 rfl rfl (al rfl) ?_;refine zSR (aY rfl (cT (l:=[str lo,str hi',.bool fin]) rfl rfl) ?_);rintro _ w1 ⟨b,rfl,hn,hB1,hc1,hl1⟩;refine aY rfl (dk (l:=[str [],str [],.bool false]) zM rfl rfl) ?_;rintro _ w2 ⟨rb,rfl,hnr,hR2,hc2,hl2⟩;refine a8 (a6 ?_);have hc02:=hc1.tr hc2;have hB2:=hB1.chg0 hc2;have hBv2:=hBv.chg0 hc02;have hks2:=hks.mod0 hc02;have hob2:∃x,x=(if 0<i then Av lo (ks.getD (i-1) []) else lo):=⟨_,rfl⟩
 obtain⟨lo2,hlo2⟩:=hob2;refine lq [] [7,8,9,10,11,12,13,14,15,16,17,18,19,20] (fun vs w'=>vs=[]/\Blk w' b [str lo2,str hi',.bool fin]/\Chg [b] w2 w') (by kernel_rfl) ?_ ?_
 ·refine zSR (zmv rfl (dt rfl rfl) ?_);refine a8 (a6 (az rfl (fun hi0=>?_) (fun hi0=>?_)))
  ·have hgi:i-1<ks.length:=by omega
   refine aG bz (.pure 0 (.read 1 (.pure 2 (.pure 3 (.pure 4 (.read 5 (.pure 6 (.pure 7 (.pure 8 (.read 9 (.pure 10 (.pure 11 (.eff 12 [] .nil))))))))))))) (by kernel_rfl) ?_;refine yp rfl (fun _=>(aa iS rfl I9 rfl rfl)) ?_;refine aH rfl rfl rfl uU9 rfl rfl (hB2.c rfl) (ym rfl (yn rfl (yp rfl (fun _=>(aa bQ rfl I70 rfl rfl)) ?_)));refine aH rfl rfl rfl cL rfl rfl (hBv2.c rfl) (ym rfl (yp rfl (fun _=>(bg rfl rfl (by omega))) ?_));refine yex rfl (aU (i-1) cL I9 rfl (hks2) rfl rfl (by first|rfl|omega) (hgi)) ?_;rintro _ ⟨bi,oi,rfl,hei,hbi⟩;refine aH rfl rfl rfl uU9 rfl rfl (((hks2.at hei (getD_some (d:=[]) hgi)).c0 rfl)) ?_;refine yp rfl (fun _=>(x_maxS rfl rfl)) ?_;refine yp rfl (fun _=>(aa iS rfl I9 rfl rfl)) ?_;refine dr rfl (bG I9 rfl rfl (hB2.chg0 (drw w2)) rfl rfl ((by decide:0<3)) rfl (rfl)) ?_;rintro w3 ⟨hB3,hc3,hs3⟩;refine⟨trivial,?_⟩;refine aJ (a6 ?_);have hlo3:lo2=Av lo (ks.getD (i-1) []):=by rw[hlo2,if_pos (by omega)]
   rw[hlo3];exact⟨rfl,hB3,((drw w2).mono (by simp)).tr hc3⟩
  ·refine aw (a6 ?_);have hlo3:lo2=lo:=by rw[hlo2,if_neg (by omega)]
   rw[hlo3];exact⟨rfl,hB2,Chg.refl' _ _⟩
 ·rintro vs J w3 ⟨rfl,hB3,hc3⟩;have hvb:vb≠b:=by omega
  have hBv3:=hBv2.chg hc3 (by simp;exact hvb);have hks3:Sl w3 (.slice pk ks.length ck) ks:=hks2.mod hc3 (fun x hx hh=>by simp at hh;have:=hks.lt x hx;omega);have hd:ks.length<=i∨(i<ks.length/\fin=false)∨(i<ks.length/\fin=true):=by
   rcases Nat.lt_or_ge i ks.length with g|g
   ·cases fin <;> simp[g]
   ·exact .inl g
  refine lq [] [21,22,23,24,25,26,27,28,29,30,31,32,33,34,35,36,37,38,39,40,41,42,43,44,45,46,47,48,49,50,51,52,53] (fun vs w'=>vs=[]/\Blk w' b [str (Sp.kid ⟨lo,hi',fin⟩ ks i).lo,str (Sp.kid ⟨lo,hi',fin⟩ ks i).hi,.bool (Sp.kid ⟨lo,hi',fin⟩ ks i).fin]/\Chg [b] w3 w') (by kernel_rfl) ?_ ?_
  ·refine ae (aG bz (.pure 0 (.pure 1 (.pure 2 (.pure 3 (.read 4 (.pure 5 (.pure 6 (.pure 7 (.pure 8 (.read 9 (.pure 10 (.pure 11 (.pure 12 (.pure 13 (.pure 14 (.read 15 (.pure 16 (.pure 17 (.read 18 (.pure 19 (.read 20 (.pure 21 (.pure 22 (.pure 23 .nil)))))))))))))))))))))))) (by kernel_rfl) ?_);refine ym rfl (ym rfl (yn rfl (yp rfl (fun _=>(aa bQ rfl I70 rfl rfl)) ?_)));refine aH rfl rfl rfl cL rfl rfl (hBv3.c rfl) (yp rfl (fun _=>(aA rfl cL)) ?_);rcases hd with hd|⟨hd,rfl⟩|⟨hd,rfl⟩
   ·refine yp rfl (fun _=>bJ (bL rfl rfl) (congrArg Value.bool (decide_eq_false (by omega)))) ?_;refine ym rfl (yno rfl (cg rfl rfl rfl (yno rfl (yno rfl (yno rfl (yno rfl (yno rfl (cg rfl rfl rfl (yno rfl (yno rfl (cg rfl rfl rfl (yno rfl (cg rfl rfl rfl (yno rfl (yno rfl (yp rfl (fun _=>(aN rfl)) ?_))))))))))))))));refine aJ (a6 (aK (rfl) (aw (a6 ?_))));have hk:Sp.kid ⟨lo,hi',fin⟩ ks i=⟨lo2,hi',fin⟩:=by unfold Sp.kid;rw[<-hlo2,if_neg (by simp;omega)]
    rw[hk];exact⟨rfl,hB3.chg0 (drw _),(drw _).mono (by simp)⟩
   ·refine yp rfl (fun _=>bJ (bL rfl rfl) (congrArg Value.bool (decide_eq_true (by omega)))) ?_;refine ym rfl (yp rfl (fun _=>(aa iS rfl I4 rfl rfl)) ?_);refine aH rfl rfl rfl uU4 rfl rfl (hB3.c rfl) (yp rfl (fun _=>(cA rfl)) ?_);refine ym rfl (yno rfl (yno rfl (yno rfl (cg rfl rfl rfl (yno rfl (yno rfl (cg rfl rfl rfl (yno rfl (cg rfl rfl rfl (yno rfl (yp rfl (fun _=>(aQ rfl)) ?_)))))))))));refine yp rfl (fun _=>(aQ rfl)) ?_;refine aJ (a6 (bh (rfl) (ag (zm rfl (zn rfl rfl (a7 rfl (aa bQ rfl I70 rfl rfl) (a7 rfl (aC cL rfl rfl ((hBv3.chg0 (drw w3)).c rfl)) (zm rfl (bF rfl (aU (i) cL I9 rfl (hks3.mod0 (drw w3)) rfl rfl (by first|rfl|omega) (hd)) ?_)))))))));rintro _ ⟨bj,oj,rfl,hej,hbj⟩;refine a7 rfl (aC uU9 rfl rfl ((((hks3.mod0 (drw w3)).at hej (getD_some (d:=[]) hd)).c0 rfl))) ?_;refine a7 rfl (aa iS rfl I9 rfl rfl) (aP rfl (bG I9 rfl rfl (hB3.chg0 (drw w3)) rfl rfl ((by decide:1<3)) rfl (rfl)) ?_);rintro w5 ⟨hB5,hc5,hs5⟩;refine a7 rfl (aa iS rfl I4 rfl rfl) ?_;replace hB5:Blk w5 b [str lo2,str (ks.getD i []),.bool false]:=hB5;refine aP rfl (bG I4 rfl rfl (hB5) rfl rfl ((by decide:2<3)) rfl (rfl)) ?_;rintro w6 ⟨hB6,hc6,hs6⟩;refine a8 (a6 ?_);replace hB6:Blk w6 b [str lo2,str (ks.getD i []),.bool true]:=hB6;have hk:Sp.kid ⟨lo,hi',false⟩ ks i=⟨lo2,ks.getD i [],true⟩:=by unfold Sp.kid;rw[<-hlo2,if_pos (⟨hd,.inl rfl⟩)]
    rw[hk];exact⟨rfl,hB6,(((drw w3).mono (by simp)).tr hc5).tr hc6⟩
   ·refine yp rfl (fun _=>bJ (bL rfl rfl) (congrArg Value.bool (decide_eq_true (by omega)))) ?_;refine ym rfl (yp rfl (fun _=>(aa iS rfl I4 rfl rfl)) ?_);refine aH rfl rfl rfl uU4 rfl rfl (hB3.c rfl) (yp rfl (fun _=>(cA rfl)) ?_);refine ym rfl (ym rfl (yn rfl (yp rfl (fun _=>(aa bQ rfl I70 rfl rfl)) ?_)));refine aH rfl rfl rfl cL rfl rfl (hBv3.c rfl) (ym rfl (yex rfl (aU (i) cL I9 rfl (hks3) rfl rfl (by first|rfl|omega) (hd)) ?_));rintro _ ⟨bi,oi,rfl,hei,hbi⟩;refine aH rfl rfl rfl uU9 rfl rfl (((hks3.at hei (getD_some (d:=[]) hd)).c0 rfl)) ?_;refine yp rfl (fun _=>(aa iS rfl I9 rfl rfl)) ?_;refine aH rfl rfl rfl uU9 rfl rfl (hB3.c rfl) (yp rfl (fun _=>(yG rfl rfl)) ?_);refine yp rfl (fun _=>(aN rfl)) ?_;refine yp rfl (fun _=>(aQ rfl)) ?_;refine aJ (a6 (bU rfl (fun hq=>?_) (fun hq=>?_)))
    ·refine ag (zm rfl (zn rfl rfl (a7 rfl (aa bQ rfl I70 rfl rfl) ?_)));refine a7 rfl (aC cL rfl rfl ((hBv3.chg0 (drw w3)).c rfl)) (zm rfl (bF rfl (aU (i) cL I9 rfl (hks3.mod0 (drw w3)) rfl rfl (by first|rfl|omega) (hd)) ?_));rintro _ ⟨bj,oj,rfl,hej,hbj⟩;refine a7 rfl (aC uU9 rfl rfl ((((hks3.mod0 (drw w3)).at hej (getD_some (d:=[]) hd)).c0 rfl))) ?_;refine a7 rfl (aa iS rfl I9 rfl rfl) (aP rfl (bG I9 rfl rfl (hB3.chg0 (drw w3)) rfl rfl ((by decide:1<3)) rfl (rfl)) ?_);rintro w5 ⟨hB5,hc5,hs5⟩;refine a7 rfl (aa iS rfl I4 rfl rfl) ?_;replace hB5:Blk w5 b [str lo2,str (ks.getD i []),.bool true]:=hB5;refine aP rfl (bG I4 rfl rfl (hB5) rfl rfl ((by decide:2<3)) rfl (rfl)) ?_;rintro w6 ⟨hB6,hc6,hs6⟩;refine a8 (a6 ?_);replace hB6:Blk w6 b [str lo2,str (ks.getD i []),.bool true]:=hB6;have hk:Sp.kid ⟨lo,hi',true⟩ ks i=⟨lo2,ks.getD i [],true⟩:=by unfold Sp.kid;rw[<-hlo2,if_pos (⟨hd,.inr hq⟩)]
     rw[hk];exact⟨rfl,hB6,(((drw w3).mono (by simp)).tr hc5).tr hc6⟩
    ·refine aw (a6 ?_);have hk:Sp.kid ⟨lo,hi',true⟩ ks i=⟨lo2,hi',true⟩:=by unfold Sp.kid;rw[<-hlo2,if_neg (by rintro⟨_,g|g⟩ <;> simp_all)]
     rw[hk];exact⟨rfl,hB3.chg0 (drw _),(drw _).mono (by simp)⟩
  ·rintro vs J w4 ⟨rfl,hB4,hc4⟩;refine ae (ag ?_);have hob3:∃K,K=Sp.kid ⟨lo,hi',fin⟩ ks i:=⟨_,rfl⟩
   obtain⟨K,hK⟩:=hob3;rw[<-hK] at hB4;have hAt:At w4 b 0 [str K.lo,str K.hi,.bool K.fin]:=hB4.at (by rfl)
   refine a7 rfl (cM iS rfl zM rfl hAt rfl) ?_;have hrb:rb≠b:=by omega
   have hR4:=(hR2.chg hc3 (by simp;exact hrb)).chg hc4 (by simp;exact hrb);refine aP rfl (cF (l:=[str K.lo,str K.hi,.bool K.fin]) zM rfl rfl hR4 rfl rfl (aM 3) (by simp[fD]) (cV rfl)) ?_;rintro w5 ⟨hR5,hc5,hs5⟩;refine a8 (a6 (bC (da ?_)));rw[<-hK];have hAr:At w5 rb 0 [str K.lo,str K.hi,.bool K.fin]:=hR5.at (by rfl)
   have k1:=hc1.1;have hc05:Chg [] w w5:=(hc02.t0 (hc3.tr hc4) (fun x hx=>by have:=List.mem_singleton.1 hx;omega)).t0 hc5 (fun x hx=>by have:=List.mem_singleton.1 hx;omega);exact⟨[spV K],⟨⟨⟨rb,0,none⟩,rfl,fj iS rfl zM hAr rfl⟩,trivial⟩,rfl,hc05⟩
theorem Hb{sp:Sp}{ks:List Bs}{ts:List Kd}{i:Nat}(h:Seps ks (msT ts))(hi:i<ts.length)(he:(sp.kid ks i).emp=true):fK sp ts[i].2.2=[]:=by
 have hm:(msT ts)[i]?=some ts[i].2.2:=by rw[msT,mh,bX hi];rfl
 obtain⟨h1,h2⟩:=h.kid hm;refine Gp (fun p hp=>?_);cases hh:sp.has p.1 with
 | false => rfl
 | true =>
  have:=Sp.kid_has (ks:=ks) (i:=i) hh (fun hi0=>h1 (i-1) (by omega) p hp) (fun hl=>h2 hl p hp)
  rw[Sp.emp_has he] at this;cases this
theorem DS(w:World)(s:Sp)(v:Bool)(h:s.emp=v):Ret Tryz.prog 101 #[spV s] w fun r w'=>r=.bool v/\Chg [] w w':=h▸Hk w s
theorem has_b(w:World)(s:Sp)(key:Bs)(v:Bool)(h:s.has key=v):Ret Tryz.prog 99 #[spV s,str key] w fun r w'=>r=.bool v/\Chg [] w w':=h▸has_ok w s key
structure Wk(c:TC)(w:World)(b mb:Nat)(s:TP)(sp:Sp)(most:Nat)(f:PgF)(out:List Pr)(ov:Value):Prop where
 pg:c.pg w s
 blk:Blk w b [c.pv,.map (some mb),str sp.lo,str sp.hi,.bool sp.fin,.int .i64 most,ov]
 set:SetAt w mb f
 own:Own w ov out
 b1:b≠mb
 b2:b∉ax ov
 b3:mb∉ax ov
 fr:∀x∈b::mb::ax ov,c.w0.heap.size<=x/\x∉c.F
def WF(b mb:Nat)(ov:Value):List Nat:=b::mb::ax ov
section
variable {c:TC}{w w':World}{b mb:Nat}{s:TP}{sp:Sp}{most:Nat}{f:PgF}{out:List Pr}{ov:Value}
theorem Wk.chg{S:List Nat}(h:Wk c w b mb s sp most f out ov)(hm:Chg S w w')(hn:∀x∈c.F++WF b mb ov,x∉S)(hs:∀x∈S,c.w0.heap.size<=x):Wk c w' b mb s sp most f out ov :=
 ⟨h.pg.chg hm (fun x hx=>hn x (cG _ hx)) hs,h.blk.chg hm (hn b (by simp[WF])),h.set.mod hm (hn mb (by simp[WF])),h.own.mod hm (fun x hx=>hn x (by simp[WF,hx])),h.b1,h.b2,h.b3,h.fr⟩
theorem Wk.chg0(h:Wk c w b mb s sp most f out ov)(hm:Chg [] w w'):Wk c w' b mb s sp most f out ov:=h.chg hm (by simp) (by simp)
theorem Wk.lt(h:Wk c w b mb s sp most f out ov):∀x∈WF b mb ov,x<w.heap.size:=by
 intro x hx;simp only[WF,bV] at hx;rcases hx with rfl|rfl|hx
 ·exact h.blk.lt
 ·exact h.set.lt
 ·exact h.own.sl.lt x hx
end
theorem Wk.app{c:TC}{w7 w8 w9:World}{b mb:Nat}{s:TP}{sp:Sp}{most:Nat}{f:PgF}{out out':List Pr}{ov v:Value}(h:Wk c w7 b mb s sp most f out ov)(hm:Chg (ax ov) w7 w8)(ho:Own w8 v out')(hin:In v (ax ov) w7.heap.size)(hB:Blk w9 b [c.pv,.map (some mb),str sp.lo,str sp.hi,.bool sp.fin,.int .i64 most,v])(hc:Chg [b] w8 w9):Wk c w9 b mb s sp most f out' v:=by
 have hlt:=h.lt;have hbv:b∉ax v:=fun hh=>(hin b hh).elim h.b2 (fun g=>by have:=hlt b (by simp[WF]);omega);have hw:=h.pg.1.2.1.1;have hbw:=h.fr b (by simp);refine⟨(h.pg.chg hm (fun x hx hh=>(h.fr x (by simp[hh])).2 hx) (fun x hx=>(h.fr x (by simp[hx])).1)).chg hc (fun x hx hh=>by simp at hh;subst hh;exact hbw.2 hx) (fun x hx=>by simp at hx;subst hx;exact hbw.1),hB,(h.set.mod hm h.b3).mod hc (by simp;exact h.b1.symm),ho.mod hc (fun x hx hh=>by simp at hh;subst hh;exact hbv hx),h.b1,hbv,fun hh=>(hin mb hh).elim h.b3 (fun g=>by have:=hlt mb (by simp[WF]);omega),fun x hx=>?_⟩;simp only[bV] at hx;rcases hx with rfl|rfl|hx
 ·exact hbw
 ·exact h.fr _ (by simp)
 ·rcases hin x hx with g|g
  ·exact h.fr x (by simp[g])
  ·exact⟨by omega,fun hh=>by have:=h.pg.lt x hh;omega⟩
theorem A8{sp:Sp}{out L:List Pr}{a:Pr}{most:Nat}(o3:List Pr)(h:o3=out++(fK sp L).take (most-out.length)):(sp.has a.1=true->o3.length<most->o3++[a]=out++(fK sp (L++[a])).take (most-out.length))/\((sp.has a.1=false∨most<=o3.length)->o3=out++(fK sp (L++[a])).take (most-out.length)):=by
 have hm:=xC out (fK sp L) (fK sp [a]) most;rw[<-h,<-qZ] at hm;refine⟨fun h1 h2=>?_,fun h1=>?_⟩
 ·have:fK sp [a]=[a]:=by simp[fK,h1]
  rw[this,bW (by simp;omega)] at hm;exact hm
 ·rcases h1 with h1|h1
  ·have:fK sp [a]=[]:=by simp[fK,h1]
   rw[this,List.take_nil,cy] at hm;exact hm
  ·rw[xD _ _ _ h1] at hm;exact hm
theorem CT.parts{V:UInt32->Bs}:∀{d:Nat} {n:Cn} {pg:List UInt32} {m:List Pr},CT V d n pg m->∃ts,cnI n=bu ts/\pg=pgT ts/\m=cnP n++prT ts/\(ts≠[]->(∃ks ids,n=.br ks ids)/\Seps (cnK n) (msT ts)/\(cnI n).length=(cnK n).length+1)/\∀t∈ts,∃q,d=q+1/\isT V q t.1 t.2.1 t.2.2/\t.2.2≠[]
 | 0, .leaf ps, _, m, ⟨h1, h2, _⟩ => ⟨[], rfl, h2, by rw [<- h1]; exact (cy _).symm, fun e => absurd rfl e, fun t ht => by simp at ht⟩
 | 0, .br _ _, _, _, h => h.elim
 | _ + 1, .leaf _, _, _, h => h.elim
 | d + 1, .br ks ids, _, _, ⟨ts, h1, h2, h3, h4, h5, h6⟩ => ⟨ts, h1, h3, h4, fun _ => ⟨⟨ks, ids, rfl⟩, h5, by show ids.length = ks.length + 1; rw [h1, bT]; have := h5.len; rw [msT, df] at this; exact this⟩, fun t ht => ⟨d, rfl, h6 t ht⟩⟩
theorem goes_ok(c:TC)(b mb:Nat)(s:TP)(sp:Sp)(most:Nat)(hmost:most<=1073741824):∀(d:Nat) (w:World) (id:UInt32) (pg:List UInt32) (m:List Pr) (deep:Nat) (f:PgF) (out:List Pr) (ov:Value),Wk c w b mb s sp most f out ov->isT s.V d id pg m->(∀x∈pg,s.P.now.written x=true)->deep+d<=40->(∀x∈pg,f x=false)->pg.Nodup->out.length+m.length<=10000 ->
  Ret Tryz.prog 58 #[.pointer (some ⟨b,0,none⟩),.int .u32 id.toNat,.int .i64 deep] w fun r w'=>r=.int .i64 0/\∃f' ov',Wk c w' b mb s sp most f' (out++(fK sp m).take (most-out.length)) ov'/\(∀x,f' x=true->f x=true∨x∈pg)/\In ov' (ax ov) w.heap.size/\Chg (WF b mb ov) w w':=by
 intro d
 induction d using Nat.strongRecOn with
 | _ d ih =>
  intro w id pg m deep f out ov h ht hw hd hfr hnd hol;obtain⟨n,pg0,rfl,hct,hV,hz,hf⟩:=m9 ht;have hg:=CT.good hct hz hf;obtain⟨st,hst,hsl⟩:=h.set;have hfid:=hfr id (by simp);have hlook:(cw id st).getD (.bool false)=.bool false:=by rw[SetAt.look hsl,hfid]
  have hB:=h.blk;have hlt:=h.lt;obtain⟨ts,hids,hpg,hmm,hsep,hkid⟩:=CT.parts hct;have hps:(cnP n).length<=200:=by
   cases n with
   | leaf ps => have := m7 ps; have q : cP ps <= 480 := hz; show ps.length <= 200; omega
   | br ks ids => exact eO _
  have hils:(cnI n).length<=200:=by
   cases n with
   | leaf ps => exact eO _
   | br ks ids => have hgb : brOk ks ids := hg; exact bq hgb.few.2 (by decide)
  refine enter [6] Tryz.func58 rfl rfl (al rfl) (zSR (za rfl (a8 (a6 (ae (zSR (zmv rfl (bJ (dt rfl rfl) (congrArg Value.bool (decide_eq_false (by omega)))) ?_)))))));refine zm rfl (aj rfl (zm rfl (aj rfl (zn rfl rfl (aj rfl (a7 rfl (aa lU rfl I114 rfl rfl) (aj rfl (a7 rfl (aC qR rfl rfl (hB.c rfl)) (aj rfl (zm rfl (aj rfl (a7 rfl (bJ (fe (k:=id) qR (dq bw) I4 rfl rfl rfl hst) hlook) ?_))))))))))));refine a7 rfl (aN rfl) (a8 (a6 (aK (rfl) (zKR (zm rfl (zn rfl rfl (a7 rfl (aa lU rfl I114 rfl rfl) (a7 rfl (aC qR rfl rfl (hB.c rfl)) (zm rfl (aP rfl (gm (k:=id) qR (dq bw) rfl rfl rfl hst) ?_))))))))));rintro w1 ⟨hm1,hc1,hs1⟩;refine zNR (zm rfl (zn rfl rfl (a7 rfl (aa lU rfl I24 rfl rfl) ?_)));have hmF:mb∉c.F:=(h.fr mb (by simp)).2;have hmw:c.w0.heap.size<=mb:=(h.fr mb (by simp)).1;have h1:Wk c w1 b mb s sp most (eU f id) out ov:=⟨h.pg.chg hc1 (fun x hx hh=>by simp at hh;subst hh;exact hmF hx) (fun x hx=>by simp at hx;subst hx;exact hmw),h.blk.chg hc1 (by simp;exact h.b1),⟨_,hm1,qX hsl id⟩,h.own.mod hc1 (fun x hx hh=>by simp at hh;subst hh;exact h.b3 hx),h.b1,h.b2,h.b3,h.fr⟩
  have hB1:=h1.blk;refine a7 rfl (aC nt rfl rfl (hB1.c rfl)) (zm rfl (ah rfl C59 (uc c w1 s id n h1.pg (hw id (by simp)) hV hg) ?_));rintro _ w2 ⟨⟨v,rfl,hn2,hnew2⟩,hc2⟩;refine zm rfl (zx rfl (zx rfl (zaa rfl (a8 (a6 (ae (zSR (zmv rfl (bS rfl rfl) (a8 (a6 (aI rfl (fun h=>h rfl) ?_)))))))))));refine aw (a6 (ae (zSR (zm rfl (zn rfl rfl (a7 rfl (aa bQ rfl I33 rfl rfl) ?_))))));have h2:=h1.chg0 hc2;obtain⟨vb,vp,vk,vi⟩:=v;have hBv:=hn2.blk;have hpS:Sl w2 vp (cnP n):=hn2.p;have hob1:∃p c,vp=.slice p (cnP n).length c:=hpS.form rfl;obtain⟨pp,cp,rfl⟩:=hob1;have hiS:Sl w2 vi (cnI n):=hn2.i;have hob2:∃p c,vi=.slice p (cnI n).length c:=hiS.form rfl;obtain⟨pi,ci,rfl⟩:=hob2;have hBv:Blk w2 vb [.bool (cnL n),.slice pp (cnP n).length cp,vk,.slice pi (cnI n).length ci]:=hBv;refine a7 rfl (aC dc rfl rfl (hBv.c rfl)) (a7 rfl (aA rfl dc) (zm rfl (a8 (a6 (aq ?_)))));have hk1:=hc1.1;have hk2:=hc2.1;have hlt2:=h2.lt;have hnF:∀x∈NV.F ⟨vb,.slice pp (cnP n).length cp,vk,.slice pi (cnI n).length ci⟩,x∉c.F++WF b mb ov:=fun x hx hh=>by
   have q1:=hnew2 x hx;rcases List.mem_append.1 hh with g|g
   ·have:=h.pg.lt x g;omega
   ·have:=hlt x g;omega
  have hc02:Chg (WF b mb ov) w w2:=(hc1.mono (by simp[WF])).tr0 hc2;refine bf [0,2,7,44,45,46] (fun k vs w'=>∃(i:Nat) (ov':Value),vs=[.pointer (some ⟨b,0,none⟩),.int .i64 deep,.pointer (some ⟨vb,0,none⟩),.slice pp (cnP n).length cp,.int .i64 (cnP n).length,.int .i64 i]/\i+k=(cnP n).length/\Wk c w' b mb s sp most (eU f id) (out++(fK sp ((cnP n).take i)).take (most-out.length)) ov'/\In ov' (ax ov) w2.heap.size/\w2.heap.size<=w'.heap.size/\Chg (WF b mb ov) w w'/\NAt w' ⟨vb,.slice pp (cnP n).length cp,vk,.slice pi (cnI n).length ci⟩ n) ((cnP n).length) ?_ ?_
  ·refine⟨0,ov,rfl,by omega,?_,fun x hx=>.inl hx,aM _,hc02,hn2⟩;rw[mC,show fK sp []=[] from rfl,List.take_nil,cy];exact h2
  ·rintro k vs J w3 ⟨i,ov3,rfl,hik,h3,hin3,hk23,hc3,hn3⟩;refine zSR (a7 rfl (bL rfl rfl) ?_);refine a8 (a6 (ae (az rfl (fun hil=>?_) (fun hil=>?_))))
   ·refine aw (a6 (ae (aq (ae (ag ?_)))));have hob3:∃q,k=q+1:=⟨k-1,by omega⟩
    obtain⟨k,rfl⟩:=hob3;have hob4:∃a,(cnP n)[i]?=some a:=⟨_,bX (by omega)⟩
    obtain⟨a,ha⟩:=hob4;have hp3:Sl w3 (.slice pp (cnP n).length cp) (cnP n):=hn3.p;refine bF rfl (aU (i) dc I49 rfl (hp3) rfl rfl (by first|rfl|omega) (by omega)) ?_;rintro _ ⟨bi,oi,rfl,hei,hbi⟩;refine a7 rfl (cM j1 rfl I49 rfl (hp3.at hei ha) rfl) (aY rfl (dk (l:=[str [],str []]) I49 rfl rfl) ?_);rintro _ w4 ⟨tb,rfl,hnt,hT4,hc4,hl4⟩;refine aP rfl (cF (l:=[str a.1,str a.2]) I49 rfl rfl hT4 rfl rfl (aM 2) (by simp[fD]) (cV rfl)) ?_;rintro w5 ⟨hT5,hc5,hs5⟩;refine a8 (a6 (ae ?_));have hc35:=hc4.t1 hc5 hnt;have h5:=h3.chg0 hc35;have hn5:=hn3.chg0 hc35;have hAt:At w5 b 2 [str sp.lo,str sp.hi,.bool sp.fin]:=h5.blk.at (l:=[str sp.lo,str sp.hi,.bool sp.fin]) (off:=2) rfl;refine aG bz (.pure 0 (.pure 1 (.pure 2 (.read 3 (.pure 4 (.read 5 (.eff 6 [] (.pure 7 (.pure 8 (.pure 9 (.pure 10 (.read 11 (.pure 12 (.pure 13 (.pure 14 (.pure 15 (.read 16 (.pure 17 (.pure 18 .nil))))))))))))))))))) (by kernel_rfl) ?_;refine ym rfl (yn rfl (yp rfl (fun _=>(aa lU rfl zM rfl rfl)) ?_));refine dm rfl rfl rfl (fun w'=>At w' b 2 [str sp.lo,str sp.hi,.bool sp.fin]) (hAt) (fun w1 h1=>cM iS rfl zM rfl h1 rfl) ?_;refine yp rfl (fun _=>(aa j1 rfl I9 rfl rfl)) ?_;refine aH rfl rfl rfl uU9 rfl rfl (hT5.c rfl) ?_;have hd:sp.has a.1=true∨sp.has a.1=false:=by cases sp.has a.1 <;> simp
    rcases hd with hd|hd
    ·refine ycl rfl C99 (has_b _ sp a.1 true hd) ?_;rintro _ w6 ⟨rfl,hc6⟩;refine⟨trivial,?_⟩;have hc56:Chg [] w5 w6:=(drw w5).tr hc6;have h6:=h5.chg0 hc56;have hn6:=hn5.chg0 hc56;have hT6:=hT5.chg0 hc56;have hTa:At w6 tb 0 [str a.1,str a.2]:=hT6.at (by rfl)
     have hup:(cnP n).take (i+1)=(cnP n).take i++[a]:=by
      have hob5:=List.getElem?_eq_some_iff.1 ha;obtain⟨q1,q2⟩:=hob5;rw[<-fG q1,q2]
     have hob6:∃o3,o3=out++(fK sp ((cnP n).take i)).take (most-out.length):=⟨_,rfl⟩
     obtain⟨o3,ho3⟩:=hob6;rw[<-ho3] at h6;have hone:=A8 (a:=a) o3 ho3;rw[<-hup] at hone;have hob7:=h6.own.sl.form rfl;obtain⟨po,co,hov⟩:=hob7;subst hov;have hB6:=h6.blk;have hin6:In (.slice po o3.length co) (ax ov) w2.heap.size:=hin3;have hk26:w2.heap.size<=w6.heap.size:=bq hk23 (bq hc35.1 hc56.1);have hc06:Chg (WF b mb ov) w w6:=(hc3.tr0 hc35).tr0 hc56;refine ym rfl (ym rfl (yn rfl (yp rfl (fun _=>(aa lU rfl I33 rfl rfl)) ?_)));refine aH rfl rfl rfl dc rfl rfl (hB6.c rfl) (yp rfl (fun _=>(aA rfl dc)) ?_);refine ym rfl (yn rfl (yp rfl (fun _=>(aa lU rfl I3 rfl rfl)) ?_));refine aH rfl rfl rfl uU3 rfl rfl (hB6.c rfl) (yp rfl (fun _=>(bL rfl rfl)) ?_);refine yp rfl (fun _=>(aQ rfl)) ?_;refine aJ (a6 (az rfl (fun hroom=>?_) (fun hroom=>?_)))
     ·have ho3l:o3.length<=10000:=by
       have q1:=congrArg List.length ho3;rw[aF,bA] at q1;have q2:(fK sp ((cnP n).take i)).length<=((cnP n).take i).length:=uj _ _;rw[bA] at q2;have q3:m.length=(cnP n).length+(prT ts).length:=by rw[hmm,aF]
       omega
      refine aG bz (.pure 0 (.pure 1 (.pure 2 (.pure 3 (.read 4 (.read 5 (.eff 6 [4] (.eff 7 [] (.pure 8 (.pure 9 (.eff 10 [] .nil))))))))))) (by kernel_rfl) ?_;refine ym rfl (ym rfl (yn rfl (yp rfl (fun _=>(aa lU rfl I33 rfl rfl)) ?_)));refine aH rfl rfl rfl dc rfl rfl (hB6.c rfl) (dm rfl rfl rfl (fun w'=>At w' tb 0 [str a.1,str a.2]) (hTa) (fun w1 h1=>cM j1 rfl I49 rfl h1 rfl) ?_);refine eC rfl (nE a dc I49 rfl rfl rfl rfl rfl (by decide)) ?_;rintro _ w7 ⟨b7,rfl,hB7,hn7,hc7,hl7⟩;have hc7:Chg [] w6 w7:=(drw w6).tr hc7;refine⟨⟨(hB6.chg0 hc7).c rfl,trivial⟩,?_⟩;have h7:=h6.chg0 hc7;refine eC rfl (Dh dc dc I49 (.inr ⟨_,rfl⟩) rfl rfl rfl (by decide) (h7.own) ((Blk.sl1 hB7).src) rfl rfl (by simp;omega)) ?_;rintro v8 w8 h8;refine⟨trivial,?_⟩;refine yn rfl (yp rfl (fun _=>(aa lU rfl I33 rfl rfl)) ?_);have hB8:=h7.blk.chg h8.mod h7.b2;have hown8:=h8.own;have hin8:=h8.inn;have hmod8:=h8.mod;have hob8:=hown8.sl.form rfl;obtain⟨p8,c8,rfl⟩:=hob8;refine dr rfl (bG I33 rfl rfl (hB8) rfl rfl ((by decide:6<7)) rfl (rfl)) ?_;rintro w9 ⟨hB9,hc9,hs9⟩;refine⟨trivial,?_⟩;refine aJ (ay (a6 (ag (a7 rfl (aB rfl rfl (by omega)) (zm rfl ?_)))));refine a8 (a6 (aS (k) (bx (by omega) ?_)));have h9:=h7.app hmod8 hown8 hin8 hB9 hc9;have k7:=hc7.1;have k8:=hmod8.1;have k9:=hc9.1;have hin9:In (.slice p8 (o3++[a]).length c8) (ax ov) w2.heap.size:=fun x hx=>by
       rcases hin8 x hx with g|g
       ·exact hin6 x g
       ·exact .inr (by omega)
      have hc09:Chg (WF b mb ov) w w9:=((hc06.tr0 hc7).trans hmod8 (fun _ hx _=>hx) (fun x hx hl=>(hin6 x hx).elim (fun g=>by simp[WF,g]) (fun g=>by omega))).tr (hc9.mono (by simp[WF]));have hn9:=((hn6.chg0 hc7).chg hmod8 (fun x hx hh=>by
       rcases hin6 x hh with g|g
       ·exact hnF x hx (cj _ (by simp[WF,g]))
       ·have:=hn2.lt x hx;omega)).chg hc9 (fun x hx hh=>by simp at hh;subst hh;exact hnF _ hx (cj _ (by simp[WF])))
      have hO:=hone.1 hd (by omega);rw[hO] at h9 hin9;exact⟨i+1,_,au rfl (au rfl (au rfl (au rfl (au rfl (au (bH (by omega)) bK))))),by omega,h9,hin9,by omega,hc09,hn9⟩
     ·refine aw (ay (a6 (ag (a7 rfl (aB rfl rfl (by omega)) (zm rfl ?_)))));refine a8 (a6 (aS (k) (bx (by omega) ?_)));exact⟨i+1,_,au rfl (au rfl (au rfl (au rfl (au rfl (au (bH (by omega)) bK))))),by omega,(hone.2 (.inr (by omega)))▸h6,hin6,hk26,hc06,hn6⟩
    ·refine ycl rfl C99 (has_b _ sp a.1 false hd) ?_;rintro _ w6 ⟨rfl,hc6⟩;refine⟨trivial,?_⟩;have hc56:Chg [] w5 w6:=(drw w5).tr hc6;have h6:=h5.chg0 hc56;have hn6:=hn5.chg0 hc56;have hT6:=hT5.chg0 hc56;have hTa:At w6 tb 0 [str a.1,str a.2]:=hT6.at (by rfl)
     have hup:(cnP n).take (i+1)=(cnP n).take i++[a]:=by
      have hob9:=List.getElem?_eq_some_iff.1 ha;obtain⟨q1,q2⟩:=hob9;rw[<-fG q1,q2]
     have hob10:∃o3,o3=out++(fK sp ((cnP n).take i)).take (most-out.length):=⟨_,rfl⟩
     obtain⟨o3,ho3⟩:=hob10;rw[<-ho3] at h6;have hone:=A8 (a:=a) o3 ho3;rw[<-hup] at hone;have hob11:=h6.own.sl.form rfl;obtain⟨po,co,hov⟩:=hob11;subst hov;have hB6:=h6.blk;have hin6:In (.slice po o3.length co) (ax ov) w2.heap.size:=hin3;have hk26:w2.heap.size<=w6.heap.size:=bq hk23 (bq hc35.1 hc56.1);have hc06:Chg (WF b mb ov) w w6:=(hc3.tr0 hc35).tr0 hc56;refine ym rfl (yno rfl (yno rfl (yno rfl (cg rfl rfl rfl (yno rfl (yno rfl (yno rfl (yno rfl (cg rfl rfl rfl (yno rfl (yp rfl (fun _=>(aN rfl)) ?_)))))))))));refine aJ (a6 (aK (rfl) (aw (ay (a6 (ag (a7 rfl (aB rfl rfl (by omega)) (zm rfl ?_))))))));refine a8 (a6 (aS (k) (bx (by omega) ?_)));exact⟨i+1,_,au rfl (au rfl (au rfl (au rfl (au rfl (au (bH (by omega)) bK))))),by omega,(hone.2 (.inl hd))▸h6,hin6,hk26,hc06,hn6⟩
   ·refine aO (an (an (aE (a6 (ae (zSR (zm rfl (zn rfl rfl (a7 rfl (aa bQ rfl I41 rfl rfl) ?_)))))))));rw[bW (l:=cnP n) (i:=i) (by omega)] at h3;have hBv3:Blk w3 vb [.bool (cnL n),.slice pp (cnP n).length cp,vk,.slice pi (cnI n).length ci]:=hn3.blk;have hil2:(cnI n).length=ts.length:=by rw[hids,bT]
    have hlm:(prT ts).length<=m.length:=by rw[hmm,aF];omega
    refine a7 rfl (aC aX rfl rfl (hBv3.c rfl)) (a7 rfl (aA rfl aX) (zm rfl (a8 (a6 (aq (bf [0,2,7,83,84,85] (fun k vs w'=>∃(i:Nat) (ov':Value) (f':PgF),vs=[.pointer (some ⟨b,0,none⟩),.int .i64 deep,.pointer (some ⟨vb,0,none⟩),.slice pi (cnI n).length ci,.int .i64 (cnI n).length,.int .i64 i]/\i+k=(cnI n).length/\Wk c w' b mb s sp most f' (out++(fK sp (cnP n++prT (ts.take i))).take (most-out.length)) ov'/\(∀x,f' x=true->f x=true∨x=id∨x∈pgT (ts.take i))/\In ov' (ax ov) w2.heap.size/\w2.heap.size<=w'.heap.size/\Chg (WF b mb ov) w w'/\NAt w' ⟨vb,.slice pp (cnP n).length cp,vk,.slice pi (cnI n).length ci⟩ n) ((cnI n).length) ?_ ?_))))))
    ·refine⟨0,ov3,eU f id,rfl,by omega,?_,fun x hx=>?_,hin3,hk23,hc3,hn3⟩
     ·rw[mC,show prT []=[] from rfl,cy];exact h3
     ·unfold eU at hx;simp only[mD,decide_eq_true_eq] at hx;rcases hx with g|g
      ·exact .inr (.inl g)
      ·exact .inl g
    ·rintro k vs J w4 ⟨i,ov4,f4,rfl,hik,h4,hf4,hin4,hk24,hc4,hn4⟩;refine zSR (a7 rfl (bL rfl rfl) ?_);refine a8 (a6 (ae (az rfl (fun hil=>?_) (fun hil=>?_))))
     ·refine aw (a6 (ae (aq (zSR (zm rfl ?_)))));have hob12:∃q,k=q+1:=⟨k-1,by omega⟩
      obtain⟨k,rfl⟩:=hob12;have hit:i<ts.length:=by omega
      have hne:ts≠[]:=fun e=>by rw[e] at hit;simp at hit
      have hob13:=hsep hne;obtain⟨⟨ks,ids,hn⟩,hsp,hkl⟩:=hob13;have hob14:=hkid ts[i] (lD hit);obtain⟨q,hdq,hkt,hkm⟩:=hob14;have hn4':NAt w4 ⟨vb,.slice pp (cnP n).length cp,vk,.slice pi (cnI n).length ci⟩ (.br (cnK n) (cnI n)):=by
       have:n=.br (cnK n) (cnI n):=by rw[hn];rfl
       rw[<-this];exact hn4
      have hiS4:Sl w4 (.slice pi (cnI n).length ci) (cnI n):=hn4.i;have hget:(cnI n)[i]?=some ts[i].1:=by rw[hids,bu,mh,bX hit];rfl
      have hAt:At w4 b 2 [str sp.lo,str sp.hi,.bool sp.fin]:=h4.blk.at (l:=[str sp.lo,str sp.hi,.bool sp.fin]) (off:=2) rfl;refine bF rfl (aU (i) aX I25 rfl (hiS4) rfl rfl (by first|rfl|omega) (by omega)) ?_;rintro _ ⟨bi,oi,rfl,hei,hbi⟩;refine a7 rfl (aC bw rfl rfl (((hiS4.at hei hget).c0 rfl))) (zaa rfl (a8 (a6 (ae (ae (aG bz (.pure 0 (.pure 1 (.pure 2 (.read 3 (.pure 4 (.pure 5 (.eff 6 [] (.eff 7 [] (.pure 8 (.pure 9 (.pure 10 (.pure 11 (.read 12 (.pure 13 (.pure 14 (.pure 15 (.pure 16 (.read 17 (.pure 18 (.pure 19 .nil)))))))))))))))))))) (by kernel_rfl) ?_))))));refine ym rfl (yn rfl (yp rfl (fun _=>(aa lU rfl zM rfl rfl)) ?_));refine dm rfl rfl rfl (fun w'=>At w' b 2 [str sp.lo,str sp.hi,.bool sp.fin]) (hAt) (fun w1 h1=>cM iS rfl zM rfl h1 rfl) ?_;refine ym rfl (ym rfl (ycl rfl C100 (kid_ok _ sp ⟨vb,.slice pp (cnP n).length cp,vk,.slice pi (cnI n).length ci⟩ (cnK n) (cnI n) i (hn4'.chg0 (drw w4)) hkl (by omega) (by omega)) ?_));rintro _ w5 ⟨rfl,hc5⟩;refine⟨trivial,?_⟩;have hob15:∃K,K=sp.kid (cnK n) i:=⟨_,rfl⟩
      obtain⟨K,hK⟩:=hob15;have hd:K.emp=true∨K.emp=false:=by cases K.emp <;> simp
      have hc45:Chg [] w4 w5:=(drw w4).tr hc5;have hob16:∃o4,o4=out++(fK sp (cnP n++prT (ts.take i))).take (most-out.length):=⟨_,rfl⟩
      obtain⟨o4,ho4⟩:=hob16;rw[<-ho4] at h4;have hob17:=h4.own.sl.form rfl;obtain⟨po,co,hov⟩:=hob17;subst hov;have htk:prT (ts.take (i+1))=prT (ts.take i)++ts[i].2.2:=by rw[<-fG hit,fT,fN];simp[prT]
      have hmore:=xC out (fK sp (cnP n++prT (ts.take i))) (fK sp ts[i].2.2) most;rw[<-ho4,<-qZ,bO,<-htk] at hmore;have hfup:∀{f':PgF},(∀x,f' x=true->f4 x=true∨x∈ts[i].2.1)->∀x,f' x=true->f x=true∨x=id∨x∈pgT (ts.take (i+1)):=fun {f'} hf' x hx=>by
       have htp:pgT (ts.take (i+1))=pgT (ts.take i)++ts[i].2.1:=by rw[<-fG hit,eI,eE];simp[pgT]
       rw[htp];rcases hf' x hx with g|g
       ·rcases hf4 x g with g|g|g
        ·exact .inl g
        ·exact .inr (.inl g)
        ·exact .inr (.inr (cG _ g))
       ·exact .inr (.inr (cj _ g))
      rcases hd with hd|hd
      ·refine ycl rfl C101 (DS _ (sp.kid (cnK n) i) true (hK▸hd)) ?_;rintro _ w6 ⟨rfl,hc6⟩;refine⟨trivial,?_⟩;refine ym rfl (yno rfl (yno rfl (yno rfl (cg rfl rfl rfl (yno rfl (yno rfl (yno rfl (yno rfl (cg rfl rfl rfl (yno rfl (yp rfl (fun _=>(aQ rfl)) ?_)))))))))));refine aJ (a6 (bh (rfl) (aO (an (aE (a6 (ag (a7 rfl (aB rfl rfl (by omega)) (zm rfl ?_)))))))));refine a8 (a6 (aS (k) (bx (by omega) ?_)));have hsk:=Hb hsp hit (hK▸hd);rw[hsk,List.take_nil,cy] at hmore;rw[hmore] at h4 hin4;have hc46:=hc45.tr hc6;exact⟨i+1,_,f4,au rfl (au rfl (au rfl (au rfl (au rfl (au (bH (by omega)) bK))))),by omega,h4.chg0 hc46,hfup (fun x hx=>.inl hx),hin4,bq hk24 hc46.1,hc4.tr0 hc46,hn4.chg0 hc46⟩
      ·refine ycl rfl C101 (DS _ (sp.kid (cnK n) i) false (hK▸hd)) ?_;rintro _ w6 ⟨rfl,hc6⟩;refine⟨trivial,?_⟩;refine ym rfl (ym rfl (yn rfl (yp rfl (fun _=>(aa lU rfl I33 rfl rfl)) ?_)));have hc46:=hc45.tr hc6;have h6:=h4.chg0 hc46;have hn6:=hn4.chg0 hc46;have hB6:=h6.blk;refine aH rfl rfl rfl dc rfl rfl (hB6.c rfl) (yp rfl (fun _=>(aA rfl dc)) ?_);refine ym rfl (yn rfl (yp rfl (fun _=>(aa lU rfl I3 rfl rfl)) ?_));refine aH rfl rfl rfl uU3 rfl rfl (hB6.c rfl) (yp rfl (fun _=>(fH rfl rfl)) ?_);refine yp rfl (fun _=>(aN rfl)) ?_;refine aJ (a6 (az rfl (fun hfull=>?_) (fun hfull=>?_)))
       ·refine aO (an (aE (a6 (ag (a7 rfl (aB rfl rfl (by omega)) (zm rfl ?_))))));refine a8 (a6 (aS (k) (bx (by omega) ?_)));rw[xD _ _ _ (by omega)] at hmore;rw[hmore] at h6 hin4;exact⟨i+1,_,f4,au rfl (au rfl (au rfl (au rfl (au rfl (au (bH (by omega)) bK))))),by omega,h6,hfup (fun x hx=>.inl hx),hin4,bq hk24 hc46.1,hc4.tr0 hc46,hn6⟩
       ·refine zKR (zmm rfl (zmv rfl (aB rfl rfl (by omega)) ?_));have hsplit:pgT ts=pgT (ts.take i)++(ts[i].2.1++pgT (ts.drop (i+1))):=by
         rw[<-eE,<-eI,<-jt hit,eW]
        have hsub:∀x∈ts[i].2.1,x∈pg0:=fun x hx=>by rw[hpg,hsplit];simp[hx]
        have hnd0:pg0.Nodup:=(List.nodup_cons.1 hnd).2;rw[hpg,hsplit,jY] at hnd0;have hndi:=(List.nodup_append.1 hnd0.2.1).1;have hfri:∀x∈ts[i].2.1,f4 x=false:=fun x hx=>by
         cases hfx:f4 x with
         | false => rfl
         | true =>
          rcases hf4 x hfx with g|g|g
          ·rw[hfr x (bN _ (hsub x hx))] at g;cases g
          ·rw[g] at hx;exact absurd (hsub id hx) (List.nodup_cons.1 hnd).1
          ·exact absurd rfl (hnd0.2.2 x g x (cG _ hx))
        have hoi:o4.length+ts[i].2.2.length<=10000:=by
         have q1:=congrArg List.length ho4;rw[aF,bA] at q1;have q2:(fK sp (cnP n++prT (ts.take i))).length<=(cnP n++prT (ts.take i)).length:=uj _ _;have q3:prT ts=prT (ts.take i)++(ts[i].2.2++prT (ts.drop (i+1))):=by rw[<-fN,<-fT,<-jt hit,eW]
         have q4:=congrArg List.length q3;have q5:=congrArg List.length hmm;simp only[aF] at q2 q4 q5;omega
        refine ah rfl C58 (ih q (by omega) _ ts[i].1 ts[i].2.1 ts[i].2.2 (deep+1) f4 o4 _ h6 hkt (fun x hx=>hw x (bN _ (hsub x hx))) (by omega) hfri hndi hoi) ?_;rintro _ w7 ⟨rfl,f7,ov7,h7,hf7,hin7,hc7⟩;refine za rfl (zNR (zmv rfl (bS rfl rfl) (a8 (a6 (aI rfl (fun h=>h rfl) ?_)))));refine aw (ay (a6 (ag (a7 rfl (aB rfl rfl (by omega)) (zm rfl ?_)))));refine a8 (a6 (aS (k) (bx (by omega) ?_)));rw[hmore] at h7;have k46:=hc46.1;have k7:=hc7.1;exact⟨i+1,_,f7,au rfl (au rfl (au rfl (au rfl (au rfl (au (bH (by omega)) bK))))),by omega,h7,hfup hf7,fun x hx=>by
         rcases hin7 x hx with g|g
         ·exact hin4 x g
         ·exact .inr (by omega),by omega,(hc4.tr0 hc46).trans hc7 (fun _ hx _=>hx) (fun x hx hl=>by
          simp only[WF,bV] at hx ⊢;rcases hx with g|g|g
          ·exact .inl g
          ·exact .inr (.inl g)
          ·exact(hin4 x g).elim (fun g=>.inr (.inr g)) (fun g=>by omega)),hn6.chg hc7 (fun x hx hh=>by
          simp only[WF,bV] at hh;rcases hh with g|g|g
          ·exact hnF x hx (cj _ (by simp[WF,g]))
          ·exact hnF x hx (cj _ (by simp[WF,g]))
          ·rcases hin4 x g with g|g
           ·exact hnF x hx (cj _ (by simp[WF,g]))
           ·have:=hn2.lt x hx;omega)⟩
     ·refine aO (an (an (aE (a6 (zSR (za rfl (a8 (a6 (zrf ?_)))))))));have hT:ts.take i=ts:=bW (by omega);rw[hT,<-hmm] at h4;rw[hT] at hf4;refine⟨rfl,f4,ov4,h4,fun x hx=>?_,fun x hx=>(hin4 x hx).imp (fun g=>g) (fun g=>by omega),hc4⟩;rcases hf4 x hx with g|g|g
      ·exact .inl g
      ·exact .inr (by simp[g])
      ·exact .inr (by rw[hpg];simp[g])
theorem HE(c:TC)(w:World)(s:TP)(root:UInt32)(d:Nat)(pg:List UInt32)(m:List Pr)(lo hi:Bs)(most:Nat)(hm0:0<most)(hm1:most<=1073741824)(h:c.pg w s)(ht:isT s.V d root pg m)(hw:∀x∈pg,s.P.now.written x=true)(hd:d<=40)(hnd:pg.Nodup)(hml:m.length<=10000) :
  Ret Tryz.prog 21 #[c.pv,.int .u32 root.toNat,str lo,str hi,.int .i64 most] w fun r w'=>(∃ov,r=.tuple #[ov,.int .i64 0]/\Own w' ov ((fK ⟨lo,hi,decide (hi≠[])⟩ m).take most)/\In ov [] w.heap.size)/\Chg [] w w':=by
 refine enter [10,11] Tryz.func21 rfl rfl (al rfl) (zSR (zaa rfl (a8 (a6 (ae (zSR (zmv rfl (gd rfl rfl) (a8 (a6 (aI rfl (by omega) ?_))))))))));refine zKR (zm rfl (aY rfl (nD UInt32) ?_));rintro _ w1 ⟨mb,rfl,hnm,hM1,hc1,hl1⟩;refine zmm rfl (zmv rfl (uA rfl rfl) (a7 rfl (bP iS zM rfl (zs:=[str [],str [],.bool false]) rfl rfl (bI rfl rfl rfl (al rfl) (bI rfl rfl rfl (al rfl) (bI rfl rfl rfl (al rfl) (dP (cs':=[str lo,str hi,.bool (decide (hi≠[]))]) rfl))))) ?_));refine zmv rfl (bP lU I118 rfl (zs:=[.pointer none,.map none,str [],str [],.bool false,.int .i64 0,.slice none 0 0]) rfl rfl (bI rfl rfl rfl (al rfl) (bI rfl rfl rfl (al rfl) (bI rfl rfl rfl (al rfl) (bI rfl rfl rfl (al rfl) (dP (cs':=[c.pv,.map (some mb),str lo,str hi,.bool (decide (hi≠[])),.int .i64 most,.slice none 0 0]) rfl)))))) ?_;refine aY rfl (cT (l:=[c.pv,.map (some mb),str lo,str hi,.bool (decide (hi≠[])),.int .i64 most,.slice none 0 0]) rfl rfl) ?_;rintro _ w2 ⟨b,rfl,hnb,hB2,hc2,hl2⟩;refine za rfl (a8 (a6 (ae (zSR (zmm rfl ?_)))));have hc02:=hc1.tr hc2;have k1:=hc1.1;have hw0:=h.1.2.1.1;have hk2:Wk c w2 b mb s ⟨lo,hi,decide (hi≠[])⟩ most lJ [] (.slice none 0 0):=⟨h.chg0 hc02,hB2,(SetAt.nil hM1).chg0 hc2,Own.nil _,by omega,by simp[ax],by simp[ax],fun x hx=>by
  have hx:x∈[b,mb]:=hx;simp only[bV,List.mem_nil_iff,or_false] at hx;rcases hx with rfl|rfl
  ·exact⟨by omega,fun hh=>by have:=h.lt _ hh;omega⟩
  ·exact⟨by omega,fun hh=>by have:=h.lt _ hh;omega⟩⟩
 refine ah rfl C58 (goes_ok c b mb s ⟨lo,hi,decide (hi≠[])⟩ most hm1 d w2 root pg m 0 lJ [] (.slice none 0 0) hk2 ht hw (by omega) (fun x _=>rfl) hnd (by simpa using hml)) ?_;rintro _ w3 ⟨rfl,f3,ov3,hk3,hf3,hin3,hc3⟩;refine za rfl (zNR (zmv rfl (bS rfl rfl) (a8 (a6 (aI rfl (fun h=>h rfl) ?_)))));refine zKR (zm rfl (zn rfl rfl (a7 rfl (aa lU rfl I33 rfl rfl) ?_)));have hB3:=hk3.blk;refine a7 rfl (aC dc rfl rfl (hB3.c rfl)) (zaa rfl (a8 (a6 (zrf ?_))));have hown:=hk3.own;rw[dA,kO,Nat.sub_zero] at hown;refine⟨⟨ov3,rfl,hown,fun x hx=>?_⟩,hc02.t0 hc3 (fun x hx=>?_)⟩
 ·rcases hin3 x hx with g|g
  ·simp[ax] at g
  ·exact .inr (by have:=hc02.1;omega)
 ·have hx:x∈[b,mb]:=hx;simp only[bV,List.mem_nil_iff,or_false] at hx;rcases hx with rfl|rfl <;> omega
theorem TLen_ok(c:TC)(w:World)(s:TP)(root:UInt32)(d:Nat)(pg:List UInt32)(m:List Pr)(h:c.pg w s)(ht:isT s.V d root pg m)(hw:∀x∈pg,s.P.now.written x=true)(hd:d<=40)(hnd:pg.Nodup)(hml:m.length<=10000) :
  Ret Tryz.prog 27 #[c.pv,.int .u32 root.toNat] w fun r w'=>r=.tuple #[.int .i64 m.length,.int .i64 0]/\Chg [] w w':=by
 refine enter [4,5] Tryz.func27 rfl rfl (al rfl) (zSR (zaa rfl (zNR (zmm rfl (ah rfl C21 (HE c w s root d pg m [] [] 1073741824 (by decide) (aM _) h ht hw hd hnd hml) ?_)))));rintro _ w1 ⟨⟨ov,rfl,ho,hi⟩,hc1⟩;have hall:(fK ⟨[],[],decide (([]:Bs)≠[])⟩ m).take 1073741824=m:=by
  have:fK ⟨[],[],decide (([]:Bs)≠[])⟩ m=m:=fW (fun p _=>by simp[Sp.has,zp])
  rw[this,bW (by omega)]
 rw[hall] at ho;have hob1:=ho.sl.form rfl;obtain⟨p1,c1,rfl⟩:=hob1;refine zm rfl (zx rfl (zx rfl (zaa rfl (zNR (zmv rfl (aA rfl dc) (zma rfl (za rfl (a8 (a6 (zrf ?_))))))))));exact⟨rfl,hc1⟩
structure Ck(c:TC)(w:World)(b mb:Nat)(s:TP)(f:PgF)(dp:Int):Prop where
 pg:c.pg w s
 blk:Blk w b [c.pv,.map (some mb),.int .i64 dp]
 set:SetAt w mb f
 b1:b≠mb
 fr:∀x∈[b,mb],c.w0.heap.size<=x/\x∉c.F
theorem Ck.chg0{c:TC}{w w':World}{b mb:Nat}{s:TP}{f:PgF}{dp:Int}(h:Ck c w b mb s f dp)(hm:Chg [] w w'):Ck c w' b mb s f dp:=⟨h.pg.chg0 hm,h.blk.chg0 hm,h.set.chg0 hm,h.b1,h.fr⟩
end Go.Proofs.YtpbfapbajmdlkaaGreat
namespace Go.Proofs.YtpbfapbajmdlkaaGreat
open Go Go.Sac Go.RowKit Go.Maps Go.Sort
set_option maxRecDepth 100000 in
set_option maxHeartbeats 1000000 in
theorem wV {H : Type} (F : Fence) (n : Nat) (h10 : F.fn 116) (hro : F.round = none) (hn : 1 ≤ n) (l Bm b nn : Nat) (D0 : DataW H) {R : Value → Option (DataW H × List MemPlace)} (J : List Int → World → Prop)
    (hY : ∀ pre x W, J pre W → pre.length < Maps.size D0 → YieldAt F (n - 1) Tryz.prog l #[(kE .u32) x] W fun e W' => e = .returned (.bool true) ∧ J (pre ++ [x]) W' ∧ KeepsWalks W W')
    (W : World) (hJ : AbidesFrom W.heap.size J) (hm : W.cell? ⟨Bm, 0, none⟩ = some (.map (some b))) (hown : W.ownsMap Tryz.prog 25 R b nn D0) (h0 : J [] W) :
    CallsIn F n Tryz.prog 116 #[.func (.yield l) #[] #[], .pointer (some ⟨Bm, 0, none⟩)] W fun e W' => (∃ v, e = .returned v) ∧ ∃ ss : List Int, ss.Perm (intKeys D0) ∧ J ss W' := by
  refine callsIn_of_wp Tryz.func116 rfl h10 ?_ hro
  simp only [Tryz.ntmps116, List.size_toArray, List.length_cons, List.length_nil, Nat.reduceAdd, Nat.reduceSub, Array.replicate_succ, Array.replicate_zero, List.push_toArray, List.append_toArray, List.nil_append, List.cons_append]
  gi_wp2_with (first
    | (gi_at_range; refine wpListIn_range_own _ rfl _ 114 rfl 25 4 (int_keyed bw) qR _ b nn _ rfl hown ?_; intro w0 hrg0 hg0 hs0)
    | gi_in)
  go_frame
  gi_loopw [3] (fun _ wr => ∃ (left : Lit → Bool) (cnt : Nat) (ss : List Int), wr.ranges Tryz.prog 25 R b W.heap.size nn D0 left cnt ∧ ss.length + cnt ≤ Maps.size D0 ∧ Came .u32 D0 left ss ∧ J ss wr)
    (fun _ wr => wr.rangeLeft b W.heap.size)
  case atStart =>
    exact ⟨_, _, [], hrg0, by simp, Came.start .u32 D0, hJ [] W w0 none h0 hg0 (fun r e => by cases e)⟩
  case round =>
    obtain ⟨left, cnt, ss, hrg, hcs, hC, hJs⟩ := hrel
    gi_wp2_with (first
      | (gi_at_next; refine wpListIn_next_ranges _ rfl _ rfl 25 (int_keyed bw) R (kE .u32) id (fun key kl hk => by obtain ⟨x, hx, _⟩ := Maps.keyOf_int_inv bw hk; exact ⟨x, hx⟩) (fun v _ _ => ⟨v, rfl⟩) b W.heap.size nn _ _ _ rfl hrg ?_ ?_)
      | gi_in)
    ·
      intro hc0 hl0
      gi_wp2
      go_end0
      exact ⟨⟨_, rfl⟩, ss, hC.perm hown (int_keyed bw) bw hl0, hJs⟩
    ·
      intro x c kl yd yp w2 cnt2 hkey hlk hv hat hrg2 hlt hg2 hs2 hen
      obtain ⟨x', ex, rfl, _⟩ := Maps.keyOf_int_inv bw hkey
      obtain rfl : x = x' := AP ex
      have hJ2 : J ss w2 := hJ ss wr w2 (some W.heap.size) hJs hg2 (fun r e => by cases e; exact ⟨Nat.le_refl _, hrg.iter_walk⟩)
      obtain ⟨fn, tmps, assign, body, hy, hR⟩ := hY ss x w2 hJ2 (by omega)
      clear hs2
      gi_wp2
      refine hR.mono ?_
      rintro e W3 ⟨rfl, hJ3, hk3⟩
      gi_wp2
      have hrg3 := hrg2.of_walks hk3
      go_roundw
      case rel => exact ⟨_, cnt2, ss ++ [x], hrg3, by simp; omega, hC.step hlk hat, hJ3⟩
      case measure => rw [hrg3.left_eq, hrg.left_eq]; exact hlt
theorem vP {H : Type} (F : Fence) (n : Nat) (h10 : F.fn 116) (hro : F.round = none) (hn : 1 ≤ n) (Bm b nn : Nat) (D0 : DataW H) {R : Value → Option (DataW H × List MemPlace)} (w : World) (hBm : Bm < w.heap.size)
    (hm : w.cell? ⟨Bm, 0, none⟩ = some (.map (some b))) (hown : w.ownsMap Tryz.prog 25 R b nn D0) :
    SeqGives F n Tryz.prog 116 #[.pointer (some ⟨Bm, 0, none⟩)] (kE .u32) (fun ss => ss.Perm (intKeys D0)) (Maps.size D0) w := fun l J W hW hJ hY h0 => by
  have hown' : W.ownsMap Tryz.prog 25 R b nn D0 := by
    have hbl := hown.lt
    obtain ⟨es, clock, hb, Ft, hs, hD⟩ := hown
    exact ⟨es, clock, (hW.block b hbl).trans hb, Ft, hs, hD⟩
  exact wV F n h10 hro hn l Bm b nn D0 J hY W hJ ((hW.cell (p := ⟨Bm, 0, none⟩) hBm).trans hm) hown' h0
def mT : Code := (Code.region 2 #[{ dst := some 5, op := Op.assign (Operand.tmp 7), type := 25, pos := "iter.go:51", after := #[], guard := none }] false)
def qg : Code := (Code.block 1 (Code.region 3 #[{ dst := some 8, op := Op.load 41 (Operand.tmp 2), type := 41, pos := "iter.go:52", after := #[], guard := none }, { dst := some 9, op := Op.move (Operand.tmp 5), type := 25, pos := "iter.go:52", after := #[], guard := none }, { dst := some 10, op := Op.buildSlice 41 1 #[(0, Operand.tmp 9)], type := 41, pos := "iter.go:52", after := #[{ on := 1, ground := Ground.data }], guard := none }, { dst := some 11, op := Op.call { callee := Callee.builtin Builtin.append, args := #[Operand.tmp 8, Operand.tmp 10], argTypes := #[41, 41] }, type := 41, pos := "iter.go:52", after := #[{ on := 0, ground := Ground.data }, { on := 2, ground := Ground.data }], guard := none }, { dst := none, op := Op.store 41 (Operand.tmp 2) (Operand.tmp 11), type := 0, pos := "iter.go:52", after := #[{ on := 3, ground := Ground.data }, { on := 3, ground := Ground.chain }, { on := 0, ground := Ground.phase }, { on := 1, ground := Ground.phase }, { on := 2, ground := Ground.phase }, { on := 3, ground := Ground.phase }], guard := none }] false))
def gi (fn : FuncId) (sv : Value) (Bs D : Nat) (st : LoopState) (pend : Option Code) : Loop :=
  { state := st, pending := pend, fn, tmps := #[.slice none 0 0, sv, .pointer (some ⟨Bs, 0, none⟩), undef, .slice none 0 0, undef, sv, undef, undef, undef, undef, undef, undef], params := #[7], assign := mT, body := qg, defers := D }
structure k32_ApAt (w0 : World) (fn : FuncId) (sv : Value) (Bs l D : Nat) (ss : List Int) (W : World) : Prop where
  box : ∃ v, W.heap[Bs]? = some (.cells #[v] 41 (0, 0)) ∧ W.ownsRow w0.heap.size 25 1 v ss.length (ss.map (kE .u32)) ∧ (v = .slice none 0 0 ↔ ss = [])
  L : W.heap[l]? = some (.loop (gi fn sv Bs D .ready none))
  K : W.heap[D]? = some (.deferred (some []))
  below : Below w0.heap.size w0 W
theorem vG {W W' : World} {row : Option Nat} {base : Nat} {e : TypeId} {size : Nat} {v : Value} {k : Nat} {xs : List Value} (h : W.ownsRow base e size v k xs) (hg : W.grownBy W' row)
    (hrow : ∀ r, row = some r → ∃ o : Obj, W.heap[r]? = some o ∧ o.isWalk = true) : W'.ownsRow base e size v k xs := by
  refine h.kept hg ?_
  rcases h.2 with ⟨rfl, _⟩ | ⟨g, cap, cur, rfl, _, hgb, _⟩
  · exact .inl rfl
  · refine .inr fun e' => ?_
    obtain ⟨o, ho, hw⟩ := hrow g (by simpa [Value.ownBlock] using e'.symm)
    rw [hgb] at ho; cases ho; cases hw
theorem wW (w0 : World) (fn : FuncId) (sv : Value) (Bs l D B : Nat) (hB : w0.heap.size ≤ B) : AbidesFrom B (k32_ApAt w0 fn sv Bs l D) := fun s W W' row h hg hrow => by
  have hrow' : ∀ r, row = some r → ∃ o : Obj, W.heap[r]? = some o ∧ o.isWalk = true := fun r e => (hrow r e).2
  obtain ⟨v, hv, hr, hn⟩ := h.box
  exact ⟨⟨v, (grownBy_keeps hg hrow' hv rfl).trans hv, vG hr hg hrow', hn⟩, (grownBy_keeps hg hrow' h.L rfl).trans h.L, (grownBy_keeps hg hrow' h.K rfl).trans h.K,
    h.below.grown hg h.below.size (fun k e => Nat.le_trans hB (hrow k e).1)⟩
theorem gj (W : World) (l : Nat) (o : Obj) : W.grownBy (W.putObj l o) (some l) :=
  ⟨rfl, rfl, rfl, by simp, fun k _ hk => World.putObj_heap_other (fun e => hk (by rw [e]))⟩
theorem sJ (W : World) (b : Nat) (v : Value) : W.grownBy (W.setCell ⟨b, 0, none⟩ v) (some b) :=
  ⟨rfl, rfl, rfl, (KeepsWalks.setCell W _ v).size, fun k _ hk => Below.heap_setCell _ _ _ k (fun e => hk (by rw [e]))⟩
theorem jx {W : World} {base : Nat} {e : TypeId} {size : Nat} {v : Value} {k : Nat} {xs : List Value} (h : W.ownsRow base e size v k xs) {j : Nat} {o : Obj} (hj : W.heap[j]? = some o) (hno : ∀ cur, o ≠ .cells cur e (0, 0)) :
    v.ownBlock = none ∨ v.ownBlock ≠ some j := by
  rcases h.2 with ⟨rfl, _⟩ | ⟨g, cap, cur, rfl, _, hgb, _⟩
  · exact .inl rfl
  · refine .inr fun e' => ?_
    have : g = j := by simpa [Value.ownBlock] using e'
    subst this; rw [hgb] at hj; cases hj; exact hno cur rfl
theorem oc {W : World} {B : Nat} {v : Value} {t : TypeId} (h : W.heap[B]? = some (.cells #[v] t (0, 0))) : W.cell? ⟨B, 0, none⟩ = some v ∧ W.frozen? ⟨B, 0, none⟩ = false := by
  constructor <;> simp [World.cell?, World.frozen?, h]
theorem sI {W : World} {B : Nat} {v : Value} {t : TypeId} (v' : Value) (h : W.heap[B]? = some (.cells #[v] t (0, 0))) : (W.setCell ⟨B, 0, none⟩ v').heap[B]? = some (.cells #[v'] t (0, 0)) := by
  obtain ⟨hlt, hk⟩ := Array.getElem?_eq_some_iff.1 h
  show (W.heap.modify B _)[B]? = _
  rw [Array.getElem?_eq_getElem (by rw [Array.size_modify]; exact hlt), Array.getElem_modify_self, hk]
  rfl
theorem su {W : World} {base : Nat} {e : TypeId} {size : Nat} {v : Value} {k : Nat} {xs : List Value} (h : W.ownsRow base e size v k xs) : ∀ (j : Nat) (o : Obj), v.ownBlock = some j → W.heap[j]? = some o → o.isWalk = false := by
  intro j o hj ho
  rcases h.2 with ⟨rfl, _⟩ | ⟨g, cap, cur, rfl, _, hgb, _⟩
  · simp [Value.ownBlock] at hj
  · have : g = j := by simpa [Value.ownBlock] using hj
    subst this; rw [hgb] at ho; cases ho; rfl
theorem Cu : (Tryz.prog.info? 25).map (fun i => (i.zero, i.size, i.bytes)) = some (some (.int .u32 0), 1, 4) := by kernel_rfl
set_option maxRecDepth 100000 in
set_option maxHeartbeats 2000000 in
theorem Ay (F : Fence) (m : Nat) (w0 : World) (fn : FuncId) (hfn : F.fn fn) (sv : Value) (Bs l D : Nat) (hBl : Bs ≠ l) (hDl : D ≠ l) (hDB : D ≠ Bs) (h0B : w0.heap.size ≤ Bs) (h0l : w0.heap.size ≤ l)
    (N : Nat) (hN : N ≤ maxLen) (hNb : N * 4 ≤ 140737488355328) (ss : List Int) (x : Int) (W : World) (h : k32_ApAt w0 fn sv Bs l D ss W) (hlen : ss.length < N) :
    YieldAt F m Tryz.prog l #[(kE .u32) x] W fun e W' => e = .returned (.bool true) ∧ k32_ApAt w0 fn sv Bs l D (ss ++ [x]) W' ∧ KeepsWalks W W' := by
  obtain ⟨i0, hi, hz0, hz1, hz2⟩ := info_parts Cu
  obtain ⟨v, hv, hrow, _⟩ := h.box
  refine ⟨fn, #[.slice none 0 0, sv, .pointer (some ⟨Bs, 0, none⟩), undef, .slice none 0 0, undef, sv, (kE .u32) x, undef, undef, undef, undef, undef], mT, qg, by simpa [gi] using run_yield (P := Tryz.prog) (args := #[(kE .u32) x]) h.L rfl, roundIn_of_wpIn hfn ?_⟩
  have hl : l < W.heap.size := (Array.getElem?_eq_some_iff.1 h.L).1
  have hbr := run_beginRound (P := Tryz.prog) h.L rfl
  obtain ⟨W2, hW2⟩ : ∃ W2, W.putObj l (.loop { gi fn sv Bs D .ready none with state := .busy }) = W2 := ⟨_, rfl⟩
  rw [hW2] at hbr
  have hg2 : W.grownBy W2 (some l) := by rw [← hW2]; exact gj _ _ _
  have hk2 : KeepsWalks W W2 := by rw [← hW2]; exact KeepsWalks.putObj _ h.L rfl
  have hv2 : W2.heap[Bs]? = some (.cells #[v] 41 (0, 0)) := by rw [← hW2]; exact (World.putObj_heap_other hBl).trans hv
  have hK2 : W2.heap[D]? = some (.deferred (some [])) := by rw [← hW2]; exact (World.putObj_heap_other hDl).trans h.K
  have hL2 : W2.heap[l]? = some (.loop { gi fn sv Bs D .ready none with state := .busy }) := by rw [← hW2]; exact World.putObj_heap_same hl
  have hrow2 : W2.ownsRow w0.heap.size 25 1 v ss.length (ss.map (kE .u32)) := hrow.kept hg2 (jx hrow h.L (fun cur e => by cases e))
  have hb2 : Below w0.heap.size w0 W2 := h.below.grown hg2 h.below.size (fun k e => by cases e; exact h0l)
  obtain ⟨hc2, hf2⟩ := oc hv2
  have hBlt : Bs < W2.heap.size := (Array.getElem?_eq_some_iff.1 hv2).1
  have hl2 : l < W2.heap.size := (Array.getElem?_eq_some_iff.1 hL2).1
  have hDlt : D < W2.heap.size := (Array.getElem?_eq_some_iff.1 hK2).1
  have ne_of : ∀ {j : Nat} {o : Obj}, W2.heap[j]? = some o → (∀ cur, o ≠ .cells cur 25 (0, 0)) → some j ≠ v.ownBlock := fun hj hno => by
    rcases jx hrow2 hj hno with e | e
    · rw [e]; simp
    · exact fun e' => e e'.symm
  clear hW2
  unfold mT
  gi_wp2_with (rw [Oper.semAt_eq _ _ _ (fun c h => by cases h)]; go_simp; try go_bits)
  unfold qg
  gi_wp2_with (first
    | (gi_at_builtin; refine wpListIn_append_own _ rfl _ _ 41 rfl w0.heap.size 25 i0 (.int .u32 0) 1 4 aX hi hz0 hz1 hz2 rfl (by decide) _ _ _ rfl (hrow2.alloc _) ⟨W2.heap.size, 0, none⟩ 1 1 [(kE .u32) x] rfl rfl (cell_one_new _ _ _) (by simp [Value.oneCell']) (by omega) (by omega) (by have := hb2.size; simp; omega) ?_; intro v' w3 hown' hg3 hnil3
       have hv3 : w3.heap[Bs]? = some (.cells #[v] 41 (0, 0)) := (hg3.block Bs (by simp; omega) (ne_of hv2 (fun cur e => by cases e))).trans ((Below.heap_alloc _ _ Bs hBlt).trans hv2)
       obtain ⟨hc3, hf3⟩ := oc hv3
       obtain ⟨g', cap', cur', rfl, hbase', hgb', hr1, hr2, hr3, hr4⟩ : ∃ g' cap' cur', v' = .slice (some ⟨g', 0, none⟩) (ss.length + 1) cap' ∧ w0.heap.size ≤ g' ∧ w3.heap[g']? = some (.cells cur' 25 (0, 0)) ∧ ss.length + 1 ≤ cap' ∧ cap' ≤ maxLen ∧ cur'.size = cap' * 1 ∧ cur'.toList.take ((ss.length + 1) * 1) = ss.map (kE .u32) ++ [(kE .u32) x] := by
         rcases hown'.2 with ⟨_, h0⟩ | h'
         · exact absurd h0 (by omega)
         · exact h'
       go_frame)
    | (rw [Oper.semAt_eq _ _ _ (fun c h => by cases h)]; go_simp; try go_bits))
  have hg3' : (W2.alloc (.cells #[(kE .u32) x] 25)).grownBy w3 v.ownBlock := hg3
  have hL3 : w3.heap[l]? = some (.loop { gi fn sv Bs D .ready none with state := .busy }) := (hg3'.block l (by simp; omega) (ne_of hL2 (fun cur e => by cases e))).trans ((Below.heap_alloc _ _ l hl2).trans hL2)
  have hK3 : w3.heap[D]? = some (.deferred (some [])) := (hg3'.block D (by simp; omega) (ne_of hK2 (fun cur e => by cases e))).trans ((Below.heap_alloc _ _ D hDlt).trans hK2)
  obtain ⟨w4, hw4⟩ : ∃ w4, w3.setCell ⟨Bs, 0, none⟩ (.slice (some ⟨g', 0, none⟩) (ss.length + 1) cap') = w4 := ⟨_, rfl⟩
  rw [hw4]
  have hg4 : w3.grownBy w4 (some Bs) := by rw [← hw4]; exact sJ _ _ _
  have hv4 : w4.heap[Bs]? = some (.cells #[.slice (some ⟨g', 0, none⟩) (ss.length + 1) cap'] 41 (0, 0)) := by rw [← hw4]; exact sI _ hv3
  have hL4 : w4.heap[l]? = some (.loop { gi fn sv Bs D .ready none with state := .busy }) := (hg4.block l (Array.getElem?_eq_some_iff.1 hL3).1 (fun e => hBl (by cases e; rfl))).trans hL3
  have hK4 : w4.heap[D]? = some (.deferred (some [])) := (hg4.block D (Array.getElem?_eq_some_iff.1 hK3).1 (fun e => hDB (by cases e; rfl))).trans hK3
  have hrow4 := hown'.kept hg4 (jx hown' hv3 (fun cur e => by cases e))
  have hl4 : l < w4.heap.size := (Array.getElem?_eq_some_iff.1 hL4).1
  have hb3 : Below w0.heap.size w0 w3 := (hb2.alloc hb2.size _).grown hg3' (by have := hb2.size; simp; omega) (fun k e => (hrow2.lt k e).1)
  have hb4 : Below w0.heap.size w0 w4 := hb3.grown hg4 hb3.size (fun k e => by cases e; exact h0B)
  have hk4 : KeepsWalks W w4 := ((hk2.trans (KeepsWalks.alloc _ _)).trans (KeepsWalks.of_grownBy hg3' (su (hrow2.alloc _)))).trans (by rw [← hw4]; exact KeepsWalks.setCell _ _ _)
  clear hw4
  refine ⟨_, _, run_endRound none hL4, rfl, ⟨⟨_, (World.putObj_heap_other hBl).trans hv4, ?_, by simp⟩, World.putObj_heap_same hl4, (World.putObj_heap_other hDl).trans hK4, hb4.grown (gj _ _ _) hb4.size (fun k e => by cases e; exact h0l)⟩, hk4.trans (KeepsWalks.putObj _ hL4 rfl)⟩
  have := hrow4.kept (gj w4 l (.loop { { gi fn sv Bs D .ready none with state := .busy } with state := if (none : Option Code).isNone then .ready else .done, pending := none })) (jx hrow4 hL4 (fun cur e => by cases e))
  simpa using this
set_option maxRecDepth 100000 in
set_option maxHeartbeats 2000000 in
theorem sH (F : Fence) (n : Nat) (h11 : F.fn 173) (hro : F.round = none) (hn : 2 ≤ n) (g : Nat) (lb : Array Value) (hFg : F.fn g) (eg : ∀ args w, (callFunc g args).run Tryz.prog w = .ok (.enter g args) w)
    (S : List Int → Prop) (N : Nat) (hN : N ≤ maxLen) (hNb : N * 4 ≤ 140737488355328) (w : World) (hseq : SeqGives F (n - 1) Tryz.prog g lb (kE .u32) S N w) :
    CallsIn F n Tryz.prog 173 #[.slice none 0 0, .func (.func g) #[] lb] w fun e w' => ∃ (v : Value) (ss : List Int), e = .returned v ∧ S ss ∧ w'.ownsRow w.heap.size 25 1 v ss.length (ss.map (kE .u32)) ∧ (v = .slice none 0 0 ↔ ss = []) ∧ Below w.heap.size w w' := by
  have h1 : 1 ≤ n := by omega
  refine callsIn_of_wp_marks Tryz.func173 rfl h11 ?_ hro
  simp only [Tryz.ntmps173, List.size_toArray, List.length_cons, List.length_nil, Nat.reduceAdd, Nat.reduceSub, Array.replicate_succ, Array.replicate_zero, List.push_toArray, List.append_toArray, List.nil_append, List.cons_append]
  gi_wp2
  refine wpIn_rangeFunc ?_
  intro fn hfn
  rw [hro]
  obtain ⟨W0, hW0⟩ : ∃ W0, w.alloc (.cells #[.slice none 0 0] 41) = W0 := ⟨_, rfl⟩
  have hs0 : W0.heap.size = w.heap.size + 1 := by rw [← hW0]; simp
  have hv0 : W0.heap[w.heap.size]? = some (.cells #[.slice none 0 0] 41 (0, 0)) := by rw [← hW0]; exact World.alloc_heap_new w _
  have hb0 : Below w.heap.size w W0 := by rw [← hW0]; exact (Below.refl _ w).alloc (Nat.le_refl _) _
  rw [hW0]
  obtain ⟨W1, hW1⟩ : ∃ W1, (W0.alloc (.deferred (some []))).alloc (.loop (gi fn (.func (.func g) #[] lb) w.heap.size W0.heap.size .ready none)) = W1 := ⟨_, rfl⟩
  have hold : ∀ k, k < W0.heap.size → W1.heap[k]? = W0.heap[k]? := fun k hk => by
    rw [← hW1]; exact (Below.heap_alloc _ _ k (by simp; omega)).trans (Below.heap_alloc _ _ k hk)
  have hb1 : Below w.heap.size w W1 := by rw [← hW1]; exact (hb0.alloc hb0.size _).alloc (by have := hb0.size; simp; omega) _
  have hs1 : W1.heap.size = W0.heap.size + 2 := by rw [← hW1]; simp
  have hM : k32_ApAt w fn (.func (.func g) #[] lb) w.heap.size (W0.heap.size + 1) W0.heap.size [] W1 :=
    ⟨⟨_, (hold w.heap.size (by omega)).trans hv0, ⟨rfl, .inl ⟨rfl, rfl⟩⟩, by simp⟩,
     by rw [← hW1]; have := World.alloc_heap_new (W0.alloc (.deferred (some []))) (.loop (gi fn (.func (.func g) #[] lb) w.heap.size W0.heap.size .ready none)); rwa [World.size_alloc] at this,
     by rw [← hW1]; exact (Below.heap_alloc _ _ _ (by simp)).trans (World.alloc_heap_new W0 _), hb1⟩
  refine ⟨W0.heap.size + 1, [{ target := .collected W0.heap.size, args := #[] }], W1, { target := .fn (.func g) lb, args := #[.func (.yield (W0.heap.size + 1)) #[] #[]] }, W1, g,
    #[.func (.yield (W0.heap.size + 1)) #[] #[]] ++ lb, W1, ?_, ?_, ?_, ?_, fun _ => h1, ?_⟩
  · rw [← hW1]; exact run_enterLoop_outer _ _ _ _ _
  · simp [resolve, go_sem]
  · intro f' hf'; simp [Target.leads] at hf'; subst hf'; exact hFg
  · simp [invoke, go_sem, eg]
  · refine (hseq (W0.heap.size + 1) (k32_ApAt w fn (.func (.func g) #[] lb) w.heap.size (W0.heap.size + 1) W0.heap.size) W1 hb1 (wW _ _ _ _ _ _ _ hb1.size)
      (fun pre x W hJ hl => Ay F (n - 1 - 1) w fn hfn _ w.heap.size (W0.heap.size + 1) W0.heap.size (by omega) (by omega) (by omega) (Nat.le_refl _) (by omega) N hN hNb pre x W hJ hl) hM).mono ?_
    rintro e W2 ⟨⟨v0, rfl⟩, ss, hS, h2⟩
    obtain ⟨v, hv, hrow, hnil⟩ := h2.box
    have hend := run_endLoop (P := Tryz.prog) h2.L (by simp [gi])
    obtain ⟨W3, hW3⟩ : ∃ W3, W2.putObj (W0.heap.size + 1) (.loop { gi fn (.func (.func g) #[] lb) w.heap.size W0.heap.size .ready none with state := .exhausted }) = W3 := ⟨_, rfl⟩
    rw [hW3] at hend
    have hg3 : W2.grownBy W3 (some (W0.heap.size + 1)) := by rw [← hW3]; exact gj _ _ _
    have hv3 : W3.heap[w.heap.size]? = some (.cells #[v] 41 (0, 0)) := by rw [← hW3]; exact (World.putObj_heap_other (by omega)).trans hv
    have hK3 : W3.heap[W0.heap.size]? = some (.deferred (some [])) := by rw [← hW3]; exact (World.putObj_heap_other (by omega)).trans h2.K
    have hrow3 := hrow.kept hg3 (jx hrow h2.L (fun cur e => by cases e))
    have hb3 : Below w.heap.size w W3 := h2.below.grown hg3 h2.below.size (fun k e => by cases e; omega)
    obtain ⟨hc3, hf3⟩ := oc hv3
    clear hW3
    refine ⟨none, W3, hend, ?_⟩
    gi_wp2
    rw [← hs0]
    refine ⟨by simp, .inl ⟨_, _, rfl, run_takeDeferred hK3, ?_⟩⟩
    exact ⟨_, results_tmp rfl _ _ _, v, ss, rfl, hS, hrow3.kept (gj _ _ _) (jx hrow3 hK3 (fun cur e => by cases e)), hnil, hb3.grown (gj _ _ _) hb3.size (fun k e => by cases e; omega)⟩
set_option maxHeartbeats 1000000 in
theorem nT (F : Fence) (n : Nat) (h8 : F.fn 114) (h11 : F.fn 173) (hro : F.round = none) (hn : 3 ≤ n) (g : Nat) (lb : Array Value) (hFg : F.fn g) (eg : ∀ args w, (callFunc g args).run Tryz.prog w = .ok (.enter g args) w)
    (S : List Int → Prop) (N : Nat) (hN : N ≤ maxLen) (hNb : N * 4 ≤ 140737488355328) (w : World) (hseq : SeqGives F (n - 1 - 1) Tryz.prog g lb (kE .u32) S N w) :
    CallsIn F n Tryz.prog 114 #[.func (.func g) #[] lb] w fun e w' => ∃ (v : Value) (ss : List Int), e = .returned v ∧ S ss ∧ w'.ownsRow w.heap.size 25 1 v ss.length (ss.map (kE .u32)) ∧ (v = .slice none 0 0 ↔ ss = []) ∧ Below w.heap.size w w' := by
  have h1 : 1 ≤ n := by omega
  refine callsIn_of_wp Tryz.func114 rfl h8 ?_ hro
  simp only [Tryz.ntmps114, List.size_toArray, List.length_cons, List.length_nil, Nat.reduceAdd, Nat.reduceSub, Array.replicate_succ, Array.replicate_zero, List.push_toArray, List.append_toArray, List.nil_append, List.cons_append]
  gi_wp2_with (gi_at_call 173; refine (sH F (n - 1) h11 hro (by omega) g lb hFg eg S N hN hNb _ hseq).mono ?_; rintro e w' ⟨v, ss, rfl, hS, hrow, hnil, hb⟩)
  go_ret
  exact ⟨v, ss, rfl, hS, hrow, hnil, hb⟩
end Go.Proofs.YtpbfapbajmdlkaaGreat
namespace Go.Proofs.YtpbfapbajmdlkaaGreat
open Go Go.Sac
set_option maxRecDepth 100000
set_option maxHeartbeats 4000000
theorem Cv(x:UInt32)(w:World) :
  Ret Tryz.prog 248 #[.int .u32 x.toNat] w fun v w'=>v=.bool false/\w'=w:=by
 refine enter [2] Tryz.func248 rfl rfl (al rfl) (zSR (za rfl (zNR (zmm rfl (a7 rfl (FO rfl rfl) (za rfl (a8 (a6 (zrf ?_)))))))));have hx:(decide (x≠x))=false:=by simp
 refine⟨?_,rfl⟩;show Value.bool (decide (x≠x))=_;rw[hx]
theorem eL(x y:UInt32)(w:World) :
  Ret Tryz.prog 221 #[.int .u32 x.toNat,.int .u32 y.toNat] w fun v w'=>v=.bool (decide (x<y))/\w'=w:=by
 refine enter [4] Tryz.func221 rfl rfl (al rfl) (zSR (za rfl (zNR (zm rfl (ah rfl C248 (Cv x w) ?_)))));rintro _ w1 ⟨rfl,rfl⟩;refine zm rfl (aD rfl rfl (aD rfl rfl (aD rfl rfl (a7 rfl (aN rfl) (zm rfl (aj rfl (zm rfl (aj rfl (zm rfl (aj rfl (a7 rfl (uD rfl rfl) (a7 rfl (aN rfl) (za rfl (a8 (a6 (zrf ?_))))))))))))))));exact⟨rfl,rfl⟩
theorem AA(v:Value)(l:List UInt32)(w:World)(ho:Own w v l)(hl:l.length<=1000) :
  Ret Tryz.prog 215 #[v,.int .i64 0,.int .i64 l.length] w fun _ w'=>Own w' v (nj l)/\Chg (ax v) w w':=by
 have hob1:=ho.form rfl;obtain⟨pv,cv,rfl⟩:=hob1;refine enter [] Tryz.func215 rfl rfl (al rfl) (zSR (zmv rfl (aB rfl rfl (by omega)) (za rfl ?_)));refine a8 (a6 (aq (bf [0,1,2,6] (fun n vs w'=>∃(i:Nat) (l':List UInt32),vs=[.slice pv l.length cv,.int .i64 0,.int .i64 l.length,.int .i64 i]/\i+n=l.length+1/\1<=i/\Own w' (.slice pv l.length cv) l'/\SrtU l l' i/\Chg (ax (.slice pv l.length cv)) w w') (l.length) ?_ ?_)))
 ·exact⟨1,l,rfl,by omega,aM _,ho,SrtU.start l,Chg.refl' _ _⟩
 ·rintro n vs J w1 ⟨i,l1,rfl,hi,hi1,ho1,hs1,hc1⟩;refine ae (zSR (zmm rfl (a7 rfl (bL rfl rfl) ?_)));refine a8 (a6 (az rfl (fun h=>?_) (fun h=>?_)))
  ·refine aw (a6 (ae (aq (zSR (zma rfl (a8 (a6 (aq ?_))))))));have hob2:∃q,n=q+1:=⟨n-1,by omega⟩
   obtain⟨n,rfl⟩:=hob2;have hl1:=hs1.length;refine bf [0,1,2,6,7] (fun n2 vs w'=>∃(l':List UInt32),vs=[.slice pv l.length cv,.int .i64 0,.int .i64 l.length,.int .i64 i,.int .i64 n2]/\n2<=i/\Own w' (.slice pv l.length cv) l'/\MidU l l' i n2/\Chg (ax (.slice pv l.length cv)) w w') (i) ?_ ?_
   ·exact⟨l1,rfl,aM _,ho1,hs1.mid,hc1⟩
   ·rintro j vs J2 w2 ⟨l2,rfl,hji,ho2,hm2,hc2⟩;refine ae (ae ?_);have hl2:=hm2.length;refine aG bz (.pure 0 (.pure 1 (.pure 2 (.pure 3 (.pure 4 (.pure 5 (.pure 6 (.read 7 (.pure 8 (.pure 9 (.pure 10 (.pure 11 (.read 12 (.eff 13 [] (.pure 14 .nil))))))))))))))) (by kernel_rfl) ?_;refine ym rfl (ym rfl ?_);by_cases hj:0<j
    ·refine yp rfl (fun _=>bJ (dt rfl rfl) (congrArg Value.bool (decide_eq_true ((by omega))))) ?_;refine ym rfl (ym rfl (ym rfl (yex rfl (aU (j) aX I25 rfl (ho2.sl) rfl rfl (by first|rfl|omega) (by omega)) ?_)));rintro _ ⟨b1,o1,rfl,he1,hb1⟩;refine aH rfl rfl rfl bw rfl rfl ((ho2.sl.at he1 (getD_some (d:=0) (by omega))).c0 rfl) ?_;refine ym rfl (ym rfl (yp rfl (fun _=>(bg rfl rfl (by omega))) ?_));refine yex rfl (aU (j-1) aX I25 rfl (ho2.sl) rfl rfl (by first|rfl|omega) (by omega)) ?_;rintro _ ⟨b2,o2,rfl,he2,hb2⟩;refine aH rfl rfl rfl bw rfl rfl ((ho2.sl.at he2 (getD_some (d:=0) (by omega))).c0 rfl) ?_;refine ycl rfl qt (eL (l2.getD j 0) (l2.getD (j-1) 0) _) ?_;rintro _ w3 ⟨rfl,hw3⟩;refine⟨trivial,?_⟩;refine yp rfl (fun _=>(aQ rfl)) ?_;refine aJ (a6 ?_);have hc3:Chg [] w2 w3:=by rw[hw3];exact Chg.heap rfl
     have ho3:=ho2.mod0 hc3;refine az rfl (fun hless=>?_) (fun hless=>?_)
     ·refine aw (a6 (ae (aq ?_)));have hob3:∃q,j=q+1:=⟨j-1,by omega⟩
      obtain⟨j,rfl⟩:=hob3;refine aG bz (.pure 0 (.pure 1 (.pure 2 (.pure 3 (.pure 4 (.pure 5 (.pure 6 (.pure 7 (.pure 8 (.read 9 (.pure 10 (.pure 11 (.pure 12 (.read 13 (.pure 14 (.eff 15 [] (.pure 16 (.eff 17 [] .nil)))))))))))))))))) (by kernel_rfl) ?_;refine ym rfl (ym rfl (ym rfl (ym rfl (yp rfl (fun _=>(bg rfl rfl (by omega))) ?_))));refine ym rfl (ym rfl (yp rfl (fun _=>(bg rfl rfl (by omega))) ?_));refine yex rfl (aU (j) aX I25 rfl (ho3.sl) rfl rfl (by first|rfl|omega) (by omega)) ?_;rintro _ ⟨b4,o4,rfl,he4,hb4⟩;refine aH rfl rfl rfl bw rfl rfl ((ho3.sl.at he4 (getD_some (d:=0) (by omega))).c0 rfl) ?_;refine ym rfl (ym rfl (yex rfl (aU (j+1) aX I25 rfl (ho3.sl) rfl rfl (by first|rfl|omega) (by omega)) ?_));rintro _ ⟨b5,o5,rfl,he5,hb5⟩;refine aH rfl rfl rfl bw rfl rfl ((ho3.sl.at he5 (getD_some (d:=0) (by omega))).c0 rfl) ?_;refine yex rfl (aU (j+1) aX I25 rfl (ho3.sl) rfl rfl (by first|rfl|omega) (by omega)) ?_;rintro _ ⟨b6,o6,rfl,he6,hb6⟩;refine dr rfl (bR (a:=l2.getD j 0) I25 rfl (ho3.mod0 (drw _)) rfl (he6) rfl rfl (by omega)) ?_;rintro w7 ⟨ho7,hc7,hs7⟩;refine⟨trivial,?_⟩;refine yex rfl (aU (j) aX I25 rfl (ho7.sl) rfl rfl (by first|rfl|omega) (by simp;omega)) ?_;rintro _ ⟨b8,o8,rfl,he8,hb8⟩;refine dr rfl (bR (a:=l2.getD (j+1) 0) I25 rfl (ho7) rfl (he8) rfl rfl (by simp;omega)) ?_;rintro w9 ⟨ho9,hc9,hs9⟩;refine⟨trivial,?_⟩;refine aJ (ay (a6 (ag (zmv rfl (bg rfl rfl (by omega)) (za rfl ?_)))));refine a8 (a6 (aS (j) (bx (by omega) ?_)));have e9:(l2.set (j+1) (l2.getD j 0)).set j (l2.getD (j+1) 0)=tf l2 (j+1):=by simp[tf]
      rw[e9] at ho9;have hcx:Chg (ax (.slice pv l.length cv)) w w9:=((hc2.tr0 (hc3.tr (drw _))).tr hc7).tr hc9;exact⟨tf l2 (j+1),au rfl (au rfl (au rfl (au rfl (au (bH (by omega)) bK)))),by omega,ho9,hm2.swap (by omega) hji (by omega) hless,hcx⟩
     ·refine aO (an (an (aE (ay (a6 (ag (zmv rfl (aB rfl rfl (by omega)) (za rfl ?_))))))));refine a8 (a6 ?_);have hstop:j=0∨¬l2.getD j 0<l2.getD (j-1) 0:=.inr hless;have ho2:=ho3;have hc2:=hc2.tr0 hc3;refine aS (n) (bx (by omega) ?_);refine⟨i+1,l2,?_,by omega,by omega,ho2,hm2.done hji hstop,hc2⟩;exact au rfl (au rfl (au rfl (au (bH (by omega)) bK)))
    ·refine yp rfl (fun _=>bJ (dt rfl rfl) (congrArg Value.bool (decide_eq_false ((by omega))))) ?_;refine ym rfl (yno rfl (yno rfl (yno rfl (cg rfl rfl rfl (yno rfl (yno rfl (yno rfl (yno rfl (cg rfl rfl rfl (iI rfl rfl rfl (yp rfl (fun _=>(aN rfl)) ?_)))))))))));refine aJ (a6 (aK (rfl) (aO (an (an (aE (ay (a6 (ag (zmv rfl (aB rfl rfl (by omega)) (za rfl ?_)))))))))));refine a8 (a6 ?_);have hstop:j=0∨¬l2.getD j 0<l2.getD (j-1) 0:=.inl (by omega);have ho2:=ho2.mod0 (drw _);have hc2:=hc2.tr0 (drw _);refine aS (n) (bx (by omega) ?_);refine⟨i+1,l2,?_,by omega,by omega,ho2,hm2.done hji hstop,hc2⟩;exact au rfl (au rfl (au rfl (au (bH (by omega)) bK)))
  ·refine aO (an (an (aE (g0 ?_))));rw[hs1.sort (by rw[hs1.length];omega)] at ho1;exact⟨ho1,hc1⟩
theorem GM(v:Value)(l:List UInt32)(lim:Int)(w:World)(ho:Own w v l)(hl:l.length<=12) :
  Ret Tryz.prog 174 #[v,.int .i64 0,.int .i64 l.length,.int .i64 lim] w fun _ w'=>Own w' v (nj l)/\Chg (ax v) w w':=by
 refine enter [] Tryz.func174 rfl rfl (al rfl) (zSR (za rfl (zNR (za rfl (a8 (a6 (aq (bf [0,1,2,3,8,9] (fun n vs w'=>vs=[v,.int .i64 0,.int .i64 l.length,.int .i64 lim,.bool true,.bool true]/\w'=w) (0) ?_ ?_))))))))
 ·exact⟨rfl,rfl⟩
 ·rintro n vs J w1 ⟨rfl,rfl⟩;refine aq (zSR (zmm rfl (a7 rfl (bg rfl rfl (by omega)) (za rfl ?_))));refine a8 (a6 (ae (zSR (zmv rfl (gd rfl rfl) (a8 (a6 (bM rfl (by omega) ?_)))))));refine zSR (zmm rfl (zm rfl (ah rfl C215 (AA v l _ ho (by omega)) ?_)));rintro _ w2 ⟨ho2,hc2⟩;refine a8 (a6 (bC (aR (aZ (aR (aZ (dj ?_)))))));exact⟨ho2,hc2⟩
theorem HN(x:UInt64)(w:World)(hx:x.toNat<256) :
  Ret Tryz.prog 188 #[.int .u64 x.toNat] w fun v w'=>(∃k:Int,v=.int .i64 k)/\w'=w:=by
 have hge:∀b:UInt64,256<=b.toNat->¬x≥b:=fun b hb h=>by
  have:=UInt64.le_iff_toNat_le.1 h
  omega
 refine enter [2] Tryz.func188 rfl rfl (al rfl) (zSR (za rfl (a8 (a6 (ae (zSR (zmv rfl (lP (b:=4294967296) rfl rfl) ?_)))))));refine a8 (a6 (aI rfl (hge _ (by decide)) ?_));refine aw (a6 (ae (zSR (zmv rfl (lP (b:=65536) rfl rfl) ?_))));refine a8 (a6 (aI rfl (hge _ (by decide)) ?_));refine aw (a6 (ae (zSR (zmv rfl (lP (b:=256) rfl rfl) ?_))));refine a8 (a6 (aI rfl (hge _ (by decide)) ?_));refine zKR (zmm rfl (a7 rfl (fI rfl eo uU5) ?_));refine bF rfl ((⟨_,fun _=>mG uU9 rfl rfl (uw _) (getD_some (d:=0) (by show _<256;exact UInt8.toNat_lt _)),⟨_,rfl,UInt8.toNat_lt _⟩⟩:∃v,(∀w',exec _ _ _ _ w'=.ok (.value v) w')/\∃b:UInt8,v=.int .u8 b.toNat/\b.toNat<256)) ?_;rintro _ ⟨b,rfl,hb⟩;refine a7 rfl (fz rfl uU5 uU3 (by omega)) (a7 rfl (aB rfl rfl (by omega)) (za rfl ?_));refine a8 (a6 (zrf ?_));exact⟨⟨_,rfl⟩,rfl⟩
theorem Eb(x:UInt64)(w:World)(hx:x.toNat<256) :
  Ret Tryz.prog 132 #[.int .u64 x.toNat] w fun v w'=>(∃k:Int,v=.int .i64 k)/\w'=w:=by
 refine enter [2] Tryz.func132 rfl rfl (al rfl) (zSR (za rfl (a8 (a6 (ae (aK (rfl) (zKR (zm rfl (ah rfl C188 (HN x w hx) ?_)))))))));rintro _ w1 ⟨⟨k,rfl⟩,rfl⟩;refine za rfl (a8 (a6 (zrf ?_)));exact⟨⟨k,rfl⟩,rfl⟩
theorem Fq(v:Value)(l:List UInt32)(w:World)(ho:Own w v l)(hl:l.length<=12) :
  Ret Tryz.prog 115 #[v] w fun _ w'=>Own w' v (nj l)/\Chg (ax v) w w':=by
 have hf:=ho.form rfl;obtain⟨pv,cv,rfl⟩:=hf;have h64:(dh (l.length:Int)).toNat=l.length:=by rw[dN,mj (show l.length<18446744073709551616 by omega)]
 refine enter [] Tryz.func115 rfl rfl (al rfl) (zSR (zmv rfl (aA rfl aX) (za rfl (a8 (a6 (ag (zmm rfl (zmv rfl (cX rfl uU3 oZ) (ah rfl C132 (Eb (dh l.length) _ (by omega)) ?_)))))))));rintro _ w1 ⟨⟨k,rfl⟩,rfl⟩;refine ah rfl C174 (GM (.slice pv l.length cv) l k _ ho hl) ?_;rintro _ w2 ⟨ho2,hc2⟩;refine a8 (g0 ?_);exact⟨ho2,hc2⟩
theorem insP_ok{pv:Option Addr}{n cv:Nat}{l0:List UInt32}{w0 w:World}(h:SPm (.slice pv n cv) l0 w0 w)(hn:l0.length=n)(hm:n<=1000)(a b:Nat)(hab:a<=b)(hb:b<=n) :
  Ret Tryz.prog 215 #[.slice pv n cv,.int .i64 a,.int .i64 b] w fun _ w'=>SPm (.slice pv n cv) l0 w0 w':=by
 refine enter [] Tryz.func215 rfl rfl (al rfl) (zSR (zmv rfl (aB rfl rfl (by omega)) (za rfl ?_)));refine a8 (a6 (aq (bf [0,1,2,6] (fun q vs w'=>∃i:Nat,vs=[.slice pv n cv,.int .i64 a,.int .i64 b,.int .i64 i]/\i+q=b+a+3/\a+1<=i/\SPm (.slice pv n cv) l0 w0 w') (b+2) ?_ ?_)))
 ·exact⟨a+1,rfl,by omega,aM _,h⟩
 ·rintro q vs J w1 ⟨i,rfl,hi,hai,h1⟩;refine ae (zSR (zmm rfl (a7 rfl (bL rfl rfl) ?_)));refine a8 (a6 (az rfl (fun hlt=>?_) (fun hlt=>?_)))
  ·refine aw (a6 (ae (aq (zSR (zma rfl (a8 (a6 (aq ?_))))))));have hob1:∃z,q=z+1:=⟨q-1,by omega⟩
   obtain⟨q,rfl⟩:=hob1;refine bf [0,1,2,6,7] (fun j vs w'=>vs=[.slice pv n cv,.int .i64 a,.int .i64 b,.int .i64 i,.int .i64 j]/\j<=i/\SPm (.slice pv n cv) l0 w0 w') (i) ?_ ?_
   ·exact⟨rfl,aM _,h1⟩
   ·rintro j vs2 J2 w2 ⟨rfl,hji,h2⟩;refine ae (ae ?_);obtain⟨l1,ho1,hp1,hk1⟩:=id h2;have hl1:l1.length=n:=hp1.length_eq.trans hn;refine aG bz (.pure 0 (.pure 1 (.pure 2 (.pure 3 (.pure 4 (.pure 5 (.pure 6 (.read 7 (.pure 8 (.pure 9 (.pure 10 (.pure 11 (.read 12 (.eff 13 [] (.pure 14 .nil))))))))))))))) (by kernel_rfl) ?_;refine ym rfl (ym rfl ?_);by_cases hj:a<j
    ·refine yp rfl (fun _=>bJ (dt rfl rfl) (congrArg Value.bool (decide_eq_true ((by omega))))) ?_;refine ym rfl (ym rfl (ym rfl (yex rfl (aU (j) aX I25 rfl (ho1.sl) rfl rfl (by first|rfl|omega) (by omega)) ?_)));rintro _ ⟨b2,o2,rfl,he2,hb2⟩;refine aH rfl rfl rfl bw rfl rfl ((ho1.sl.at he2 (getD_some (d:=0) (by omega))).c0 rfl) ?_;refine ym rfl (ym rfl (yp rfl (fun _=>(bg rfl rfl (by omega))) ?_));refine yex rfl (aU (j-1) aX I25 rfl (ho1.sl) rfl rfl (by first|rfl|omega) (by omega)) ?_;rintro _ ⟨b3,o3,rfl,he3,hb3⟩;refine aH rfl rfl rfl bw rfl rfl ((ho1.sl.at he3 (getD_some (d:=0) (by omega))).c0 rfl) ?_;refine ycl rfl qt (eL (l1.getD (j) 0) (l1.getD (j-1) 0) _) ?_;rintro _ v4 ⟨rfl,hv4⟩;refine⟨trivial,?_⟩;refine yp rfl (fun _=>(aQ rfl)) ?_;refine aJ (a6 ?_);have hcv4:Chg [] w2 v4:=by rw[hv4];exact Chg.heap rfl
     have hS4:SPm (.slice pv n cv) l0 w0 v4:=SPm.chg0 ⟨l1,ho1,hp1,hk1⟩ hcv4;refine az rfl (fun hless=>?_) (fun hless=>?_)
     ·refine aw (a6 (ae (aq ?_)));have hob2:∃q,j=q+1:=⟨j-1,by omega⟩
      obtain⟨j,rfl⟩:=hob2;obtain⟨l5,ho5,hp5,hk5⟩:=id hS4;have hl5:l5.length=n:=hp5.length_eq.trans hn;refine aG bz (.pure 0 (.pure 1 (.pure 2 (.pure 3 (.pure 4 (.pure 5 (.pure 6 (.pure 7 (.pure 8 (.read 9 (.pure 10 (.pure 11 (.pure 12 (.read 13 (.pure 14 (.eff 15 [] (.pure 16 (.eff 17 [] .nil)))))))))))))))))) (by kernel_rfl) ?_;refine ym rfl (ym rfl (ym rfl (ym rfl (yp rfl (fun _=>(bg rfl rfl (by omega))) ?_))));refine ym rfl (ym rfl (yp rfl (fun _=>(bg rfl rfl (by omega))) ?_));refine yex rfl (aU (j) aX I25 rfl (ho5.sl) rfl rfl (by first|rfl|omega) (by omega)) ?_;rintro _ ⟨b6,o6,rfl,he6,hb6⟩;refine aH rfl rfl rfl bw rfl rfl ((ho5.sl.at he6 (getD_some (d:=0) (by omega))).c0 rfl) ?_;refine ym rfl (ym rfl (yex rfl (aU (j+1) aX I25 rfl (ho5.sl) rfl rfl (by first|rfl|omega) (by omega)) ?_));rintro _ ⟨b7,o7,rfl,he7,hb7⟩;refine aH rfl rfl rfl bw rfl rfl ((ho5.sl.at he7 (getD_some (d:=0) (by omega))).c0 rfl) ?_;refine yex rfl (aU (j+1) aX I25 rfl (ho5.sl) rfl rfl (by first|rfl|omega) (by omega)) ?_;rintro _ ⟨b8,o8,rfl,he8,hb8⟩;refine dr rfl (bR (a:=l5.getD (j) 0) I25 rfl (ho5.mod0 (drw _)) rfl (he8) rfl rfl (by omega)) ?_;rintro u8 ⟨hou8,hcu8,hsu8⟩;refine⟨trivial,?_⟩;refine yex rfl (aU (j) aX I25 rfl (hou8.sl) rfl rfl (by first|rfl|omega) (by simp;omega)) ?_;rintro _ ⟨b9,o9,rfl,he9,hb9⟩;refine dr rfl (bR (a:=l5.getD (j+1) 0) I25 rfl (hou8) rfl (he9) rfl rfl (by simp;omega)) ?_;rintro u9 ⟨hou9,hcu9,hsu9⟩;refine⟨trivial,?_⟩;refine aJ (ay (a6 (ag (zmv rfl (bg rfl rfl (by omega)) (za rfl ?_)))));refine a8 (a6 ?_);have hS9:SPm (.slice pv n cv) l0 w0 u9:=⟨_,hou9,(ez l5 (j+1) (j) (by omega) (by omega)).trans hp5,((hk5.tr0 (drw _)).tr hcu8).tr hcu9⟩
      refine aS (j) (bx (by omega) ?_);exact⟨(au rfl (au rfl (au rfl (au rfl (au (bH (by omega)) bK))))),by omega,hS9⟩
     ·refine aO (an (an (aE (ay (a6 (ag (zmv rfl (aB rfl rfl (by omega)) (za rfl ?_))))))));refine a8 (a6 ?_);have hZ:=hS4;refine aS (q) (bx (by omega) ?_);exact⟨i+1,rfl,by omega,by omega,hZ⟩
    ·refine yp rfl (fun _=>bJ (dt rfl rfl) (congrArg Value.bool (decide_eq_false ((by omega))))) ?_;refine ym rfl (yno rfl (yno rfl (yno rfl (cg rfl rfl rfl (yno rfl (yno rfl (yno rfl (yno rfl (cg rfl rfl rfl (iI rfl rfl rfl (yp rfl (fun _=>(aN rfl)) ?_)))))))))));refine aJ (a6 (aK (rfl) (aO (an (an (aE (ay (a6 (ag (zmv rfl (aB rfl rfl (by omega)) (za rfl ?_)))))))))));refine a8 (a6 ?_);have hZ:=h2.chg0 (drw _);refine aS (q) (bx (by omega) ?_);exact⟨i+1,rfl,by omega,by omega,hZ⟩
  ·refine aO (an (an (aE (g0 ?_))));exact h1
theorem Ds{pv:Option Addr}{n cv:Nat}{l0:List UInt32}{w0 w:World}(h:SPm (.slice pv n cv) l0 w0 w)(hn:l0.length=n)(hm:n<=1000)(lo hi first:Nat)(hf:first+hi<=n)(hlo:lo<=1000) :
  Ret Tryz.prog 245 #[.slice pv n cv,.int .i64 lo,.int .i64 hi,.int .i64 first] w fun _ w'=>SPm (.slice pv n cv) l0 w0 w':=by
 refine enter [] Tryz.func245 rfl rfl (al rfl) (zSR (zma rfl (a8 (a6 (aq (bf [0,2,3,8] (fun q vs w'=>∃root:Nat,vs=[.slice pv n cv,.int .i64 hi,.int .i64 first,.int .i64 root]/\hi+1<=root+q/\root<=1000/\SPm (.slice pv n cv) l0 w0 w') (hi+1) ?_ ?_))))))
 ·exact⟨lo,rfl,by omega,hlo,h⟩
 ·rintro q vs J w1 ⟨root,rfl,hq,hr,h1⟩;refine aq (zSR (zmv rfl (ek rfl rfl (by omega)) (a7 rfl (aB rfl rfl (by omega)) (za rfl ?_))));refine a8 (a6 (ae (zSR (zmm rfl (a7 rfl (fH rfl rfl) (a8 (a6 ?_)))))));obtain⟨l10,ho10,hp10,hk10⟩:=id h1;have hl10:l10.length=n:=hp10.length_eq.trans hn;refine az rfl (fun hge=>?_) (fun hge=>?_)
  ·refine aO (an (jj rfl (an (aE (g0 ?_)))));exact h1
  ·refine aw (a6 ?_);have hob3:∃z,q=z+1:=⟨q-1,by omega⟩
   obtain⟨q,rfl⟩:=hob3;have hob4:∃z:Nat,z=2*root+1:=⟨_,rfl⟩
   obtain⟨ch,hch⟩:=hob4;have hche:2*(root:Int)+1=(ch:Int):=by omega
   refine dX [0,2,3,8,9] (fun vs w'=>∃ch:Nat,vs=[.slice pv n cv,.int .i64 hi,.int .i64 first,.int .i64 root,.int .i64 ch]/\root<ch/\ch<hi/\SPm (.slice pv n cv) l0 w0 w') ?_ ?_
   ·refine ae (aG bz (.pure 0 (.pure 1 (.pure 2 (.pure 3 (.pure 4 (.pure 5 (.pure 6 (.pure 7 (.pure 8 (.pure 9 (.read 10 (.pure 11 (.pure 12 (.pure 13 (.pure 14 (.pure 15 (.pure 16 (.read 17 (.eff 18 [] (.pure 19 .nil)))))))))))))))))))) (by kernel_rfl) ?_);refine ym rfl (yp rfl (fun _=>(aB rfl rfl (by omega))) ?_);refine ym rfl ?_;by_cases hj:ch+1<hi
    ·refine yp rfl (fun _=>bJ (bL rfl rfl) (congrArg Value.bool (decide_eq_true ((by omega))))) ?_;refine ym rfl (ym rfl (ym rfl (ym rfl (yp rfl (fun _=>(aB rfl rfl (by omega))) ?_))));refine yex rfl (aU (first+ch) aX I25 rfl (ho10.sl) rfl rfl (by first|rfl|omega) (by omega)) ?_;rintro _ ⟨b11,o11,rfl,he11,hb11⟩;refine aH rfl rfl rfl bw rfl rfl ((ho10.sl.at he11 (getD_some (d:=0) (by omega))).c0 rfl) ?_;refine ym rfl (ym rfl (ym rfl (yp rfl (fun _=>(aB rfl rfl (by omega))) ?_)));refine yp rfl (fun _=>(aB rfl rfl (by omega))) ?_;refine yex rfl (aU (first+ch+1) aX I25 rfl (ho10.sl) rfl rfl (by first|rfl|omega) (by omega)) ?_;rintro _ ⟨b12,o12,rfl,he12,hb12⟩;refine aH rfl rfl rfl bw rfl rfl ((ho10.sl.at he12 (getD_some (d:=0) (by omega))).c0 rfl) ?_;refine ycl rfl qt (eL (l10.getD (first+ch) 0) (l10.getD (first+ch+1) 0) _) ?_;rintro _ v13 ⟨rfl,hv13⟩;refine⟨trivial,?_⟩;refine yp rfl (fun _=>(aQ rfl)) ?_;refine aJ (a6 ?_);have hcv13:Chg [] w1 v13:=by rw[hv13];exact Chg.heap rfl
     have hS13:SPm (.slice pv n cv) l0 w0 v13:=SPm.chg0 ⟨l10,ho10,hp10,hk10⟩ hcv13;refine az rfl (fun hless=>?_) (fun hless=>?_)
     ·refine ag (zmv rfl (aB rfl rfl (by omega)) (za rfl ?_));refine a8 (a6 ?_);exact⟨ch+1,(au rfl (au rfl (au rfl (au rfl (au (bH (by omega)) bK))))),by omega,by omega,hS13⟩
     ·refine aw (a6 ?_);exact⟨ch,(au rfl (au rfl (au rfl (au rfl (au (bH (by omega)) bK))))),by omega,by omega,hS13⟩
    ·refine yp rfl (fun _=>bJ (bL rfl rfl) (congrArg Value.bool (decide_eq_false ((by omega))))) ?_;refine ym rfl (yno rfl (yno rfl (yno rfl (yno rfl (yno rfl (cg rfl rfl rfl (yno rfl (yno rfl (yno rfl (yno rfl (yno rfl (yno rfl (cg rfl rfl rfl (iI rfl rfl rfl (yp rfl (fun _=>(aN rfl)) ?_)))))))))))))));refine aJ (a6 (aK (rfl) (aw (a6 ?_))));exact⟨ch,(au rfl (au rfl (au rfl (au rfl (au (bH (by omega)) bK))))),by omega,by omega,h1.chg0 (drw _)⟩
   ·rintro vs J2 w2 ⟨ch,rfl,hrc,hch2,h2⟩;refine ae (ae ?_);obtain⟨l14,ho14,hp14,hk14⟩:=id h2;have hl14:l14.length=n:=hp14.length_eq.trans hn;refine aG bz (.pure 0 (.pure 1 (.pure 2 (.pure 3 (.pure 4 (.read 5 (.pure 6 (.pure 7 (.pure 8 (.pure 9 (.pure 10 (.read 11 (.eff 12 [] (.pure 13 .nil)))))))))))))) (by kernel_rfl) ?_;refine ym rfl (ym rfl (ym rfl (yp rfl (fun _=>(aB rfl rfl (by omega))) ?_)));refine yex rfl (aU (first+root) aX I25 rfl (ho14.sl) rfl rfl (by first|rfl|omega) (by omega)) ?_;rintro _ ⟨b15,o15,rfl,he15,hb15⟩;refine aH rfl rfl rfl bw rfl rfl ((ho14.sl.at he15 (getD_some (d:=0) (by omega))).c0 rfl) ?_;refine ym rfl (ym rfl (ym rfl (yp rfl (fun _=>(aB rfl rfl (by omega))) ?_)));refine yex rfl (aU (first+ch) aX I25 rfl (ho14.sl) rfl rfl (by first|rfl|omega) (by omega)) ?_;rintro _ ⟨b16,o16,rfl,he16,hb16⟩;refine aH rfl rfl rfl bw rfl rfl ((ho14.sl.at he16 (getD_some (d:=0) (by omega))).c0 rfl) ?_;refine ycl rfl qt (eL (l14.getD (first+root) 0) (l14.getD (first+ch) 0) _) ?_;rintro _ v17 ⟨rfl,hv17⟩;refine⟨trivial,?_⟩;refine yp rfl (fun _=>(cA rfl)) ?_;refine aJ (a6 ?_);have hcv17:Chg [] w2 v17:=by rw[hv17];exact Chg.heap rfl
    have hS17:SPm (.slice pv n cv) l0 w0 v17:=SPm.chg0 ⟨l14,ho14,hp14,hk14⟩ hcv17;refine bU rfl (fun hls=>?_) (fun hls=>?_)
    ·refine bC (aR (aZ (aR (aZ (dj ?_)))));exact hS17
    ·refine aw (a6 (ae ?_));obtain⟨l18,ho18,hp18,hk18⟩:=id hS17;have hl18:l18.length=n:=hp18.length_eq.trans hn;refine aG bz (.pure 0 (.pure 1 (.pure 2 (.pure 3 (.pure 4 (.pure 5 (.pure 6 (.pure 7 (.pure 8 (.pure 9 (.pure 10 (.pure 11 (.pure 12 (.read 13 (.pure 14 (.pure 15 (.pure 16 (.pure 17 (.pure 18 (.read 19 (.pure 20 (.eff 21 [] (.pure 22 (.eff 23 [] .nil)))))))))))))))))))))))) (by kernel_rfl) ?_;refine ym rfl (ym rfl (ym rfl (yp rfl (fun _=>(aB rfl rfl (by omega))) ?_)));refine ym rfl (ym rfl (ym rfl (yp rfl (fun _=>(aB rfl rfl (by omega))) ?_)));refine ym rfl (ym rfl (ym rfl (yp rfl (fun _=>(aB rfl rfl (by omega))) ?_)));refine yex rfl (aU (first+ch) aX I25 rfl (ho18.sl) rfl rfl (by first|rfl|omega) (by omega)) ?_;rintro _ ⟨b19,o19,rfl,he19,hb19⟩;refine aH rfl rfl rfl bw rfl rfl ((ho18.sl.at he19 (getD_some (d:=0) (by omega))).c0 rfl) ?_;refine ym rfl (ym rfl (ym rfl (yp rfl (fun _=>(aB rfl rfl (by omega))) ?_)));refine yex rfl (aU (first+root) aX I25 rfl (ho18.sl) rfl rfl (by first|rfl|omega) (by omega)) ?_;rintro _ ⟨b20,o20,rfl,he20,hb20⟩;refine aH rfl rfl rfl bw rfl rfl ((ho18.sl.at he20 (getD_some (d:=0) (by omega))).c0 rfl) ?_;refine yex rfl (aU (first+root) aX I25 rfl (ho18.sl) rfl rfl (by first|rfl|omega) (by omega)) ?_;rintro _ ⟨b21,o21,rfl,he21,hb21⟩;refine dr rfl (bR (a:=l18.getD (first+ch) 0) I25 rfl (ho18.mod0 (drw _)) rfl (he21) rfl rfl (by omega)) ?_;rintro u21 ⟨hou21,hcu21,hsu21⟩;refine⟨trivial,?_⟩;refine yex rfl (aU (first+ch) aX I25 rfl (hou21.sl) rfl rfl (by first|rfl|omega) (by simp;omega)) ?_;rintro _ ⟨b22,o22,rfl,he22,hb22⟩;refine dr rfl (bR (a:=l18.getD (first+root) 0) I25 rfl (hou21) rfl (he22) rfl rfl (by simp;omega)) ?_;rintro u22 ⟨hou22,hcu22,hsu22⟩;refine⟨trivial,?_⟩;refine aJ (a6 (ag (zma rfl (a8 (ay (a6 ?_))))));have hS22:SPm (.slice pv n cv) l0 w0 u22:=⟨_,hou22,(ez l18 (first+root) (first+ch) (by omega) (by omega)).trans hp18,((hk18.tr0 (drw _)).tr hcu21).tr hcu22⟩
     refine aS (q) (bx (by omega) ?_);exact⟨ch,rfl,by omega,by omega,hS22⟩
theorem heap_ok{pv:Option Addr}{n cv:Nat}{l0:List UInt32}{w0 w:World}(h:SPm (.slice pv n cv) l0 w0 w)(hn:l0.length=n)(hm:n<=1000)(a b:Nat)(hab:a<b)(hb:b<=n) :
  Ret Tryz.prog 216 #[.slice pv n cv,.int .i64 a,.int .i64 b] w fun _ w'=>SPm (.slice pv n cv) l0 w0 w':=by
 have hob5:∃m:Nat,m=b-a:=⟨_,rfl⟩
 obtain⟨m,hme⟩:=hob5;have hmi:(b:Int)-(a:Int)=(m:Int):=by omega
 have hob6:∃z:Nat,z=(m-1) / 2+1:=⟨_,rfl⟩
 obtain⟨q0,hq0⟩:=hob6;have hqi:((m:Int)-1) / 2=(q0:Int)-1:=by omega
 refine enter [] Tryz.func216 rfl rfl (al rfl) (zSR (zma rfl (zNR (za rfl (zNR (zmm rfl (a7 rfl (bg rfl rfl (by omega)) (za rfl ?_))))))));refine a8 (a6 (ae (zSR (zmv rfl (bg rfl rfl (by omega)) (a7 rfl (lp rfl rfl (by omega)) (za rfl ?_))))));refine a8 (a6 (aq ?_));rw[hmi,hqi];refine bf [0,6,7,8,9] (fun q vs w'=>vs=[.slice pv n cv,.int .i64 a,.int .i64 0,.int .i64 m,.int .i64 ((q:Int)-1)]/\q<=m/\SPm (.slice pv n cv) l0 w0 w') (q0) ?_ ?_
 ·exact⟨rfl,by omega,h⟩
 ·rintro q vs J w1 ⟨rfl,hq,h1⟩;refine ae (zSR (zmv rfl (fH rfl rfl) ?_));refine a8 (a6 (az rfl (fun hge=>?_) (fun hge=>?_)))
  ·refine aw (a6 (ae (aq (ag (zmm rfl (zmm rfl ?_))))));have hob7:∃z,q=z+1:=⟨q-1,by omega⟩
   obtain⟨z,rfl⟩:=hob7;have hz:((z+1:Nat):Int)-1=(z:Int):=by omega
   rw[hz];refine ah rfl C245 (Ds h1 hn hm z m a (by omega) (by omega)) ?_;rintro _ w2 h2;refine a8 (ay (a6 (ag (zmv rfl (bg rfl rfl (by omega)) (za rfl ?_)))));refine a8 (a6 (aS (z) (bx (by omega) ?_)));exact⟨rfl,by omega,h2⟩
  ·refine aO (an (an (aE (a6 (zSR (zmv rfl (bg rfl rfl (by omega)) (za rfl ?_)))))));refine a8 (a6 (aq (bf [0,6,7,10] (fun q vs w'=>vs=[.slice pv n cv,.int .i64 a,.int .i64 0,.int .i64 ((q:Int)-1)]/\q<=m/\SPm (.slice pv n cv) l0 w0 w') (m) ?_ ?_)))
   ·exact⟨rfl,aM _,h1⟩
   ·rintro q2 vs2 J2 w2 ⟨rfl,hq2,h2⟩;refine ae (zSR (zmv rfl (fH rfl rfl) ?_));refine a8 (a6 (az rfl (fun hge2=>?_) (fun hge2=>?_)))
    ·refine aw (a6 (ae (aq (ae ?_))));have hob8:∃z,q2=z+1:=⟨q2-1,by omega⟩
     obtain⟨z,rfl⟩:=hob8;have hz:((z+1:Nat):Int)-1=(z:Int):=by omega
     rw[hz];obtain⟨l23,ho23,hp23,hk23⟩:=id h2;have hl23:l23.length=n:=hp23.length_eq.trans hn;refine aG bz (.pure 0 (.pure 1 (.pure 2 (.pure 3 (.pure 4 (.pure 5 (.pure 6 (.pure 7 (.pure 8 (.pure 9 (.pure 10 (.read 11 (.pure 12 (.pure 13 (.pure 14 (.read 15 (.pure 16 (.eff 17 [] (.pure 18 (.eff 19 [] .nil)))))))))))))))))))) (by kernel_rfl) ?_;refine ym rfl (ym rfl (ym rfl (ym rfl (ym rfl (yp rfl (fun _=>(aB rfl rfl (by omega))) ?_)))));refine ym rfl (ym rfl (ym rfl (yp rfl (fun _=>(aB rfl rfl (by omega))) ?_)));refine yex rfl (aU (a+z) aX I25 rfl (ho23.sl) rfl rfl (by first|rfl|omega) (by omega)) ?_;rintro _ ⟨b24,o24,rfl,he24,hb24⟩;refine aH rfl rfl rfl bw rfl rfl ((ho23.sl.at he24 (getD_some (d:=0) (by omega))).c0 rfl) ?_;refine ym rfl (ym rfl (yex rfl (aU (a) aX I25 rfl (ho23.sl) rfl rfl (by first|rfl|omega) (by omega)) ?_));rintro _ ⟨b25,o25,rfl,he25,hb25⟩;refine aH rfl rfl rfl bw rfl rfl ((ho23.sl.at he25 (getD_some (d:=0) (by omega))).c0 rfl) ?_;refine yex rfl (aU (a) aX I25 rfl (ho23.sl) rfl rfl (by first|rfl|omega) (by omega)) ?_;rintro _ ⟨b26,o26,rfl,he26,hb26⟩;refine dr rfl (bR (a:=l23.getD (a+z) 0) I25 rfl (ho23.mod0 (drw _)) rfl (he26) rfl rfl (by omega)) ?_;rintro u26 ⟨hou26,hcu26,hsu26⟩;refine⟨trivial,?_⟩;refine yex rfl (aU (a+z) aX I25 rfl (hou26.sl) rfl rfl (by first|rfl|omega) (by simp;omega)) ?_;rintro _ ⟨b27,o27,rfl,he27,hb27⟩;refine dr rfl (bR (a:=l23.getD (a) 0) I25 rfl (hou26) rfl (he27) rfl rfl (by simp;omega)) ?_;rintro u27 ⟨hou27,hcu27,hsu27⟩;refine⟨trivial,?_⟩;refine aJ (a6 (ag (zmm rfl (zmm rfl ?_))));have hS27:SPm (.slice pv n cv) l0 w0 u27:=⟨_,hou27,(ez l23 (a) (a+z) (by omega) (by omega)).trans hp23,((hk23.tr0 (drw _)).tr hcu26).tr hcu27⟩
     refine ah rfl C245 (Ds hS27 hn hm 0 z a (by omega) (by omega)) ?_;rintro _ w3 h3;refine a8 (ay (a6 (ag (zmv rfl (bg rfl rfl (by omega)) (za rfl ?_)))));refine a8 (a6 (aS (z) (bx (by omega) ?_)));exact⟨rfl,by omega,h3⟩
    ·refine aO (an (an (aE (g0 ?_))));exact h2
end Go.Proofs.YtpbfapbajmdlkaaGreat
