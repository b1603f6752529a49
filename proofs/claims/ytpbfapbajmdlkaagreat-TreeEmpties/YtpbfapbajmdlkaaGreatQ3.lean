/- All pairs put, all taken away, in whatever order: an empty tree of one page; each on the way is one. It holds for every input; there are no conditions. -/
import Derived.Test.YtpbfapbajmdlkaaGreatQ2
import Derived.Test.YtpbfapbajmdlkaaGreatSac2
section
namespace Go.Proofs.YtpbfapbajmdlkaaGreat
open Go Go.Sac
set_option maxRecDepth 100000
set_option maxHeartbeats 4000000
theorem tV{id:UInt32}{A B pg pg1 new out pg4 new2:List UInt32}(h1:(pg++out).Perm (pg1++new))(h2:pg4.Perm (A++(pg++B)++new2)):(pg4++([id]++out)).Perm (id::(A++(pg1++B))++(new++new2)):=by
 rw[List.perm_iff_count] at h1 h2 ⊢
 intro x
 have h1:=h1 x
 have h2:=h2 x
 simp only[List.count_append,List.count_cons,List.count_nil] at h1 h2 ⊢
 omega
theorem Hole.put{V:UInt32→Bs}{d:Nat}{K1 K2:List Bs}{A B:List Kd}{m:List Pr}{p:Pr}(h:Hole V d K1 K2 A B m)(h1:∀k∈K1,ltB p.1 k=false)(h2:∀k∈K2,ltB p.1 k=true):Hole V d K1 K2 A B (eh m p) :=
 h.set (fun k hk q hq=>(jq hq).elim (fun e=>e▸h1 k hk) (fun g=>h.seps.above h.lm k hk q g)) (fun k hk q hq=>(jq hq).elim (fun e=>e▸h2 k (List.mem_of_mem_head? hk)) (fun g=>h.seps.below h.lm k hk q g))
theorem put_ok(c:TC)(xb:Nat)(p:Pr)(hp:mU p):∀(d:Nat) (w:World) (e:TE) (id:UInt32) (pg:List UInt32) (m:List Pr) (deep:Nat),c.ed xb w e→isT e.s.V d id pg m→(∀x∈pg,e.s.P.now.written x=true)→deep+d≤40→e.made.length+2*d≤900→e.gone.length+d≤900→e.s.k+2*d≤40000 →
  Ret Tryz.prog 97 #[.pointer (some ⟨xb,0,none⟩),.int .u32 id.toNat,.agg #[str p.1,str p.2],.int .i64 deep] w fun r w'=>∃e' new out,c.to xb w w' e e'∧Stp c.n e e' new out∧new.length≤2*d∧out.length≤d+1 ∧
   ((∃q,r = .tuple #[q,.int .i64 70]∧jU c.n e'.s.P)∨∃v n' pg',r = .tuple #[v.ptr,.int .i64 0]∧c.has xb e' w.heap.size w' v n'∧CT e'.s.V d n' pg' (eh m p)∧(pg'++out).Perm (pg++new)∧rk n'∧gJ n'):=by
 intro d
 induction d with
 | zero =>
  intro w e id pg m deep h ht hw hd hml hgl hk
  obtain⟨rfl,hlf,hV⟩:=ht
  have hps:=hlf.1
  have hsz:bM m≤480:=hlf.2
  have hll:=hlf.few
  refine enter [8,9] Tryz.func97 rfl rfl (Nat.le_of_ble_eq_true rfl) ?_
  refine zSR (aS rfl (cg (l:=[str p.1,str p.2]) rfl rfl) ?_)
  rintro _ w1 ⟨tb,rfl,hnt,hT1,hc1,hl1⟩
  refine za rfl (za rfl (zNR (zm rfl (zm rfl (zm rfl ?_)))))
  have h1:=h.chg0 hc1
  have k1:=hc1.1
  refine ah rfl CR (kO c xb w1 e id (.leaf m) deep h1 (by omega) (hw id (by simp)) hV hlf (by omega)) ?_
  rintro _ w2 ⟨v,e2,rfl,hto2,hst2,hs2,hh2⟩
  refine zm rfl (zx rfl rfl rfl (zx rfl rfl rfl (za rfl (za rfl (a8 (a7 (ae (zSR (zm rfl (a6 rfl (bL rfl rfl) ?_))))))))))
  refine a8 (a7 (aF rfl (fun h=>h rfl) ?_))
  refine aA (a7 (ae (zSR (zm rfl (zn rfl rfl (a6 rfl (aa bh rfl I4 rfl rfl) ?_))))))
  have hlt1:=h1.lt
  have htF:tb∉c.F++EF xb e:=fun hh=>by have:=h.lt tb hh; omega
  have hT2:=hT1.chg hto2.chg htF
  have h2:=hto2.at_
  have hlt2:=h2.lt
  have k2:=hto2.chg.1
  have hn2:=hh2.at_
  have hnew2:=hh2.new
  obtain⟨vb,vp,vk,vi⟩:=v
  have hB2:Blk w2 vb [.bool true,vp,vk,vi]:=hn2.blk
  have hp2:Sl w2 vp m:=hn2.p
  have hbl2:=hB2.lt
  have htv:tb≠vb:=fun e=>by have:=(hnew2 vb (by simp[NV.F])).1; omega
  have hvb:vb∉c.F++EF xb e2:=fun hh=>by
   rcases List.mem_append.1 hh with hh | hh
   ·have:=h.pg.lt vb hh; have:=(hnew2 vb (by simp[NV.F])).1; omega
   ·exact(hnew2 vb (by simp[NV.F])).2 hh
  refine a6 rfl (az uU4 rfl rfl (hB2.c rfl)) ?_
  refine a8 (a7 (bf (rfl) ?_))
  refine zSR (zm rfl (a6 rfl (aa fZ rfl I9 rfl rfl) ?_))
  refine a6 rfl (az uU9 rfl rfl (hT2.c rfl)) ?_
  refine ah rfl C61 (u7 w2 ⟨vb,vp,vk,vi⟩ m p.1 hn2 hps.2 (by omega)) ?_
  rintro _ w3 ⟨rfl,hc3⟩
  refine zm rfl (zx rfl rfl rfl (zx rfl rfl rfl (za rfl (za rfl (zNR (zm rfl (zm rfl (zn rfl rfl (a6 rfl (aa bh rfl I33 rfl rfl) ?_)))))))))
  have hB3:=hB2.chg0 hc3
  have hT3:=hT2.chg0 hc3
  refine a6 rfl (az cn rfl rfl (hB3.c rfl)) ?_
  refine ah rfl C154 (rC w3 vp m (hp2.mod0 hc3) (by omega)) ?_
  rintro v4 w4 ⟨ho4,hi4,hc4⟩
  refine zn rfl rfl (a6 rfl (aa bh rfl I33 rfl rfl) ?_)
  have hi4':=hi4.ge
  have k3:=hc3.1
  have k4:=hc4.1
  have hob1:=ho4.sl.form rfl
  obtain⟨p4,c4,rfl⟩:=hob1
  have hB4:=hB3.chg0 hc4
  have hT4:=hT3.chg0 hc4
  refine aH rfl (bD I33 rfl rfl (hB4) rfl rfl ((by decide:1<4)) rfl (rfl)) ?_
  rintro w5 ⟨hB5,hc5,hs5⟩
  refine a8 (a7 (ae (zSR (zm rfl (a8 (a7 ?_))))))
  replace hB5:Blk w5 vb [.bool true,.slice p4 m.length c4,vk,vi]:=hB5
  have hb4:∀x∈ar (.slice p4 m.length c4),x≠vb:=fun x hx=>by have:=hi4' x hx; omega
  have hbt:tb∉ar (.slice p4 m.length c4):=fun hx=>by have:=hi4' tb hx; have:=hT2.lt; omega
  have ho5:=ho4.mod hc5 (fun x hx hh=>by simp at hh; exact hb4 x hx hh)
  have hT5:=hT4.chg hc5 (by simp; exact htv)
  have hw0:c.w0.heap.size≤w.heap.size:=h.pg.1.2.1.1
  have hnv:=(hnew2 vb (by simp[NV.F])).1
  have hok:eM (eh m p):=putP_ok hps hp
  have hz5:bM (eh m p)≤694:=by have:=zH (p:=p) hps.2; have:=hp.1.2; have:=hp.2; omega
  have hnk:∀x∈ar vk,x≠vb:=fun x hx=>hn2.ap x (List.mem_append_right _ (List.mem_append_left _ hx))
  have hni:∀x∈ar vi,x≠vb:=fun x hx=>hn2.ap x (List.mem_append_right _ (List.mem_append_right _ hx))
  have hfin:∀{w':World} {p':Option Addr} {c':Nat},Blk w' vb [.bool true,.slice p' (eh m p).length c',vk,vi]→Own w' (.slice p' (eh m p).length c') (eh m p)→(∀x∈ar (.slice p' (eh m p).length c'),w2.heap.size≤x∧x≠vb)→Chg [vb] w2 w' →
    ∃e' new out,c.to xb w w' e e'∧Stp c.n e e' new out∧new.length≤2*0∧out.length≤0+1∧((∃q,Value.tuple #[.pointer (some ⟨vb,0,none⟩),.int .i64 0] = .tuple #[q,.int .i64 70]∧jU c.n e'.s.P)∨∃v n' pg',Value.tuple #[.pointer (some ⟨vb,0,none⟩),.int .i64 0] = .tuple #[v.ptr,.int .i64 0]∧c.has xb e' w.heap.size w' v n'∧CT e'.s.V 0 n' pg' (eh m p)∧(pg'++out).Perm ([id]++new)∧rk n'∧gJ n'):=fun {w' p' c'} hB ho hnw hc=>by
   have hed:c.ed xb w' e2:=h2.chg hc (fun x hx hh=>by simp at hh; subst hh; exact hvb hx) (fun x hx=>by simp at hx; subst hx; omega)
   have hto:c.to xb w w' e e2:=⟨hed,fun x hx=>(hto2.grow x hx).imp (fun q=>q) (fun q=>by omega),(hc1.mono (by simp)).tr (hto2.chg.trans hc (fun _ hx _=>hx) (fun x hx hl=>by simp at hx; subst hx; omega))⟩
   refine⟨e2,[],[id],hto,hst2,Nat.zero_le _,Nat.le_refl _,.inr ⟨⟨vb,.slice p' (eh m p).length c',vk,vi⟩,.leaf (eh m p),[],rfl,⟨⟨hB,ho.sl,hn2.k.mod hc (fun x hx hh=>by simp at hh; exact hnk x hx hh),hn2.i.mod hc (fun x hx hh=>by simp at hh; exact hni x hx hh),fun x hx=>?_⟩,fun x hx=>?_⟩,⟨rfl,rfl,hok⟩,by simp,⟨hok,hz5⟩,trivial⟩⟩
   ·rcases List.mem_append.1 hx with hx | hx
    ·exact(hnw x hx).2
    ·rcases List.mem_append.1 hx with hx | hx
     ·exact hnk x hx
     ·exact hni x hx
   ·simp only[NV.F,List.mem_cons,List.mem_append] at hx
    rcases hx with rfl | hx | hx | hx
    ·exact⟨by omega,(hnew2 _ (by simp[NV.F])).2⟩
    ·have:=(hnw x hx).1
     exact⟨by omega,fun hh=>by have:=hlt2 x (List.mem_append_right _ hh); omega⟩
    ·have:=hnew2 x (by simp[NV.F,hx]); exact⟨by omega,this.2⟩
    ·have:=hnew2 x (by simp[NV.F,hx]); exact⟨by omega,this.2⟩
  have hc24:Chg [vb] w2 w4:=(hc3.tr hc4).mono (by simp)
  have hTa:At w5 tb 0 [str p.1,str p.2]:=hT5.at (by rfl)
  cases hhas:dh m p.1 with
  | true =>
   have hpl:=fq hhas
   skip
   refine bf (rfl) ?_
   refine aO bG (.pure 0 (.pure 1 (.pure 2 (.read 3 (.pure 4 (.read 5 (.pure 6 (.eff 7 [] .nil)))))))) (by kernel_rfl) ?_
   refine ym rfl rfl rfl ?_
   refine yn rfl rfl rfl rfl ?_
   refine aj rfl rfl rfl (fun _=>(aa bh rfl I33 rfl rfl)) ?_
   refine aX rfl rfl rfl cn rfl rfl (hB5.c rfl) ?_
   refine ym rfl rfl rfl ?_
   refine dM rfl rfl rfl (fun w'=>At w' tb 0 [str p.1,str p.2]) (hTa) (fun w1 h1=>bX fZ rfl I49 rfl h1 rfl) ?_
   refine bA rfl rfl rfl (bW (cY m p.1) cn I49 rfl (ho5.sl) rfl rfl (by first | rfl | omega) (hpl)) ?_
   rintro _ ⟨bi,oi,rfl,hei,hbi⟩
   refine cB rfl rfl rfl (gS (a:=p) I49 rfl (ho5) rfl (hei) rfl rfl (hpl)) ?_
   rintro w6 ⟨ho6,hc6,hs6⟩
   refine⟨trivial,?_⟩
   refine zPR (zm rfl (za rfl (za rfl (a8 (a7 (zrt ?_))))))
   have hc6:Chg (ar (.slice p4 m.length c4)) w5 w6:=hc6
   have hB6:=hB5.chg hc6 (fun hh=>hb4 vb hh rfl)
   have hle:m.length=(eh m p).length:=by rw[qE hps.2 hhas,List.length_set]
   rw[←qE hps.2 hhas] at ho6
   have hnw:∀x∈ar (.slice p4 m.length c4),w2.heap.size≤x∧x≠vb:=fun x hx=>⟨by have:=hi4' x hx; omega,hb4 x hx⟩
   rw[hle] at hB6 ho6 hnw
   exact hfin hB6 ho6 hnw ((hc24.tr hc5).trans hc6 (fun _ hx _=>hx) (fun x hx hl=>by have:=hi4' x hx; omega))
  | false =>
   have hpl:=pH m p.1
   skip
   refine aM (rfl) ?_
   refine aO bG (.pure 0 (.pure 1 (.pure 2 (.pure 3 (.read 4 (.pure 5 (.read 6 (.eff 7 [4] (.eff 8 [] (.pure 9 (.pure 10 (.eff 11 [] .nil)))))))))))) (by kernel_rfl) ?_
   refine ym rfl rfl rfl ?_
   refine ym rfl rfl rfl ?_
   refine yn rfl rfl rfl rfl ?_
   refine aj rfl rfl rfl (fun _=>(aa bh rfl I33 rfl rfl)) ?_
   refine aX rfl rfl rfl cn rfl rfl (hB5.c rfl) ?_
   refine ym rfl rfl rfl ?_
   refine dM rfl rfl rfl (fun w'=>At w' tb 0 [str p.1,str p.2]) (hTa) (fun w1 h1=>bX fZ rfl I49 rfl h1 rfl) ?_
   refine bu rfl rfl rfl (sq p cn I49 rfl rfl rfl rfl rfl (by decide)) ?_
   rintro _ w6 ⟨b6,rfl,hB6,hn6,hc6,hl6⟩
   have hc6:Chg [] w5 w6:=(drw w5).tr hc6
   refine⟨⟨(hB5.chg0 hc6).c rfl,trivial⟩,?_⟩
   have hlt5:=ho5.sl.lt
   refine aG rfl rfl rfl C155 (y1 w6 p4 c4 b6 m p (cY m p.1) (ho5.mod0 hc6) hB6 (fun hh=>by have:=hlt5 b6 hh; have:=hn6; simp at this; omega) hpl (by omega)) ?_
   rintro v7 w7 ⟨ho7,hi7,hc7⟩
   refine⟨trivial,?_⟩
   refine yn rfl rfl rfl rfl ?_
   refine aj rfl rfl rfl (fun _=>(aa bh rfl I33 rfl rfl)) ?_
   have k5:=hc5.1
   have k6:=hc6.1
   rw[←kD hps.2 hhas] at ho7
   have hi7':∀x∈ar v7,w3.heap.size≤x∧x≠vb:=fun x hx=>by
    rcases hi7 x hx with g | g
    ·have:=hi4' x g; exact⟨by omega,hb4 x g⟩
    ·exact⟨by omega,by omega⟩
   have hob2:=ho7.sl.form rfl
   obtain⟨p7,c7,rfl⟩:=hob2
   have hB7:=(hB5.chg0 hc6).chg hc7 (fun hh=>hb4 vb hh rfl)
   refine cB rfl rfl rfl (bD I33 rfl rfl (hB7) rfl rfl ((by decide:1<4)) rfl (rfl)) ?_
   rintro w8 ⟨hB8,hc8,hs8⟩
   refine⟨trivial,?_⟩
   refine zPR (zm rfl (za rfl (za rfl (a8 (a7 (zrt ?_))))))
   replace hB8:Blk w8 vb [.bool true,.slice p7 (eh m p).length c7,vk,vi]:=hB8
   have ho8:=ho7.mod hc8 (fun x hx hh=>by simp at hh; exact(hi7' x hx).2 hh)
   exact hfin hB8 ho8 (fun x hx=>by have:=hi7' x hx; exact⟨by omega,this.2⟩) ((((hc24.tr hc5).tr (hc6.mono (by simp))).trans hc7 (fun _ hx _=>hx) (fun x hx hl=>by have:=hi4' x hx; omega)).tr hc8)
 | succ d ih =>
  intro w e id pg m deep h ht hw hd hml hgl hk
  have hob3:=jw ht
  obtain⟨n,pg0,rfl,hct,hV,hz,hf⟩:=hob3
  have hg:=CT.good hct hz hf
  cases n with
  | leaf ps => exact hct.elim
  | br ks ids =>
  have hgb:brOk ks ids:=hg
  have hfew:=hgb.few
  refine enter [8,9] Tryz.func97 rfl rfl (Nat.le_of_ble_eq_true rfl) ?_
  refine zSR (aS rfl (cg (l:=[str p.1,str p.2]) rfl rfl) ?_)
  rintro _ w1 ⟨tb,rfl,hnt,hT1,hc1,hl1⟩
  refine za rfl (za rfl (zNR (zm rfl (zm rfl (zm rfl ?_)))))
  have h1:=h.chg0 hc1
  have k1:=hc1.1
  refine ah rfl CR (kO c xb w1 e id (.br ks ids) deep h1 (by omega) (hw id (by simp)) hV hg (by omega)) ?_
  rintro _ w2 ⟨v,e2,rfl,hto2,hst2,hs2,hh2⟩
  refine zm rfl (zx rfl rfl rfl (zx rfl rfl rfl (za rfl (za rfl (a8 (a7 (ae (zSR (zm rfl (a6 rfl (bL rfl rfl) ?_))))))))))
  refine a8 (a7 (aF rfl (fun h=>h rfl) ?_))
  refine aA (a7 (ae (zSR (zm rfl (zn rfl rfl (a6 rfl (aa bh rfl I4 rfl rfl) ?_))))))
  have hlt1:=h1.lt
  have htF:tb∉c.F++EF xb e:=fun hh=>by have:=h.lt tb hh; omega
  have hT2:=hT1.chg hto2.chg htF
  have h2:=hto2.at_
  have hlt2:=h2.lt
  have k2:=hto2.chg.1
  have hn2:=hh2.at_
  have hnew2:=hh2.new
  obtain⟨vb,vp,vk,vi⟩:=v
  have hB2:Blk w2 vb [.bool false,vp,vk,vi]:=hn2.blk
  have hi2:Sl w2 vi ids:=hn2.i
  refine a6 rfl (az uU4 rfl rfl (hB2.c rfl)) ?_
  refine a8 (a7 (aM (rfl) ?_))
  refine zKR (zm rfl (a6 rfl (aa fZ rfl I9 rfl rfl) ?_))
  refine a6 rfl (az uU9 rfl rfl (hT2.c rfl)) ?_
  refine ah rfl C60 (qK w2 ⟨vb,vp,vk,vi⟩ ks ids p.1 hn2 hgb.2.2.1.2 (by omega)) ?_
  rintro _ w3 ⟨rfl,hw3⟩
  refine za rfl (a8 (a7 (ae ?_)))
  subst hw3
  have hob4:=hct.hole p.1
  obtain⟨K1,K2,A,t,B,rfl,hpl,rfl,rfl,rfl,hole,hit,hne,hbA,hbB,hq1,hq2⟩:=hob4
  rw[←hpl,←hole.la]
  obtain⟨i0,pg1,m1⟩:=t
  have hAl:A.length<(aT A++i0::aT B).length:=by rw[List.length_append,bm,List.length_cons]; omega
  have hget:(aT A++i0::aT B)[A.length]?=some i0:=by rw[←bm A]; simp
  have hTa:At w2 tb 0 [str p.1,str p.2]:=hT2.at (by rfl)
  have hml2:e2.made=e.made:=by have:=hst2.made; rw[List.append_nil] at this; exact this
  have hgl2:e2.gone.length=e.gone.length+1:=by rw[hst2.gone,List.length_append]; rfl
  have hr:∀x,e2.s.P.now.written x=e.s.P.now.written x:=fun x=>by rw[hs2]
  have hw1:∀x∈pg1,e.s.P.now.written x=true:=fun x hx=>hw x (by simp[hx])
  refine aO bG (.pure 0 (.pure 1 (.pure 2 (.pure 3 (.read 4 (.pure 5 (.pure 6 (.read 7 (.read 8 (.pure 9 (.pure 10 (.eff 11 [] (.pure 12 (.pure 13 (.pure 14 (.pure 15 (.pure 16 .nil))))))))))))))))) (by kernel_rfl) ?_
  refine ym rfl rfl rfl ?_
  refine ym rfl rfl rfl ?_
  refine yn rfl rfl rfl rfl ?_
  refine aj rfl rfl rfl (fun _=>(aa bh rfl I41 rfl rfl)) ?_
  refine aX rfl rfl rfl bw rfl rfl (hB2.c rfl) ?_
  refine ym rfl rfl rfl ?_
  refine bA rfl rfl rfl (bW (A.length) bw I25 rfl (hi2) rfl rfl (by first | rfl | omega) (hAl)) ?_
  rintro _ ⟨bi,oi,rfl,hei,hbi⟩
  refine aX rfl rfl rfl bK rfl rfl (((hi2.at hei hget).c0 rfl)) ?_
  refine dM rfl rfl rfl (fun w'=>At w' tb 0 [str p.1,str p.2]) (hTa) (fun w1 h1=>bX fZ rfl I49 rfl h1 rfl) ?_
  refine ym rfl rfl rfl ?_
  refine aj rfl rfl rfl (fun _=>(aD rfl rfl (by omega))) ?_
  refine aG rfl rfl rfl C97 (ih _ e2 i0 pg1 m1 (deep+1) (h2.chg0 (drw w2)) (by rw[hs2]; exact hit) (fun x hx=>by rw[hr]; exact hw1 x hx) (by omega) (by rw[hml2]; omega) (by omega) (by rw[hs2]; omega)) ?_
  rintro v3 w3 ⟨e3,new,out,hto3,hst3,hnl,hol,hr3⟩
  refine⟨trivial,?_⟩
  replace hto3:c.to xb w2 w3 e2 e3:=hto3.pre (drw w2)
  have hto03:c.to xb w w3 e e3:=((hto2.trans hto3).pre hc1)
  have hst03:Stp c.n e e3 ([]++new) ([id]++out):=hst2.trans hst3
  rcases hr3 with⟨q,rfl,hno3⟩ | ⟨u,n',pg',rfl,hu3,hct3,hperm,hcok,hcf⟩
  ·refine ym rfl rfl rfl ?_
   refine yx rfl rfl rfl rfl rfl ?_
   refine yx rfl rfl rfl rfl rfl ?_
   refine ya rfl rfl rfl ?_
   refine ya rfl rfl rfl ?_
   refine aQ (a7 (ae (zSR (zm rfl (a6 rfl (bL rfl rfl) ?_)))))
   refine a8 (a7 (bs rfl (by decide) ?_))
   refine zSR (zm rfl (za rfl (za rfl (a8 (a7 (zrt ?_))))))
   exact⟨e3,new,[id]++out,hto03,hst03,by omega,by rw[List.length_append,List.length_singleton]; omega,.inl ⟨_,rfl,hno3⟩⟩
  ·refine ym rfl rfl rfl ?_
   refine yx rfl rfl rfl rfl rfl ?_
   refine yx rfl rfl rfl rfl rfl ?_
   refine ya rfl rfl rfl ?_
   refine ya rfl rfl rfl ?_
   refine aQ (a7 (ae (zSR (zm rfl (a6 rfl (bL rfl rfl) ?_)))))
   refine a8 (a7 (aF rfl (fun h=>h rfl) ?_))
   refine zKR (zm rfl (zm rfl (zm rfl (zm rfl (zm rfl ?_)))))
   have h3:=hto3.at_
   have hflo:∀x∈c.F,x<w.heap.size:=h.pg.lt
   have hflo1:∀x∈c.F,x<w1.heap.size:=h1.pg.lt
   have hv3:c.has xb e3 w.heap.size w3 ⟨vb,vp,vk,vi⟩ (.br (K1++K2) (aT A++i0::aT B)):=(hh2.step hto3 hflo1).lo k1
   have hdw:w2.heap.size≤(({ w2 with drawn:=w2.drawn+1 }:World)).heap.size:=Nat.le_refl _
   have hu3':c.has xb e3 w.heap.size w3 u n':=hu3.lo (Nat.le_trans k1 (Nat.le_trans k2 hdw))
   have hold:∀x,e.s.P.now.written x=true→e3.s.V x=e.s.V x:=fun x hx=>by rw[hst3.ext.old x (by rw[hr]; exact hx),hs2]
   have hwr:∀x,e.s.P.now.written x=true→e3.s.P.now.written x=true:=fun x hx=>hst3.ext.wr (by rw[hr]; exact hx)
   have hwp:∀x∈pg',e3.s.P.now.written x=true:=fun x hx=>by
    rcases List.mem_append.1 (hperm.subset (List.mem_append_left _ hx)) with g | g
    ·exact hwr x (hw1 x g)
    ·exact(hst3.ext.mem g).2
   have hole3:Hole e3.s.V d K1 K2 A B (eh m1 p):=Hole.put (hole.mono (fun y hy=>hold y (hw y (by rcases List.mem_append.1 hy with g | g <;> simp[g])))) hq1 hq2
   have hmk:e3.made.length≤900∧e3.s.k+2≤40000:=by
    have a1:=hst3.made
    have a2:=hst3.k
    have a3:e2.s.k=e.s.k:=by rw[hs2]
    rw[hml2] at a1
    have a4:=congrArg List.length a1
    rw[List.length_append] at a4
    omega
   have hkk:=hmk.2
   have hall:∀x∈pgT A++(pg'++pgT B),e3.s.P.now.written x=true:=fun x hx=>by
    rcases List.mem_append.1 hx with g | g
    ·exact hwr x (hw x (by simp[g]))
    ·rcases List.mem_append.1 g with g | g
     ·exact hwp x g
     ·exact hwr x (hw x (by simp[g]))
   refine ah rfl C156 (jH c xb w3 e3 ⟨vb,vp,vk,vi⟩ u w.heap.size d K1 K2 A B i0 n' pg' (eh m1 p) h3 hv3 hu3' hflo hole3 hct3 (putP_ne _ _) hcf hcok hall hmk.1 hkk (Nat.le_trans hfew.2 (by decide))) ?_
   rintro v4 w4 ⟨e4,new2,h4,hgr4,hc4,hst4,hr4⟩
   refine za rfl (za rfl (a8 (a7 (zrf ?_))))
   have hst04:=hst03.trans hst4
   rw[List.nil_append,List.append_nil] at hst04
   have hvw:w.heap.size≤vb:=(hv3.new vb (by simp[NV.F])).1
   have hto04:c.to xb w w4 e e4:=⟨h4,fun x hx=>by
    rcases hgr4 x hx with g | g
    ·exact hto03.grow x g
    ·exact .inr (by have:=hto03.chg.1; omega),hto03.chg.trans hc4 (fun _ hx _=>hx) (fun x hx hl=>by
     rcases List.mem_cons.1 hx with g | g
     ·have g:x=vb:=g
      omega
     ·rcases List.mem_append.1 g with g | g
      ·exact List.mem_append_left _ g
      ·rcases hto03.grow x g with g | g
       ·exact List.mem_append_right _ g
       ·omega)⟩
   rcases hr4 with⟨rfl,hno4,hn4⟩ | ⟨rfl,hn4,n4,pg4,kv,iv,hct4,hperm4,hz4,hf4,hhas4⟩
   ·exact⟨e4,new++new2,[id]++out,hto04,hst04,by rw[List.length_append]; omega,by rw[List.length_append,List.length_singleton]; omega,.inl ⟨_,rfl,hno4⟩⟩
   ·refine⟨e4,new++new2,[id]++out,hto04,hst04,by rw[List.length_append]; omega,by rw[List.length_append,List.length_singleton]; omega,.inr ⟨⟨vb,vp,kv,iv⟩,n4,pg4,rfl,hhas4,?_,tV hperm hperm4,hct4.ok (.inl (Nat.le_trans hz4 (by have:cnZ (.br (K1++K2) (aT A++i0::aT B))≤480:=hz; omega))),hf4 (.inl hgb.1)⟩⟩
    rw[Bv hbA hbB]; exact hct4
end Go.Proofs.YtpbfapbajmdlkaaGreat

end
section
namespace Go.Proofs.YtpbfapbajmdlkaaGreat
open Go Go.Sac
set_option maxRecDepth 100000
set_option maxHeartbeats 4000000
theorem CT.some{V:UInt32→Bs}{d:Nat}{ks:List Bs}{ids pg:List UInt32}{m:List Pr}(h:CT V (d+1) (.br ks ids) pg m):m≠[]:=by
 obtain⟨ts,rfl,_,rfl,rfl,h5,h6⟩:=h
 cases ts with
 | nil => exact absurd h5.len (by simp [msT])
 | cons t ts => rw [eB]; simp [(h6 t List.mem_cons_self).2]
theorem yC{w:World}{nb:Nat}{p p':Option Addr}{c c':Nat}{ks:List Bs}{ids:List UInt32}(hN:Blk w nb [.bool false,.slice none 0 0,.slice p ks.length c,.slice p' ids.length c'])(hk:Sl w (.slice p ks.length c) ks)(hi:Sl w (.slice p' ids.length c') ids)(h1:∀x∈ar (.slice p ks.length c),x<nb)(h2:∀x∈ar (.slice p' ids.length c'),x<nb):NAt w ⟨nb,.slice none 0 0,.slice p ks.length c,.slice p' ids.length c'⟩ (.br ks ids) :=
 ⟨hN,Sl.nil _ _,hk,hi,fun x hx=>by
  have hx:x∈ar (.slice p ks.length c)++ar (.slice p' ids.length c'):=hx
  rcases List.mem_append.1 hx with hx | hx
  ·exact Nat.ne_of_lt (h1 x hx)
  ·exact Nat.ne_of_lt (h2 x hx)⟩
def JoinR(c:TC)(xb lo:Nat)(w:World)(e:TE)(v:NV)(d:Nat)(pg:List UInt32)(m:List Pr)(r:Value)(w':World):Prop :=
 ∃e' new out,c.ed xb w' e'∧(∀x∈EF xb e',x∈EF xb e∨w.heap.size≤x)∧Chg (v.b::(c.F++EF xb e)) w w'∧Stp c.n e e' new out∧new.length≤2∧out.length≤1 ∧
  ((r = .int .i64 70∧jU c.n e'.s.P)∨(r = .int .i64 0∧∃n' pg' kv iv,CT e'.s.V d n' pg' m∧(pg'++out).Perm (pg++new)∧cnZ n'≤546∧c.has xb e' lo w' ⟨v.b,v.p,kv,iv⟩ n'))
theorem C0(c:TC)(xb:Nat)(w:World)(e:TE)(v u:NV)(lo d:Nat)(K1 K2:List Bs)(A B:List Kd)(i0:UInt32)(ids0:List UInt32)(pg:List UInt32)(m:List Pr)
  (h:c.ed xb w e) (hv:c.has xb e lo w v (.br (K1++K2) (aT A++i0::aT B))) (hu:c.has xb e lo w u (.br [] ids0)) (hf:∀x∈c.F,x<lo)
  (hole:Hole e.s.V (d+1) K1 K2 A B m) (hct:CT e.s.V (d+1) (.br [] ids0) pg m) (hm:m≠[]) (hb:brOk (K1++K2) (aT A++i0::aT B))
  (hw:∀x∈pgT A++(pg++pgT B),e.s.P.now.written x=true) (hml:e.made.length≤900) (hgl:e.gone.length≤900) (hk:e.s.k+2≤40000) :
  Ret Tryz.prog 170 #[.pointer (some ⟨xb,0,none⟩),v.ptr,.int .i64 A.length,u.ptr] w (JoinR c xb lo w e v (d+2) (pgT A++(pg++pgT B)) (prT A++(m++prT B))):=by
 have hfew:=hb.few
 obtain⟨z,L1,key,L2,C,D,t,hKL,hCl,hkey,hit,htm,htp,hz,hAC,hids,hjoin⟩:=hole.nbr hb.1
 obtain⟨iL,iR,hidl,ht1⟩:=hids i0
 obtain⟨ny,py,htp2,hcty,hVy,hzy,hfy⟩:=jw hit
 cases ny with
 | leaf ps => exact hcty.elim
 | br ky iy =>
 obtain⟨mm,pp,hctj,holej,hpr,hperm⟩:=hjoin [] ids0 pg ky iy py hct hcty htp2
 have hAl:A.length≤68:=by have:=hfew.2; simp only[List.length_append,List.length_cons,bm] at this; omega
 have hmax:max ((A.length:Int)-1) 0=(C.length:Int):=by
  cases z with
  | true => have q1 := hz.2 rfl; have q2 : A.length = C.length + 0 := hAC; omega
  | false => have q2 : A.length = C.length + 1 := hAC; omega
 obtain⟨b,vp,vk,vi⟩:=v
 have hn:=hv.at_
 have hB:Blk w b [.bool false,vp,vk,vi]:=hn.blk
 have hi:Sl w vi (aT A++i0::aT B):=hn.i
 have hkS:Sl w vk (K1++K2):=hn.k
 rw[hidl] at hi
 rw[hKL] at hkS
 have hIl:(aT A++i0::aT B).length=(aT C++iL::iR::aT D).length:=by rw[hidl]
 have hIl2:(aT C++iL::iR::aT D).length=C.length+2+D.length:=by rw[List.length_append,List.length_cons,List.length_cons,bm,bm]; omega
 have hjl:C.length+z.toNat<(aT C++iL::iR::aT D).length:=by have:=Bool.toNat_le z; omega
 have hjg:(aT C++iL::iR::aT D)[C.length+z.toNat]?=some t.1:=by
  rw[←bm C]
  cases z with
  | true => have q : iR = t.1 := ht1; rw [List.getElem?_append_right (by omega), q]; simp
  | false => have q : iL = t.1 := ht1; rw [q]; simp
 obtain⟨pi,ci,rfl⟩:∃p c,vi = .slice p (aT C++iL::iR::aT D).length c:=hi.form rfl
 refine enter [8] Tryz.func170 rfl rfl (Nat.le_of_ble_eq_true rfl) ?_
 refine zSR (za rfl (zNR (zm rfl (a6 rfl (cj rfl rfl (by omega)) (a6 rfl (ow rfl rfl) (za rfl ?_))))))
 refine a8 (a7 ?_)
 rw[hmax]
 refine zSR (zm rfl (za rfl (a8 (a7 (gL [10] [10,20,21] (fun vs w'=>vs=[.int .i64 (C.length+z.toNat:Nat)]∧w=w') (by kernel_rfl) ?_ ?_)))))
 ·refine zSR (zm rfl (a6 rfl (cX rfl rfl) ?_))
  refine a8 (a7 (aC rfl (fun hA=>?_) (fun hA=>?_)))
  ·refine al (za rfl (a8 (a7 ?_)))
   refine⟨?_,rfl⟩
   have hz1:z=true:=hz.1 (by omega)
   have q2:A.length=C.length+0:=by rw[hz1] at hAC; exact hAC
   have q3:C.length=0:=by omega
   rw[hz1,q3]; rfl
  ·refine aA (a7 ?_)
   refine⟨?_,rfl⟩
   have hz0:z=false:=by cases z with | true=>exact absurd (by have:=hz.2 rfl; omega) hA | false=>rfl
   rw[hz0]; rfl
 ·rintro vs J w1 ⟨rfl,rfl⟩
  refine ae (zSR (zm rfl (zm rfl (zn rfl rfl (a6 rfl (aa bh rfl I41 rfl rfl) ?_)))))
  refine a6 rfl (az bw rfl rfl (hB.c rfl)) ?_
  refine a6 rfl (ax rfl bw) (a6 rfl (j5 rfl rfl) ?_)
  refine a8 (a7 (aF rfl (by omega) ?_))
  refine zKR (zm rfl (zm rfl (zn rfl rfl (a6 rfl (aa bh rfl I41 rfl rfl) ?_))))
  have hwt:∀x∈t.2.1,e.s.P.now.written x=true:=fun x hx=>hw x (by have:=htp x hx; rcases List.mem_append.1 this with g | g <;> simp[g])
  refine a6 rfl (az bw rfl rfl (hB.c rfl)) ?_
  refine zm rfl (bg rfl (bW (C.length+z.toNat) bw I25 rfl (hi) rfl rfl (by first | rfl | omega) (hjl)) ?_)
  rintro _ ⟨bi,oi,rfl,hei,hbi⟩
  refine a6 rfl (az bK rfl rfl (((hi.at hei hjg).c0 rfl))) ?_
  refine ah rfl CR (kO c xb w e t.1 (.br ky iy) 0 h (by omega) (hwt _ (by rw[htp2]; simp)) hVy (CT.good hcty hzy hfy) (by omega)) ?_
  rintro _ w2 ⟨y,e2,rfl,hto2,hst2,hs2,hh2⟩
  refine zm rfl (zx rfl rfl rfl (zx rfl rfl rfl (za rfl (za rfl (a8 (a7 (ae (zSR (zm rfl ?_)))))))))
  have hob1:∃x,x=(bif z then u else y):=⟨_,rfl⟩
  obtain⟨ua,hua⟩:=hob1
  have hob2:∃x,x=(bif z then y else u):=⟨_,rfl⟩
  obtain⟨ub,hub⟩:=hob2
  refine a6 rfl (bR (bL rfl rfl) (congrArg Value.bool (decide_eq_false (fun h=>h rfl)))) ?_
  refine zm rfl (ag rfl (zm rfl (ag rfl (zn rfl rfl (ag rfl (a6 rfl (aa bh rfl I4 rfl rfl) (ag rfl ?_)))))))
  have hhy:=hh2.at_
  have hBy:Blk w2 y.b [.bool false,y.p,y.k,y.i]:=hhy.blk
  refine a6 rfl (az uU4 rfl rfl (hBy.c rfl)) ?_
  refine a6 rfl (aL rfl) (a8 (a7 (aM (rfl) ?_)))
  refine zKR (zm rfl (zm rfl (za rfl (za rfl (a8 (a7 (gL [13,14] [13,14,51,52,53,54] (fun vs w'=>vs=[ua.ptr,ub.ptr]∧w2=w') (by kernel_rfl) ?_ ?_)))))))
  ·refine zSR (zm rfl (a6 rfl (cX rfl rfl) ?_))
   refine a8 (a7 (aC rfl (fun hA=>?_) (fun hA=>?_)))
   ·refine al (zm rfl (zm rfl (za rfl (za rfl (a8 (a7 ?_))))))
    have hz1:z=true:=hz.1 (by omega)
    subst hz1
    have hua:ua=u:=hua
    have hub:ub=y:=hub
    rw[hua,hub]; exact⟨rfl,rfl⟩
   ·refine aA (a7 ?_)
    have hz0:z=false:=by cases z with | true=>exact absurd (by have:=hz.2 rfl; omega) hA | false=>rfl
    subst hz0
    have hua:ua=y:=hua
    have hub:ub=u:=hub
    rw[hua,hub]; exact⟨rfl,rfl⟩
  ·rintro vs J w3 ⟨rfl,rfl⟩
   have hlo:lo≤w.heap.size:=by
    have h1:=(hv.new b (by simp[NV.F])).1
    have h2:=hB.lt
    omega
   have hv2:=hv.step hto2 hf
   have hu2:=hu.step hto2 hf
   have hy2:=hh2.lo hlo
   have hi2':=hv2.at_.i
   have hob3:∃x,x=(bif z then ([]:List Bs) else ky):=⟨_,rfl⟩
   obtain⟨ka,hka⟩:=hob3
   have hob4:∃x,x=(bif z then ky else ([]:List Bs)):=⟨_,rfl⟩
   obtain⟨kb,hkb⟩:=hob4
   have hob5:∃x,x=(bif z then ids0 else iy):=⟨_,rfl⟩
   obtain⟨ia,hia⟩:=hob5
   have hob6:∃x,x=(bif z then iy else ids0):=⟨_,rfl⟩
   obtain⟨ib,hib⟩:=hob6
   rw[←hka,←hkb,←hia,←hib] at hctj
   have hA2:c.has xb e2 lo w2 ua (.br ka ia):=by subst hua; subst hka; subst hia; cases z; exact hy2; exact hu2
   have hB2:c.has xb e2 lo w2 ub (.br kb ib):=by subst hub; subst hkb; subst hib; cases z; exact hu2; exact hy2
   have hsz:cnZ (.br (ka++key::kb) (ia++ib))≤546:=by
    have hob7:=hct.lone
    obtain⟨d',id,_,q,_⟩:=hob7
    have q1:3+4*iy.length+cw ky≤480:=hzy
    have q2:=hkey.2
    show 3+4*(ia++ib).length+cw (ka++key::kb)≤546
    rw[List.length_append,fI,gH]
    subst hia; subst hib; subst hka; subst hkb; subst q
    cases z <;> simp[cw] at q1 ⊢ <;> omega
   have hBv:Blk w2 b [.bool false,vp,vk,.slice pi (aT C++iL::iR::aT D).length ci]:=hv2.at_.blk
   have hk2:=hv2.at_.k
   have hk2:Sl w2 vk (K1++K2):=hk2
   rw[hKL] at hk2
   obtain⟨ab,ap,ak,ai⟩:=ua
   obtain⟨bb,bp,bk,bi⟩:=ub
   have hBa:Blk w2 ab [.bool false,ap,ak,ai]:=hA2.at_.blk
   have hBb:Blk w2 bb [.bool false,bp,bk,bi]:=hB2.at_.blk
   have hak:Sl w2 ak ka:=hA2.at_.k
   have hbk:Sl w2 bk kb:=hB2.at_.k
   have hai:Sl w2 ai ia:=hA2.at_.i
   have hbi2:Sl w2 bi ib:=hB2.at_.i
   have hob8:∃p c,ak = .slice p ka.length c:=hak.form rfl
   obtain⟨pak,cak,rfl⟩:=hob8
   have hob9:∃p c,bk = .slice p kb.length c:=hbk.form rfl
   obtain⟨pbk,cbk,rfl⟩:=hob9
   have hob10:∃p c,ai = .slice p ia.length c:=hai.form rfl
   obtain⟨pai,cai,rfl⟩:=hob10
   have hob11:∃p c,bi = .slice p ib.length c:=hbi2.form rfl
   obtain⟨pbi,cbi,rfl⟩:=hob11
   have hlk:(ka++key::kb).length≤300∧(ia++ib).length≤300:=by
    have q1:=nW (ka++key::kb)
    have q:3+4*(ia++ib).length+cw (ka++key::kb)≤546:=hsz
    omega
   have hfS:[ka,[key],kb].flatten=ka++key::kb:=by simp
   have hfU:[ia,ib].flatten=ia++ib:=by simp
   refine gL [15] [15,55,56,57,58,59,60,61,62,63,64,65,66,67,68,69,70,71,72,73,74,75,76,77,78,79,80,81,82,83,84] (fun vs w'=>∃q:NV,vs=[q.ptr]∧NAt w' q (.br (ka++key::kb) (ia++ib))∧(∀x∈q.F,w2.heap.size≤x)∧Chg [] w2 w') (by kernel_rfl) ?_ ?_
   ·refine aO bG (.pure 0 (.pure 1 (.pure 2 (.read 3 (.pure 4 (.pure 5 (.pure 6 (.read 7 (.pure 8 (.pure 9 (.pure 10 (.pure 11 (.pure 12 (.pure 13 (.pure 14 (.read 15 (.pure 18 (.pure 19 (.pure 20 (.read 21 (.pure 22 (.pure 23 (.pure 24 (.read 25 (.alt (.eff 16 [21,25] (.alt (.eff 17 [21,25] (.eff 26 [3,7,15] (.eff 27 [] (.pure 28 (.eff 29 [] (.pure 30 .nil)))))) (.eff 26 [3,7,15] (.eff 17 [21,25] (.eff 27 [] (.pure 28 (.eff 29 [] (.pure 30 .nil)))))))) (.eff 26 [3,7,15] (.eff 16 [21,25] (.eff 17 [21,25] (.eff 27 [] (.pure 28 (.eff 29 [] (.pure 30 .nil)))))))))))))))))))))))))))))))) (by kernel_rfl) ?_
    refine ym rfl rfl rfl ?_
    refine yn rfl rfl rfl rfl ?_
    refine aj rfl rfl rfl (fun _=>(aa bh rfl I70 rfl rfl)) ?_
    refine aX rfl rfl rfl bS rfl rfl (hBa.c rfl) ?_
    refine ym rfl rfl rfl ?_
    refine yn rfl rfl rfl rfl ?_
    refine aj rfl rfl rfl (fun _=>(aa bh rfl I70 rfl rfl)) ?_
    refine aX rfl rfl rfl bS rfl rfl (hBv.c rfl) ?_
    refine ym rfl rfl rfl ?_
    refine ym rfl rfl rfl ?_
    refine aj rfl rfl rfl (fun _=>(aD rfl rfl (by omega))) ?_
    refine bA rfl rfl rfl (pU C.length (C.length+1) bS I9 rfl hk2 rfl rfl rfl rfl rfl (by rw[List.length_append,List.length_cons]; omega)) ?_
    rintro vm ⟨hvm,hsm,hbm⟩
    refine ym rfl rfl rfl ?_
    refine yn rfl rfl rfl rfl ?_
    refine aj rfl rfl rfl (fun _=>(aa bh rfl I70 rfl rfl)) ?_
    have hmid:((L1++key::L2).drop C.length).take (C.length+1-C.length)=[key]:=by rw[hCl]; simp
    rw[hmid] at hsm
    obtain⟨pm,cm,rfl⟩:=hvm
    refine aX rfl rfl rfl bS rfl rfl (hBb.c rfl) ?_
    refine ym rfl rfl rfl ?_
    refine yn rfl rfl rfl rfl ?_
    refine aj rfl rfl rfl (fun _=>(aa bh rfl I41 rfl rfl)) ?_
    refine aX rfl rfl rfl bw rfl rfl (hBa.c rfl) ?_
    refine ym rfl rfl rfl ?_
    refine yn rfl rfl rfl rfl ?_
    refine aj rfl rfl rfl (fun _=>(aa bh rfl I41 rfl rfl)) ?_
    refine aX rfl rfl rfl bw rfl rfl (hBb.c rfl) ?_
    have hcum:=drw w2
    have hlsS:∀w':World,Chg [] w2 w'→∀(i:Nat) (s:gb) (l:List Bs),[(⟨.slice pak ka.length cak,_,_,_,rfl⟩:gb),⟨.slice pm (C.length+1-C.length) cm,_,_,_,rfl⟩,⟨.slice pbk kb.length cbk,_,_,_,rfl⟩][i]?=some s→[ka,[key],kb][i]?=some l→Sl w' s.1 l:=fun w' hc i s l h1 h2=>by
     match i,h1,h2 with
     | 0, h1, h2 => cases h1; cases h2; exact hak.mod0 hc
     | 1, h1, h2 => cases h1; cases h2; exact hsm.mod0 hc
     | 2, h1, h2 => cases h1; cases h2; exact hbk.mod0 hc
     | n + 3, h1, _ => simp at h1
    have hlsU:∀w':World,Chg [] w2 w'→∀(i:Nat) (s:gb) (l:List UInt32),[(⟨.slice pai ia.length cai,_,_,_,rfl⟩:gb),⟨.slice pbi ib.length cbi,_,_,_,rfl⟩][i]?=some s→[ia,ib][i]?=some l→Sl w' s.1 l:=fun w' hc i s l h1 h2=>by
     match i,h1,h2 with
     | 0, h1, h2 => cases h1; cases h2; exact hai.mod0 hc
     | 1, h1, h2 => cases h1; cases h2; exact hbi2.mod0 hc
     | n + 2, h1, _ => simp at h1
    refine dH ?_ ?_
    ·refine bu rfl rfl rfl (tB [.slice pak ka.length cak,.slice pm (C.length+1-C.length) cm,.slice pbk kb.length cbk] [(⟨.slice pak ka.length cak,_,_,_,rfl⟩:gb),⟨.slice pm (C.length+1-C.length) cm,_,_,_,rfl⟩,⟨.slice pbk kb.length cbk,_,_,_,rfl⟩] sA I70 rfl rfl rfl rfl rfl rfl (by decide)) ?_
     rintro v16 wq16 ⟨hoL,hc16,hiL⟩
     have hcum:=hcum.tr hc16
     refine⟨⟨(hBa.chg0 hcum).c rfl,(hBb.chg0 hcum).c rfl,trivial⟩,?_⟩
     refine dH ?_ ?_
     ·refine aG rfl rfl rfl C212 (mi _ v16 _ [ka,[key],kb] hoL.sl rfl (hlsS _ hcum) (by rw[hfS]; omega) (Nat.le_of_ble_eq_true rfl)) ?_
      rintro v17 wq17 ⟨hoK,hiK,hc17⟩
      have hiK:∀x∈ar v17,w2.heap.size≤x:=fun x hx=>Nat.le_trans hcum.1 (hiK.ge x hx)
      rw[hfS] at hoK
      have hcum:=hcum.tr hc17
      have hoL:=hoL.mod0 hc17
      refine⟨⟨(hBa.chg0 hcum).c rfl,(hBb.chg0 hcum).c rfl,trivial⟩,?_⟩
      refine bu rfl rfl rfl (tB [.slice pai ia.length cai,.slice pbi ib.length cbi] [(⟨.slice pai ia.length cai,_,_,_,rfl⟩:gb),⟨.slice pbi ib.length cbi,_,_,_,rfl⟩] qj I41 rfl rfl rfl rfl rfl rfl (by decide)) ?_
      rintro v26 wq26 ⟨hoM,hc26,hiM⟩
      have hcum:=hcum.tr hc26
      have hoL:=hoL.mod0 hc26
      have hoK:=hoK.mod0 hc26
      refine⟨⟨(hBa.chg0 hcum).c rfl,(hBv.chg0 hcum).c rfl,(hBb.chg0 hcum).c rfl,trivial⟩,?_⟩
      refine aG rfl rfl rfl C213 (mh _ v26 _ [ia,ib] hoM.sl rfl (hlsU _ hcum) (by rw[hfU]; omega) (Nat.le_of_ble_eq_true rfl)) ?_
      rintro v27 wq27 ⟨hoU,hiU,hc27⟩
      refine⟨trivial,?_⟩
      have hiU:∀x∈ar v27,w2.heap.size≤x:=fun x hx=>Nat.le_trans hcum.1 (hiU.ge x hx)
      rw[hfU] at hoU
      have hcum:=hcum.tr hc27
      have hoL:=hoL.mod0 hc27
      have hoK:=hoK.mod0 hc27
      have hoM:=hoM.mod0 hc27
      have hob12:=hoK.sl.form rfl
      obtain⟨p17,c17,rfl⟩:=hob12
      have hob13:=hoU.sl.form rfl
      obtain⟨p27,c27,rfl⟩:=hob13
      refine aj rfl rfl rfl (fun _=>bN bh rA rfl (zs:=[.bool false,.slice none 0 0,.slice none 0 0,.slice none 0 0]) rfl rfl (bZ rfl rfl rfl (Nat.le_of_ble_eq_true rfl) (bZ rfl rfl rfl (Nat.le_of_ble_eq_true rfl) (ej (cs':=[.bool false,.slice none 0 0,.slice p17 (ka++key::kb).length c17,.slice p27 (ia++ib).length c27]) rfl)))) ?_
      refine bu rfl rfl rfl (cg (l:=[.bool false,.slice none 0 0,.slice p17 (ka++key::kb).length c17,.slice p27 (ia++ib).length c27]) rfl rfl) ?_
      rintro _ wq29 ⟨nb,rfl,hnt,hN,hc29,hl29⟩
      refine⟨trivial,?_⟩
      refine ya rfl rfl rfl ?_
      refine aQ (a7 ?_)
      have kcum:=hcum.1
      have hltK:=hoK.sl.lt
      have hltU:=hoU.sl.lt
      have hoL:=hoL.mod0 hc29
      have hoK:=hoK.mod0 hc29
      have hoM:=hoM.mod0 hc29
      have hoU:=hoU.mod0 hc29
      exact⟨⟨nb,.slice none 0 0,.slice p17 (ka++key::kb).length c17,.slice p27 (ia++ib).length c27⟩,rfl,yC hN hoK.sl hoU.sl (fun x hx=>Nat.lt_of_lt_of_le (hltK x hx) hnt) (fun x hx=>Nat.lt_of_lt_of_le (hltU x hx) hnt),fun x hx=>by
       have hx:x∈nb::(ar (.slice p17 (ka++key::kb).length c17)++ar (.slice p27 (ia++ib).length c27)):=hx
       rcases List.mem_cons.1 hx with rfl | hx
       ·omega
       ·rcases List.mem_append.1 hx with hx | hx
        ·exact hiK x hx
        ·exact hiU x hx,hcum.tr hc29⟩
     ·refine bu rfl rfl rfl (tB [.slice pai ia.length cai,.slice pbi ib.length cbi] [(⟨.slice pai ia.length cai,_,_,_,rfl⟩:gb),⟨.slice pbi ib.length cbi,_,_,_,rfl⟩] qj I41 rfl rfl rfl rfl rfl rfl (by decide)) ?_
      rintro v26 wq26 ⟨hoM,hc26,hiM⟩
      have hcum:=hcum.tr hc26
      have hoL:=hoL.mod0 hc26
      refine⟨⟨(hBa.chg0 hcum).c rfl,(hBv.chg0 hcum).c rfl,(hBb.chg0 hcum).c rfl,trivial⟩,?_⟩
      refine aG rfl rfl rfl C212 (mi _ v16 _ [ka,[key],kb] hoL.sl rfl (hlsS _ hcum) (by rw[hfS]; omega) (Nat.le_of_ble_eq_true rfl)) ?_
      rintro v17 wq17 ⟨hoK,hiK,hc17⟩
      have hiK:∀x∈ar v17,w2.heap.size≤x:=fun x hx=>Nat.le_trans hcum.1 (hiK.ge x hx)
      rw[hfS] at hoK
      have hcum:=hcum.tr hc17
      have hoL:=hoL.mod0 hc17
      have hoM:=hoM.mod0 hc17
      refine⟨⟨(hBa.chg0 hcum).c rfl,(hBb.chg0 hcum).c rfl,trivial⟩,?_⟩
      refine aG rfl rfl rfl C213 (mh _ v26 _ [ia,ib] hoM.sl rfl (hlsU _ hcum) (by rw[hfU]; omega) (Nat.le_of_ble_eq_true rfl)) ?_
      rintro v27 wq27 ⟨hoU,hiU,hc27⟩
      refine⟨trivial,?_⟩
      have hiU:∀x∈ar v27,w2.heap.size≤x:=fun x hx=>Nat.le_trans hcum.1 (hiU.ge x hx)
      rw[hfU] at hoU
      have hcum:=hcum.tr hc27
      have hoL:=hoL.mod0 hc27
      have hoM:=hoM.mod0 hc27
      have hoK:=hoK.mod0 hc27
      have hob14:=hoK.sl.form rfl
      obtain⟨p17,c17,rfl⟩:=hob14
      have hob15:=hoU.sl.form rfl
      obtain⟨p27,c27,rfl⟩:=hob15
      refine aj rfl rfl rfl (fun _=>bN bh rA rfl (zs:=[.bool false,.slice none 0 0,.slice none 0 0,.slice none 0 0]) rfl rfl (bZ rfl rfl rfl (Nat.le_of_ble_eq_true rfl) (bZ rfl rfl rfl (Nat.le_of_ble_eq_true rfl) (ej (cs':=[.bool false,.slice none 0 0,.slice p17 (ka++key::kb).length c17,.slice p27 (ia++ib).length c27]) rfl)))) ?_
      refine bu rfl rfl rfl (cg (l:=[.bool false,.slice none 0 0,.slice p17 (ka++key::kb).length c17,.slice p27 (ia++ib).length c27]) rfl rfl) ?_
      rintro _ wq29 ⟨nb,rfl,hnt,hN,hc29,hl29⟩
      refine⟨trivial,?_⟩
      refine ya rfl rfl rfl ?_
      refine aQ (a7 ?_)
      have kcum:=hcum.1
      have hltK:=hoK.sl.lt
      have hltU:=hoU.sl.lt
      have hoL:=hoL.mod0 hc29
      have hoM:=hoM.mod0 hc29
      have hoK:=hoK.mod0 hc29
      have hoU:=hoU.mod0 hc29
      exact⟨⟨nb,.slice none 0 0,.slice p17 (ka++key::kb).length c17,.slice p27 (ia++ib).length c27⟩,rfl,yC hN hoK.sl hoU.sl (fun x hx=>Nat.lt_of_lt_of_le (hltK x hx) hnt) (fun x hx=>Nat.lt_of_lt_of_le (hltU x hx) hnt),fun x hx=>by
       have hx:x∈nb::(ar (.slice p17 (ka++key::kb).length c17)++ar (.slice p27 (ia++ib).length c27)):=hx
       rcases List.mem_cons.1 hx with rfl | hx
       ·omega
       ·rcases List.mem_append.1 hx with hx | hx
        ·exact hiK x hx
        ·exact hiU x hx,hcum.tr hc29⟩
    ·refine bu rfl rfl rfl (tB [.slice pai ia.length cai,.slice pbi ib.length cbi] [(⟨.slice pai ia.length cai,_,_,_,rfl⟩:gb),⟨.slice pbi ib.length cbi,_,_,_,rfl⟩] qj I41 rfl rfl rfl rfl rfl rfl (by decide)) ?_
     rintro v26 wq26 ⟨hoM,hc26,hiM⟩
     have hcum:=hcum.tr hc26
     refine⟨⟨(hBa.chg0 hcum).c rfl,(hBv.chg0 hcum).c rfl,(hBb.chg0 hcum).c rfl,trivial⟩,?_⟩
     refine bu rfl rfl rfl (tB [.slice pak ka.length cak,.slice pm (C.length+1-C.length) cm,.slice pbk kb.length cbk] [(⟨.slice pak ka.length cak,_,_,_,rfl⟩:gb),⟨.slice pm (C.length+1-C.length) cm,_,_,_,rfl⟩,⟨.slice pbk kb.length cbk,_,_,_,rfl⟩] sA I70 rfl rfl rfl rfl rfl rfl (by decide)) ?_
     rintro v16 wq16 ⟨hoL,hc16,hiL⟩
     have hcum:=hcum.tr hc16
     have hoM:=hoM.mod0 hc16
     refine⟨⟨(hBa.chg0 hcum).c rfl,(hBb.chg0 hcum).c rfl,trivial⟩,?_⟩
     refine aG rfl rfl rfl C212 (mi _ v16 _ [ka,[key],kb] hoL.sl rfl (hlsS _ hcum) (by rw[hfS]; omega) (Nat.le_of_ble_eq_true rfl)) ?_
     rintro v17 wq17 ⟨hoK,hiK,hc17⟩
     have hiK:∀x∈ar v17,w2.heap.size≤x:=fun x hx=>Nat.le_trans hcum.1 (hiK.ge x hx)
     rw[hfS] at hoK
     have hcum:=hcum.tr hc17
     have hoM:=hoM.mod0 hc17
     have hoL:=hoL.mod0 hc17
     refine⟨⟨(hBa.chg0 hcum).c rfl,(hBb.chg0 hcum).c rfl,trivial⟩,?_⟩
     refine aG rfl rfl rfl C213 (mh _ v26 _ [ia,ib] hoM.sl rfl (hlsU _ hcum) (by rw[hfU]; omega) (Nat.le_of_ble_eq_true rfl)) ?_
     rintro v27 wq27 ⟨hoU,hiU,hc27⟩
     refine⟨trivial,?_⟩
     have hiU:∀x∈ar v27,w2.heap.size≤x:=fun x hx=>Nat.le_trans hcum.1 (hiU.ge x hx)
     rw[hfU] at hoU
     have hcum:=hcum.tr hc27
     have hoM:=hoM.mod0 hc27
     have hoL:=hoL.mod0 hc27
     have hoK:=hoK.mod0 hc27
     have hob16:=hoK.sl.form rfl
     obtain⟨p17,c17,rfl⟩:=hob16
     have hob17:=hoU.sl.form rfl
     obtain⟨p27,c27,rfl⟩:=hob17
     refine aj rfl rfl rfl (fun _=>bN bh rA rfl (zs:=[.bool false,.slice none 0 0,.slice none 0 0,.slice none 0 0]) rfl rfl (bZ rfl rfl rfl (Nat.le_of_ble_eq_true rfl) (bZ rfl rfl rfl (Nat.le_of_ble_eq_true rfl) (ej (cs':=[.bool false,.slice none 0 0,.slice p17 (ka++key::kb).length c17,.slice p27 (ia++ib).length c27]) rfl)))) ?_
     refine bu rfl rfl rfl (cg (l:=[.bool false,.slice none 0 0,.slice p17 (ka++key::kb).length c17,.slice p27 (ia++ib).length c27]) rfl rfl) ?_
     rintro _ wq29 ⟨nb,rfl,hnt,hN,hc29,hl29⟩
     refine⟨trivial,?_⟩
     refine ya rfl rfl rfl ?_
     refine aQ (a7 ?_)
     have kcum:=hcum.1
     have hltK:=hoK.sl.lt
     have hltU:=hoU.sl.lt
     have hoM:=hoM.mod0 hc29
     have hoL:=hoL.mod0 hc29
     have hoK:=hoK.mod0 hc29
     have hoU:=hoU.mod0 hc29
     exact⟨⟨nb,.slice none 0 0,.slice p17 (ka++key::kb).length c17,.slice p27 (ia++ib).length c27⟩,rfl,yC hN hoK.sl hoU.sl (fun x hx=>Nat.lt_of_lt_of_le (hltK x hx) hnt) (fun x hx=>Nat.lt_of_lt_of_le (hltU x hx) hnt),fun x hx=>by
      have hx:x∈nb::(ar (.slice p17 (ka++key::kb).length c17)++ar (.slice p27 (ia++ib).length c27)):=hx
      rcases List.mem_cons.1 hx with rfl | hx
      ·omega
      ·rcases List.mem_append.1 hx with hx | hx
       ·exact hiK x hx
       ·exact hiU x hx,hcum.tr hc29⟩
   ·rintro vs J w4 ⟨q,rfl,hq4,hqn,hc4⟩
    refine zSR (zm rfl (zm rfl (a6 rfl (aD rfl rfl (by omega)) ?_)))
    have k2:=hto2.chg.1
    have k4:=hc4.1
    have hn4:=hv2.at_.chg0 hc4
    have hn4:NAt w4 ⟨b,vp,vk,.slice pi (aT C++iL::iR::aT D).length ci⟩ (.br (K1++K2) (aT A++i0::aT B)):=hn4
    rw[hKL,hidl] at hn4
    have hl1:(L1++key::L2).length=C.length+1+L2.length:=by rw[List.length_append,List.length_cons,hCl]; omega
    have hIK:(aT C++iL::iR::aT D).length=(L1++key::L2).length+1:=by rw[←hIl,←hKL]; exact hb.2.1
    refine ah rfl C169 (qf w4 ⟨b,vp,vk,.slice pi (aT C++iL::iR::aT D).length ci⟩ (L1++key::L2) (aT C++iL::iR::aT D) (C.length+1) hn4 (by omega) hIK (by omega) (by rw[←hIl]; have:=hfew.2; omega)) ?_
    rintro _ w5 ⟨⟨kv,iv,hn5,hnew5⟩,hc5⟩
    refine zNR (zm rfl (zm rfl (zm rfl (zm rfl ?_))))
    have e1:(L1++key::L2).take (C.length+1-1)++(L1++key::L2).drop (C.length+1-1+1)=L1++L2:=by
     rw[Nat.add_sub_cancel,hCl,List.take_left' rfl,kI]
    have e2':(aT C++iL::iR::aT D).take (C.length+1)++(aT C++iL::iR::aT D).drop (C.length+1+1)=aT C++iL::aT D:=by
     rw[←bm C,vC,show aT C++iL::iR::aT D=(aT C++[iL])++iR::aT D by simp,show(aT C).length+1+1=(aT C++[iL]).length+1 by simp,kI]; simp
    rw[e1,e2'] at hn5
    have k5:=hc5.1
    have h2:=hto2.at_
    have hlt2:=h2.lt
    have hbF:b∉c.F++EF xb e2:=hv2.far hf b (by simp[NV.F])
    have hlob:=(hv2.new b (by simp[NV.F])).1
    have hw0:=h.w0lo hf
    have h5:c.ed xb w5 e2:=(h2.chg0 hc4).chg hc5 (fun x hx hh=>by simp at hh; subst hh; exact hbF hx) (fun x hx=>by simp at hx; subst hx; omega)
    have hv5:c.has xb e2 lo w5 ⟨b,vp,kv,iv⟩ (.br (L1++L2) (aT C++iL::aT D)):=⟨hn5,fun x hx=>by
     have hx:x∈b::(ar vp++(ar kv++ar iv)):=hx
     rcases List.mem_cons.1 hx with rfl | hx
     ·exact hv2.new _ (by simp[NV.F])
     ·rcases List.mem_append.1 hx with hx | hx
      ·exact hv2.new x (by simp[NV.F,hx])
      ·have:=hnew5 x hx
       exact⟨by omega,fun hh=>by have:=hlt2 x (List.mem_append_right _ hh); omega⟩⟩
    have hBlt:=hBv.lt
    have hq5:c.has xb e2 lo w5 q (.br (ka++key::kb) (ia++ib)):=⟨hq4.chg hc5 (fun x hx hh=>by have hh:x∈[b]:=hh; simp at hh; have:=hqn x hx; omega),fun x hx=>by
     have:=hqn x hx
     exact⟨by omega,fun hh=>by have:=hlt2 x (List.mem_append_right _ hh); omega⟩⟩
    have hml2:e2.made.length≤900:=by rw[hst2.made,List.append_nil]; exact hml
    have hk2':e2.s.k+2≤40000:=by rw[hs2]; exact hk
    have hw5:∀x∈pgT C++(pp++pgT D),e2.s.P.now.written x=true:=fun x hx=>by rw[hs2]; exact hw x (hperm.subset (List.mem_append_left _ hx))
    have hl5:(aT C++iL::aT D).length≤10000:=by rw[List.length_append,List.length_cons,bm,bm]; have:=hfew.2; omega
    have hzz:=tl L1 L2 (aT C) (aT D) iL iL iR key
    have hbz:=hb.2.2.2
    rw[hKL,hidl,hzz] at hbz
    refine ah rfl C156 (jH c xb w5 e2 ⟨b,vp,kv,iv⟩ q lo (d+1) L1 L2 C D iL (.br (ka++key::kb) (ia++ib)) pp mm h5 hv5 hq5 hf (by rw[hs2]; exact holej) (by rw[hs2]; exact hctj) (CT.some hctj) (by simp[gJ]) (hctj.ok (.inl hsz)) hw5 hml2 hk2' hl5) ?_
    rintro v6 w6 ⟨e6,new,h6,hgr6,hc6,hst6,hr6⟩
    refine za rfl (a8 (a7 (zrf ?_)))
    have hst:=hst2.trans hst6
    rw[List.nil_append,List.append_nil] at hst
    have hgrow:∀x∈EF xb e6,x∈EF xb e∨w.heap.size≤x:=fun x hx=>by
     rcases hgr6 x hx with g | g
     ·exact hto2.grow x g
     ·exact .inr (by omega)
    have hchg:Chg (b::(c.F++EF xb e)) w w6:=(((hto2.chg.mono (fun x hx _=>List.mem_cons_of_mem _ hx)).tr0 hc4).tr (hc5.mono (fun x hx _=>by have hx:x∈[b]:=hx; simp at hx; subst hx; exact List.mem_cons_self))).trans hc6 (fun _ hx _=>hx) (fun x hx hl=>by
     rcases List.mem_cons.1 hx with g | g
     ·exact List.mem_cons.2 (.inl g)
     ·rcases List.mem_append.1 g with g | g
      ·exact List.mem_cons_of_mem _ (List.mem_append_left _ g)
      ·rcases hto2.grow x g with g | g
       ·exact List.mem_cons_of_mem _ (List.mem_append_right _ g)
       ·omega)
    rcases hr6 with⟨rfl,hno,hnl⟩ | ⟨rfl,hnl,n',pg',kv',iv',hct',hpm',hz',_,hhas'⟩
    ·exact⟨e6,new,[t.1],h6,hgrow,hchg,hst,by omega,Nat.le_refl _,.inl ⟨rfl,hno⟩⟩
    ·refine⟨e6,new,[t.1],h6,hgrow,hchg,hst,hnl,Nat.le_refl _,.inr ⟨rfl,n',pg',kv',iv',by rw[←hpr]; exact hct',?_,?_,hhas'⟩⟩
     ·rw[List.perm_iff_count] at hperm hpm' ⊢
      intro x
      have q1:=hperm x
      have q2:=hpm' x
      simp only[List.count_append,List.count_cons,List.count_nil] at q1 q2 ⊢
      omega
     ·have hz':cnZ n'≤brZ (L1++L2) (aT C++iL::aT D)+66:=hz'
      omega
end Go.Proofs.YtpbfapbajmdlkaaGreat

end
section
namespace Go.Proofs.YtpbfapbajmdlkaaGreat
open Go Go.Sac
set_option maxRecDepth 100000
set_option maxHeartbeats 4000000
theorem brZ_out(ks:List Bs)(ids:List UInt32)(a b:Nat):brZ (ks.take a++ks.drop (a+1)) (ids.take b++ids.drop (b+1))≤brZ ks ids:=by
 have h1:=gG ks a
 have h2:=gG (ks.drop a) 1
 rw[List.drop_drop] at h2
 show 3+4*(ids.take b++ids.drop (b+1)).length+cw (ks.take a++ks.drop (a+1))≤3+4*ids.length+cw ks
 rw[fI,List.length_append,List.length_take,List.length_drop]
 omega
theorem Hole.out{V:UInt32→Bs}{d:Nat}{K1 K2:List Bs}{A B:List Kd}{m:List Pr}(h:Hole V d K1 K2 A B m)(i0:UInt32)(hne:K1++K2≠[]):CT V (d+1) (.br ((K1++K2).take (A.length-1)++(K1++K2).drop (A.length-1+1)) ((aT A++i0::aT B).take A.length++(aT A++i0::aT B).drop (A.length+1))) (pgT A++pgT B) (prT A++prT B):=by
 have h0:Hole V d K1 K2 A B []:=h.sub (fun p hp=>by simp at hp)
 have hl:=h0.la
 have e1:(aT A++i0::aT B).take A.length++(aT A++i0::aT B).drop (A.length+1)=aT A++aT B:=by
  rw[←bm A,kI,List.take_left' rfl]
 rw[e1]
 cases hK:K1 with
 | nil =>
  subst hK
  have hA:A=[]:=List.length_eq_zero_iff.1 hl
  subst hA
  cases K2 with
  | nil => exact absurd rfl hne
  | cons k K2 =>
   have:=h0.gone0
   simpa [aT,pgT,prT] using this
 | cons a l =>
  obtain⟨L,k,rfl⟩:∃L k,K1=L++[k]:=⟨K1.dropLast,K1.getLast (by rw[hK]; simp),(List.dropLast_concat_getLast _).symm⟩
  rw[←hK,hl]
  have e2:((L++[k])++K2).take ((L++[k]).length-1)++((L++[k])++K2).drop ((L++[k]).length-1+1)=L++K2:=by
   rw[List.length_append,List.length_singleton,Nat.add_sub_cancel,List.append_assoc,List.take_left' rfl,List.singleton_append,kI]
  rw[e2]
  exact h0.gone
theorem CT.rich{V:UInt32→Bs}:∀{d:Nat} {n:Cn} {pg:List UInt32} {m:List Pr},CT V d n pg m→iP n=false→m≠[]∧gJ n
 | 0, .leaf ps, _, _, ⟨h, _, _⟩, hp => ⟨fun e => by subst e; subst h; simp [iP] at hp, trivial⟩
 | 0, .br _ _, _, _, h, _ => h.elim
 | _ + 1, .leaf _, _, _, h, _ => h.elim
 | _ + 1, .br ks ids, _, _, h, hp => by
  refine⟨CT.some h,fun e=>?_⟩
  subst e
  obtain⟨_,id,_,q,_⟩:=h.lone
  subst q
  simp[iP] at hp
theorem CT.poor{V:UInt32→Bs}:∀{d:Nat} {n:Cn} {pg:List UInt32} {m:List Pr},CT V d n pg m→iP n=true→(n = .leaf []∧m=[]∧pg=[])∨∃d' ids,d=d'+1∧n = .br [] ids∧m≠[]
 | 0, .leaf ps, _, _, ⟨h, h2, _⟩, hp => .inl ⟨by cases ps with | nil => rfl | cons => simp [iP] at hp, by cases ps with | nil => exact h.symm | cons => simp [iP] at hp, h2⟩
 | 0, .br _ _, _, _, h, _ => h.elim
 | _ + 1, .leaf _, _, _, h, _ => h.elim
 | d + 1, .br ks ids, _, _, h, hp => .inr ⟨d, ids, rfl, by
   have hm:=CT.some h
   obtain⟨ts,rfl,_,_,_,h5,_⟩:=h
   have:=h5.len
   rw[msT,List.length_map] at this
   cases ks with
   | nil => rfl
   | cons k ks => simp [iP, bm] at hp; simp at this; omega, CT.some h⟩
theorem drop_ok(c:TC)(xb:Nat)(key:Bs):∀(d:Nat) (w:World) (e:TE) (id:UInt32) (pg:List UInt32) (m:List Pr) (deep:Nat),c.ed xb w e→isT e.s.V d id pg m→(∀x∈pg,e.s.P.now.written x=true)→deep+d≤40→e.made.length+2*d≤900→e.gone.length+2*d≤900→e.s.k+2*d≤40000 →
  Ret Tryz.prog 110 #[.pointer (some ⟨xb,0,none⟩),.int .u32 id.toNat,str key,.int .i64 deep] w fun r w'=>∃e' new out,c.to xb w w' e e'∧Stp c.n e e' new out∧new.length≤2*d∧out.length≤2*d+1 ∧
   ((∃q,r = .tuple #[q,.bool true,.int .i64 70]∧dh m key=true∧jU c.n e'.s.P)∨(∃q,r = .tuple #[q,.bool false,.int .i64 0]∧dh m key=false∧new=[]) ∨
    ∃v n' pg',r = .tuple #[v.ptr,.bool true,.int .i64 0]∧dh m key=true∧c.has xb e' w.heap.size w' v n'∧CT e'.s.V d n' pg' (fO m key)∧(pg'++out).Perm (pg++new)∧rk n'):=by
 intro d
 induction d with
 | zero =>
  intro w e id pg m deep h ht hw hd hml hgl hk
  obtain⟨rfl,hlf,hV⟩:=ht
  have hps:=hlf.1
  have hsz:bM m≤480:=hlf.2
  have hll:=hlf.few
  refine enter [8,9,10] Tryz.func110 rfl rfl (Nat.le_of_ble_eq_true rfl) ?_
  refine zSR (za rfl (za rfl (za rfl (zNR (zm rfl (zm rfl (zm rfl (ah rfl CR (kO c xb w e id (.leaf m) deep h (by omega) (hw id (by simp)) hV hlf (by omega)) ?_))))))))
  rintro _ w2 ⟨v,e2,rfl,hto2,hst2,hs2,hh2⟩
  refine zm rfl (zx rfl rfl rfl (zx rfl rfl rfl (za rfl (za rfl (a8 (a7 (ae (zSR (zm rfl (a6 rfl (bL rfl rfl) ?_))))))))))
  refine a8 (a7 (aF rfl (fun h=>h rfl) ?_))
  refine aA (a7 (ae (zSR (zm rfl (zn rfl rfl (a6 rfl (aa bh rfl I4 rfl rfl) ?_))))))
  have h2:=hto2.at_
  have hlt2:=h2.lt
  have k2:=hto2.chg.1
  have hn2:=hh2.at_
  have hnew2:=hh2.new
  obtain⟨vb,vp,vk,vi⟩:=v
  have hB2:Blk w2 vb [.bool true,vp,vk,vi]:=hn2.blk
  have hp2:Sl w2 vp m:=hn2.p
  have hvb:vb∉c.F++EF xb e2:=fun hh=>by
   rcases List.mem_append.1 hh with hh | hh
   ·have:=h.pg.lt vb hh; have:=(hnew2 vb (by simp[NV.F])).1; omega
   ·exact(hnew2 vb (by simp[NV.F])).2 hh
  refine a6 rfl (az uU4 rfl rfl (hB2.c rfl)) ?_
  refine a8 (a7 (bf (rfl) ?_))
  refine zSR (zm rfl (zm rfl (ah rfl C61 (u7 w2 ⟨vb,vp,vk,vi⟩ m key hn2 hps.2 (by omega)) ?_)))
  rintro _ w3 ⟨rfl,hc3⟩
  refine zm rfl (zx rfl rfl rfl (zx rfl rfl rfl (za rfl (za rfl (a8 (a7 (ae (zSR (zm rfl (a8 (a7 ?_)))))))))))
  have hB3:=hB2.chg0 hc3
  have hw0:c.w0.heap.size≤w.heap.size:=h.pg.1.2.1.1
  have hnv:=(hnew2 vb (by simp[NV.F])).1
  have hbl2:=hB2.lt
  cases hhas:dh m key with
  | true =>
   have hpl:=fq hhas
   skip
   refine bf (rfl) ?_
   refine al (zm rfl (zm rfl (zn rfl rfl (a6 rfl (aa bh rfl I33 rfl rfl) ?_))))
   refine a6 rfl (az cn rfl rfl (hB3.c rfl)) ?_
   refine ah rfl C154 (rC w3 vp m (hp2.mod0 hc3) (by omega)) ?_
   rintro v4 w4 ⟨ho4,hi4,hc4⟩
   refine zm rfl (zm rfl (a6 rfl (aD rfl rfl (by omega)) ?_))
   have hi4':=hi4.ge
   have k3:=hc3.1
   have k4:=hc4.1
   have hob1:=ho4.sl.form rfl
   obtain⟨p4,c4,rfl⟩:=hob1
   refine ah rfl C168 (y4 w4 p4 c4 m (cY m key) ho4 hpl (by omega)) ?_
   rintro v5 w5 ⟨ho5,hi5,hc5⟩
   refine zn rfl rfl (a6 rfl (aa bh rfl I33 rfl rfl) ?_)
   rw[←wk hps.2 hhas] at ho5
   have hc35:=hc4.t0 hc5 (fun x hx=>hi4' x hx)
   have hi5':∀x∈ar v5,w3.heap.size≤x:=fun x hx=>(hi5 x hx).elim (fun g=>hi4' x g) (fun g=>by omega)
   have hob2:=ho5.sl.form rfl
   obtain⟨p5,c5,rfl⟩:=hob2
   have hB5:=hB3.chg0 hc35
   refine aH rfl (bD I33 rfl rfl (hB5) rfl rfl ((by decide:1<4)) rfl (rfl)) ?_
   rintro w6 ⟨hB6,hc6,hs6⟩
   refine zNR (zm rfl (zm rfl (za rfl (za rfl (za rfl (a8 (a7 (zrt ?_))))))))
   replace hB6:Blk w6 vb [.bool true,.slice p5 (fO m key).length c5,vk,vi]:=hB6
   have hb5:∀x∈ar (.slice p5 (fO m key).length c5),w2.heap.size≤x∧x≠vb:=fun x hx=>by have:=hi5' x hx; exact⟨by omega,by omega⟩
   have ho6:=ho5.mod hc6 (fun x hx hh=>by simp at hh; exact(hb5 x hx).2 hh)
   have hnk:∀x∈ar vk,x≠vb:=fun x hx=>hn2.ap x (List.mem_append_right _ (List.mem_append_left _ hx))
   have hni:∀x∈ar vi,x≠vb:=fun x hx=>hn2.ap x (List.mem_append_right _ (List.mem_append_right _ hx))
   have hc:Chg [vb] w2 w6:=((hc3.tr hc35).mono (by simp)).tr hc6
   have hed:c.ed xb w6 e2:=h2.chg hc (fun x hx hh=>by simp at hh; subst hh; exact hvb hx) (fun x hx=>by simp at hx; subst hx; omega)
   have hto:c.to xb w w6 e e2:=⟨hed,hto2.grow,hto2.chg.trans hc (fun _ hx _=>hx) (fun x hx hl=>by simp at hx; subst hx; omega)⟩
   have hz:=A7 m key
   refine⟨e2,[],[id],hto,hst2,Nat.zero_le _,Nat.le_refl _,.inr (.inr ⟨⟨vb,.slice p5 (fO m key).length c5,vk,vi⟩,.leaf (fO m key),[],rfl,rfl,⟨⟨hB6,ho6.sl,hn2.k.mod hc (fun x hx hh=>by simp at hh; exact hnk x hx hh),hn2.i.mod hc (fun x hx hh=>by simp at hh; exact hni x hx hh),fun x hx=>?_⟩,fun x hx=>?_⟩,⟨rfl,rfl,yY hps⟩,by simp,⟨yY hps,by omega⟩⟩)⟩
   ·rcases List.mem_append.1 hx with hx | hx
    ·exact(hb5 x hx).2
    ·rcases List.mem_append.1 hx with hx | hx
     ·exact hnk x hx
     ·exact hni x hx
   ·simp only[NV.F,List.mem_cons,List.mem_append] at hx
    rcases hx with rfl | hx | hx | hx
    ·exact⟨by omega,(hnew2 _ (by simp[NV.F])).2⟩
    ·have:=(hb5 x hx).1
     exact⟨by omega,fun hh=>by have:=hlt2 x (List.mem_append_right _ hh); omega⟩
    ·have:=hnew2 x (by simp[NV.F,hx]); exact⟨by omega,this.2⟩
    ·have:=hnew2 x (by simp[NV.F,hx]); exact⟨by omega,this.2⟩
  | false =>
   skip
   refine aM (rfl) ?_
   refine zKR (zm rfl (zm rfl (za rfl (za rfl (za rfl (a8 (a7 (zrt ?_))))))))
   exact⟨e2,[],[id],⟨h2.chg0 hc3,hto2.grow,hto2.chg.tr0 hc3⟩,hst2,Nat.zero_le _,Nat.le_refl _,.inr (.inl ⟨_,rfl,rfl,rfl⟩)⟩
 | succ d ih =>
  intro w e id pg m deep h ht hw hd hml hgl hk
  have hob3:=jw ht
  obtain⟨n,pg0,rfl,hct,hV,hz,hf⟩:=hob3
  have hg:=CT.good hct hz hf
  cases n with
  | leaf ps => exact hct.elim
  | br ks ids =>
  have hgb:brOk ks ids:=hg
  have hfew:=hgb.few
  refine enter [8,9,10] Tryz.func110 rfl rfl (Nat.le_of_ble_eq_true rfl) ?_
  refine zSR (za rfl (za rfl (za rfl (zNR (zm rfl (zm rfl (zm rfl (ah rfl CR (kO c xb w e id (.br ks ids) deep h (by omega) (hw id (by simp)) hV hg (by omega)) ?_))))))))
  rintro _ w2 ⟨v,e2,rfl,hto2,hst2,hs2,hh2⟩
  refine zm rfl (zx rfl rfl rfl (zx rfl rfl rfl (za rfl (za rfl (a8 (a7 (ae (zSR (zm rfl (a6 rfl (bL rfl rfl) ?_))))))))))
  refine a8 (a7 (aF rfl (fun h=>h rfl) ?_))
  refine aA (a7 (ae (zSR (zm rfl (zn rfl rfl (a6 rfl (aa bh rfl I4 rfl rfl) ?_))))))
  have h2:=hto2.at_
  have k2:=hto2.chg.1
  have hn2:=hh2.at_
  obtain⟨vb,vp,vk,vi⟩:=v
  have hB2:Blk w2 vb [.bool false,vp,vk,vi]:=hn2.blk
  have hi2:Sl w2 vi ids:=hn2.i
  refine a6 rfl (az uU4 rfl rfl (hB2.c rfl)) ?_
  refine a8 (a7 (aM (rfl) ?_))
  refine zKR (zm rfl (zm rfl (ah rfl C60 (qK w2 ⟨vb,vp,vk,vi⟩ ks ids key hn2 hgb.2.2.1.2 (by omega)) ?_)))
  rintro _ w3 ⟨rfl,hw3⟩
  refine za rfl (zNR (zm rfl (zm rfl (zn rfl rfl (a6 rfl (aa bh rfl I41 rfl rfl) ?_)))))
  subst hw3
  have hob4:=hct.hole key
  obtain⟨K1,K2,A,t,B,rfl,hpl,rfl,rfl,rfl,hole,hit,hne,hbA,hbB,hq1,hq2⟩:=hob4
  rw[←hpl,←hole.la]
  obtain⟨i0,pg1,m1⟩:=t
  have hAl:A.length<(aT A++i0::aT B).length:=by rw[List.length_append,bm,List.length_cons]; omega
  have hget:(aT A++i0::aT B)[A.length]?=some i0:=by rw[←bm A]; simp
  have hml2:e2.made=e.made:=by have:=hst2.made; rw[List.append_nil] at this; exact this
  have hgl2:e2.gone.length=e.gone.length+1:=by rw[hst2.gone,List.length_append]; rfl
  have hr:∀x,e2.s.P.now.written x=e.s.P.now.written x:=fun x=>by rw[hs2]
  have hw1:∀x∈pg1,e.s.P.now.written x=true:=fun x hx=>hw x (by simp[hx])
  have hhm:=vK hct.pairs.2 hbA hbB
  rw[hhm,Cq hbA hbB]
  refine a6 rfl (az bw rfl rfl (hB2.c rfl)) ?_
  refine zm rfl (bg rfl (bW (A.length) bw I25 rfl (hi2) rfl rfl (by first | rfl | omega) (hAl)) ?_)
  rintro _ ⟨bi,oi,rfl,hei,hbi⟩
  refine a6 rfl (az bK rfl rfl (((hi2.at hei hget).c0 rfl))) ?_
  refine zm rfl (zm rfl (a6 rfl (aD rfl rfl (by omega)) ?_))
  refine ah rfl C110 (ih _ e2 i0 pg1 m1 (deep+1) h2 (by rw[hs2]; exact hit) (fun x hx=>by rw[hr]; exact hw1 x hx) (by omega) (by rw[hml2]; omega) (by omega) (by rw[hs2]; omega)) ?_
  rintro v3 w3 ⟨e3,new,out,hto3,hst3,hnl,hol,hr3⟩
  have hto03:c.to xb w w3 e e3:=hto2.trans hto3
  have hst03:Stp c.n e e3 ([]++new) ([id]++out):=hst2.trans hst3
  have hol3:([id]++out).length≤2*(d+1):=by rw[List.length_append,List.length_singleton]; omega
  rcases hr3 with⟨q,rfl,hh3,hno3⟩ | ⟨q,rfl,hh3,hn3⟩ | ⟨u,n',pg',rfl,hh3,hu3,hct3,hperm,hcok⟩
  ·refine zm rfl (zx rfl rfl rfl (zx rfl rfl rfl (zx rfl rfl rfl (za rfl (za rfl (za rfl (a8 (a7 (ae (au (zSR (zm rfl (a6 rfl (bR (bL rfl rfl) (congrArg Value.bool (decide_eq_true (by decide)))) ?_)))))))))))))
   refine zm rfl (ay rfl rfl (ay rfl rfl (a6 rfl (aN rfl) (za rfl (a8 (a7 (bf (rfl) ?_)))))))
   refine zSR (zm rfl (zm rfl (zm rfl (za rfl (za rfl (za rfl (a8 (a7 (zrb ?_)))))))))
   exact⟨e3,new,[id]++out,hto03,hst03,by omega,by omega,.inl ⟨_,rfl,hh3,hno3⟩⟩
  ·refine zm rfl (zx rfl rfl rfl (zx rfl rfl rfl (zx rfl rfl rfl (za rfl (za rfl (za rfl (a8 (a7 (ae (au (zSR (zm rfl (a6 rfl (bR (bL rfl rfl) (congrArg Value.bool (decide_eq_false (fun h=>h rfl)))) ?_)))))))))))))
   refine zm rfl (ag rfl (zm rfl (ag rfl (a6 rfl (cA rfl) (a6 rfl (aL rfl) (za rfl (a8 (a7 (bf (rfl) ?_)))))))))
   refine zSR (zm rfl (zm rfl (zm rfl (za rfl (za rfl (za rfl (a8 (a7 (zrb ?_)))))))))
   exact⟨e3,new,[id]++out,hto03,hst03,by omega,by omega,.inr (.inl ⟨_,rfl,hh3,hn3⟩)⟩
  ·refine zm rfl (zx rfl rfl rfl (zx rfl rfl rfl (zx rfl rfl rfl (za rfl (za rfl (za rfl (a8 (a7 (ae (au (zSR (zm rfl (a6 rfl (bR (bL rfl rfl) (congrArg Value.bool (decide_eq_false (fun h=>h rfl)))) ?_)))))))))))))
   refine zm rfl (ag rfl (zm rfl (ag rfl (a6 rfl (cA rfl) (a6 rfl (aL rfl) (za rfl (a8 (a7 (aM (rfl) ?_)))))))))
   refine zSR (zm rfl ?_)
   have h3:=hto3.at_
   have hflo:∀x∈c.F,x<w.heap.size:=h.pg.lt
   have hv3:c.has xb e3 w.heap.size w3 ⟨vb,vp,vk,vi⟩ (.br (K1++K2) (aT A++i0::aT B)):=hh2.step hto3 hflo
   have hu3':c.has xb e3 w.heap.size w3 u n':=hu3.lo k2
   have hold:∀x,e.s.P.now.written x=true→e3.s.V x=e.s.V x:=fun x hx=>by rw[hst3.ext.old x (by rw[hr]; exact hx),hs2]
   have hwr:∀x,e.s.P.now.written x=true→e3.s.P.now.written x=true:=fun x hx=>hst3.ext.wr (by rw[hr]; exact hx)
   have hwp:∀x∈pg',e3.s.P.now.written x=true:=fun x hx=>by
    rcases List.mem_append.1 (hperm.subset (List.mem_append_left _ hx)) with g | g
    ·exact hwr x (hw1 x g)
    ·exact(hst3.ext.mem g).2
   have hole3:Hole e3.s.V d K1 K2 A B (fO m1 key):=(hole.mono (fun y hy=>hold y (hw y (by rcases List.mem_append.1 hy with g | g <;> simp[g])))).sub (fun p hp=>nB hp)
   have hmk:e3.made.length≤900∧e3.gone.length≤900∧e3.s.k+2≤40000:=by
    have a1:=hst3.made
    have a2:=hst3.k
    have a3:e2.s.k=e.s.k:=by rw[hs2]
    rw[hml2] at a1
    have a4:=congrArg List.length a1
    have a5:=congrArg List.length hst3.gone
    rw[List.length_append] at a4 a5
    omega
   obtain⟨hmk1,hmk2,hmk3⟩:=hmk
   have hall:∀x∈pgT A++(pg'++pgT B),e3.s.P.now.written x=true:=fun x hx=>by
    rcases List.mem_append.1 hx with g | g
    ·exact hwr x (hw x (by simp[g]))
    ·rcases List.mem_append.1 g with g | g
     ·exact hwp x g
     ·exact hwr x (hw x (by simp[g]))
   have hil:(aT A++i0::aT B).length≤10000:=Nat.le_trans hfew.2 (by decide)
   have hzp:brZ (K1++K2) (aT A++i0::aT B)≤480:=hz
   have hvw:w.heap.size≤vb:=(hv3.new vb (by simp[NV.F])).1
   have k3:=hto03.chg.1
   have hend:∀{w4:World} {e4:TE} {S:List Nat},c.ed xb w4 e4→(∀x∈EF xb e4,x∈EF xb e3∨w3.heap.size≤x)→Chg (vb::(c.F++EF xb e3)) w3 w4→c.to xb w w4 e e4:=fun {w4 e4 S} h4 hgr4 hc4=>⟨h4,fun x hx=>by
    rcases hgr4 x hx with g | g
    ·exact hto03.grow x g
    ·exact .inr (by omega),hto03.chg.trans hc4 (fun _ hx _=>hx) (fun x hx hl=>by
     rcases List.mem_cons.1 hx with g | g
     ·have g:x=vb:=g
      omega
     ·rcases List.mem_append.1 g with g | g
      ·exact List.mem_append_left _ g
      ·rcases hto03.grow x g with g | g
       ·exact List.mem_append_right _ g
       ·omega)⟩
   refine ah rfl C112 (yw w3 u n' hu3'.at_) ?_
   rintro _ w4 ⟨rfl,hw4⟩
   refine a6 rfl (cA rfl) (za rfl (a8 (a7 ?_)))
   subst hw4
   refine cI rfl (fun hpo=>?_) (fun hpo=>?_)
   ·refine zSR (zm rfl (zm rfl (zm rfl (zm rfl (zm rfl ?_)))))
    replace hpo:iP n'=false:=by simpa using hpo
    have hob5:=CT.rich hct3 hpo
    obtain⟨hne3,hfull⟩:=hob5
    refine ah rfl C156 (jH c xb w3 e3 ⟨vb,vp,vk,vi⟩ u w.heap.size d K1 K2 A B i0 n' pg' (fO m1 key) h3 hv3 hu3' hflo hole3 hct3 hne3 hfull hcok hall hmk1 hmk3 hil) ?_
    rintro v4 w4 ⟨e4,new2,h4,hgr4,hc4,hst4,hr4⟩
    refine za rfl (za rfl (za rfl (a8 (a7 (zrb ?_)))))
    have hst04:=hst03.trans hst4
    rw[List.nil_append,List.append_nil] at hst04
    have hto04:=hend (S:=[]) h4 hgr4 hc4
    rcases hr4 with⟨rfl,hno4,hn4⟩ | ⟨rfl,hn4,n4,pg4,kv,iv,hct4,hperm4,hz4,hf4,hhas4⟩
    ·exact⟨e4,new++new2,[id]++out,hto04,hst04,by rw[List.length_append]; omega,by omega,.inl ⟨_,rfl,hh3,hno4⟩⟩
    ·exact⟨e4,new++new2,[id]++out,hto04,hst04,by rw[List.length_append]; omega,by omega,.inr (.inr ⟨⟨vb,vp,kv,iv⟩,n4,pg4,rfl,hh3,hhas4,hct4,tV hperm hperm4,hct4.ok (.inl (Nat.le_trans hz4 (by have:cnZ (.br (K1++K2) (aT A++i0::aT B))≤480:=hz; omega)))⟩)⟩
   ·refine zSR (zm rfl (zn rfl rfl (a6 rfl (aa bh rfl I4 rfl rfl) ?_)))
    replace hpo:iP n'=true:=by simpa using hpo
    have hBu:=hu3'.at_.blk
    have hpoor:=CT.poor hct3 hpo
    rcases hpoor with⟨hn0,hm0,hp0⟩ | ⟨d',ids',hd0,hn0,hm0⟩
    ·have hBu:Blk w3 u.b [.bool true,u.p,u.k,u.i]:=by rw[hn0] at hBu; exact hBu
     refine a6 rfl (az uU4 rfl rfl (hBu.c rfl)) ?_
     refine za rfl (a8 (a7 (bf (rfl) ?_)))
     refine zSR (zm rfl (zm rfl (ah rfl C169 (qf w3 ⟨vb,vp,vk,vi⟩ (K1++K2) (aT A++i0::aT B) A.length hv3.at_ hAl hgb.2.1 (List.length_pos_iff.2 hgb.1) hil) ?_)))
     rintro _ w4 ⟨⟨kv,iv,hn4,hnew4⟩,hc4⟩
     refine zNR (zm rfl (za rfl (za rfl (za rfl (a8 (a7 (zrb ?_)))))))
     have hlt3:=h3.lt
     have hvb:vb∉c.F++EF xb e3:=hv3.far hflo vb (by simp[NV.F])
     have hw0:c.w0.heap.size≤w.heap.size:=h.pg.1.2.1.1
     have h4:c.ed xb w4 e3:=h3.chg hc4 (fun x hx hh=>by simp at hh; subst hh; exact hvb hx) (fun x hx=>by simp at hx; subst hx; omega)
     have hto04:=hend (S:=[]) h4 (fun x hx => .inl hx) (hc4.mono (fun x hx _=>by have hx:x∈[vb]:=hx; simp at hx; subst hx; exact List.mem_cons_self))
     have hct4:=Hole.out hole3 i0 hgb.1
     have hz4:=brZ_out (K1++K2) (aT A++i0::aT B) (A.length-1) A.length
     subst hp0
     rw[List.nil_append] at hst03
     refine⟨e3,new,[id]++out,hto04,hst03,by omega,by omega,.inr (.inr ⟨⟨vb,vp,kv,iv⟩,_,pgT A++pgT B,rfl,hh3,⟨hn4,fun x hx=>?_⟩,?_,?_,hct4.ok (.inl (Nat.le_trans hz4 (by omega)))⟩)⟩
     ·have hx:x∈vb::(ar vp++(ar kv++ar iv)):=hx
      rcases List.mem_cons.1 hx with rfl | hx
      ·exact hv3.new _ (by simp[NV.F])
      ·rcases List.mem_append.1 hx with hx | hx
       ·exact hv3.new x (by simp[NV.F,hx])
       ·have:=hnew4 x hx
        exact⟨by omega,fun hh=>by have:=hlt3 x (List.mem_append_right _ hh); omega⟩
     ·rw[hm0,List.nil_append]; exact hct4
     ·have:=tV (id:=id) (A:=pgT A) (B:=pgT B) (new2:=[]) hperm (pg4:=pgT A++pgT B) (by simp)
      simpa using this
    ·have hBu:Blk w3 u.b [.bool false,u.p,u.k,u.i]:=by rw[hn0] at hBu; exact hBu
     have hole5:Hole e3.s.V (d'+1) K1 K2 A B (fO m1 key):=by rw[←hd0]; exact hole3
     have hct5:CT e3.s.V (d'+1) (.br [] ids') pg' (fO m1 key):=by rw[←hd0,←hn0]; exact hct3
     have hu5:c.has xb e3 w.heap.size w3 u (.br [] ids'):=by rw[←hn0]; exact hu3'
     refine a6 rfl (az uU4 rfl rfl (hBu.c rfl)) ?_
     refine za rfl (a8 (a7 (aM (rfl) ?_)))
     refine aA (aB (a7 (zSR (zm rfl (zm rfl (zm rfl (zm rfl (zm rfl (ah rfl C170 (C0 c xb w3 e3 ⟨vb,vp,vk,vi⟩ u w.heap.size d' K1 K2 A B i0 ids' pg' (fO m1 key) h3 hv3 hu5 hflo hole5 hct5 hm0 hgb hall hmk1 hmk2 hmk3) ?_)))))))))
     rintro v4 w4 ⟨e4,new2,out2,h4,hgr4,hc4,hst4,hn4,ho4,hr4⟩
     refine za rfl (za rfl (za rfl (a8 (a7 (zrf ?_)))))
     have hst04:=hst03.trans hst4
     rw[List.nil_append] at hst04
     have hto04:=hend (S:=[]) h4 hgr4 hc4
     have hol4:([id]++out++out2).length≤2*(d+1)+1:=by rw[List.length_append]; omega
     rcases hr4 with⟨rfl,hno4⟩ | ⟨rfl,n4,pg4,kv,iv,hct4,hperm4,hz4,hhas4⟩
     ·exact⟨e4,new++new2,[id]++out++out2,hto04,hst04,by rw[List.length_append]; omega,hol4,.inl ⟨_,rfl,hh3,hno4⟩⟩
     ·refine⟨e4,new++new2,[id]++out++out2,hto04,hst04,by rw[List.length_append]; omega,hol4,.inr (.inr ⟨⟨vb,vp,kv,iv⟩,n4,pg4,rfl,hh3,hhas4,by rw[hd0]; exact hct4,?_,hct4.ok (.inl hz4)⟩)⟩
      rw[List.perm_iff_count] at hperm hperm4 ⊢
      intro x
      have q1:=hperm x
      have q2:=hperm4 x
      simp only[List.count_append,List.count_cons,List.count_nil] at q1 q2 ⊢
      omega
end Go.Proofs.YtpbfapbajmdlkaaGreat

end
section
namespace Go.Proofs.YtpbfapbajmdlkaaGreat
open Go Go.Sac
set_option maxRecDepth 100000
set_option maxHeartbeats 4000000
theorem root_ok(c:TC)(xb:Nat)(w:World)(e:TE)(v:NV)(n:Cn)(lo d:Nat)(pg:List UInt32)(m:List Pr)(h:c.ed xb w e)(hv:c.has xb e lo w v n)(hf:∀x∈c.F,x<lo)
  (hct:CT e.s.V d n pg m) (hno:rk n) (hw:∀x∈pg,e.s.P.now.written x=true) (hml:e.made.length≤900) (hk:e.s.k+3≤40000) :
  Ret Tryz.prog 157 #[.pointer (some ⟨xb,0,none⟩),v.ptr] w fun r w'=>∃e' new,c.to xb w w' e e'∧Stp c.n e e' new [] ∧
   ((new.length≤2∧∃q:UInt32,r = .tuple #[.int .u32 q.toNat,.int .i64 70]∧jU c.n e'.s.P)∨∃id d' pg',r = .tuple #[.int .u32 id.toNat,.int .i64 0]∧new.length≤3∧d'≤d+1∧isT e'.s.V d' id pg' m∧pg'.Perm (pg++new)∧(cnZ n≤480→new.length≤1∧d'≤d)):=by
 have hzn:cnZ n≤900:=by
  cases n with
  | leaf ps => exact Nat.le_trans hno.2 (by decide)
  | br ks ids => exact Nat.le_trans hno.2.2 (by decide)
 have hn:(∃ps,n = .leaf ps)∨∃ks ids,n = .br ks ids:=by cases n with | leaf ps=>exact .inl ⟨ps,rfl⟩ | br ks ids=>exact .inr ⟨ks,ids,rfl⟩
 have hB:=hv.at_.blk
 refine enter [4,5] Tryz.func157 rfl rfl (Nat.le_of_ble_eq_true rfl) ?_
 refine zSR (a6 rfl (fE (v := .int .u32 ((0:UInt32).toNat:Nat)) rfl) (za rfl ?_))
 refine a8 (a7 (gL [] [4,5,8,9,10,11,12,13,14,15,16,17,18,19,20,21,22,23,24,25,26] (fun vs w'=>vs=[]∧gJ n∧w=w') (by kernel_rfl) ?_ ?_))
 ·refine zSR (zm rfl (zn rfl rfl (a6 rfl (aa bh rfl I4 rfl rfl) ?_)))
  rcases hn with⟨ps,hn⟩ | ⟨ks,ids,hn⟩
  ·have hB1:Blk w v.b [.bool true,v.p,v.k,v.i]:=by rw[hn] at hB; exact hB
   refine a6 rfl (az uU4 rfl rfl (hB1.c rfl)) ?_
   refine a6 rfl (cA rfl) (zm rfl (ay rfl rfl (ay rfl rfl (ay rfl rfl (ay rfl rfl (ay rfl rfl (ay rfl rfl (a6 rfl (aL rfl) (a8 (a7 (aM (rfl) ?_)))))))))))
   refine aA (a7 ?_)
   exact⟨rfl,by rw[hn]; trivial,rfl⟩
  ·have hB1:Blk w v.b [.bool false,v.p,v.k,v.i]:=by rw[hn] at hB; exact hB
   have hi:Sl w v.i ids:=by have:=hv.at_.i; rw[hn] at this; exact this
   have hob1:=hi.form rfl
   obtain⟨pi,ci,hvi⟩:=hob1
   rw[hvi] at hB1
   refine a6 rfl (az uU4 rfl rfl (hB1.c rfl)) ?_
   refine a6 rfl (cA rfl) (zm rfl (ag rfl (zm rfl (ag rfl (zn rfl rfl (ag rfl (a6 rfl (aa bh rfl I41 rfl rfl) (ag rfl ?_))))))))
   refine a6 rfl (az bw rfl rfl (hB1.c rfl)) ?_
   refine ag rfl (a6 rfl (ax rfl bw) (ag rfl (a6 rfl (cX rfl rfl) (a6 rfl (aN rfl) ?_))))
   refine a8 (a7 (aC rfl (fun h1=>?_) (fun h1=>?_)))
   ·refine zSR (zm rfl (zn rfl rfl (a6 rfl (aa bh rfl I41 rfl rfl) ?_)))
    have hi':Sl w (.slice pi ids.length ci) ids:=hvi▸hi
    have hct1:CT e.s.V d (.br ks ids) pg m:=hn▸hct
    have hno1:rk (.br ks ids):=hn▸hno
    have hks:ks=[]:=List.length_eq_zero_iff.1 (by have:ids.length=ks.length+1:=hno1.2.1; omega)
    rw[hks] at hct1
    have hob2:=hct1.lone
    obtain⟨d',id,hd',hids,hit⟩:=hob2
    refine a6 rfl (az bw rfl rfl (hB1.c rfl)) ?_
    refine bg rfl (bW (0) bw I25 rfl (hi') rfl rfl (by first | rfl | omega) (by omega)) ?_
    rintro _ ⟨bi,oi,rfl,hei,hbi⟩
    refine a6 rfl (az bK rfl rfl (((hi'.at hei (a:=id) (by rw[hids]; rfl)).c0 rfl))) ?_
    refine za rfl (za rfl (a8 (a7 (zrt ?_))))
    exact⟨e,[],TC.to.refl h,Stp.refl _ _,.inr ⟨id,d',pg,rfl,by simp,by omega,hit,by simp,fun _=>⟨by simp,by omega⟩⟩⟩
   ·refine aA (a7 ?_)
    refine⟨rfl,?_,rfl⟩
    rw[hn] at hno ⊢
    have hl:ids.length=ks.length+1:=hno.2.1
    intro hk0
    rw[hk0] at hl
    exact h1 (by rw[hl]; rfl)
 ·rintro vs J w1 ⟨rfl,hfull,rfl⟩
  refine ae (zSR (zm rfl (ah rfl C199 (pF w v n hv.at_ (by omega)) ?_)))
  rintro _ w2 ⟨rfl,hc2⟩
  refine a6 rfl (ml rfl rfl) ?_
  refine a8 (a7 ?_)
  have h2:=h.chg0 hc2
  have hv2:=hv.still hc2
  have k2:=hc2.1
  refine aC rfl (fun hz=>?_) (fun hz=>?_)
  ·refine zSR (zm rfl (zm rfl ?_))
   have hz4:cnZ n≤480:=by omega
   refine ah rfl C94 (kZ c xb w2 e v n h2 hv2.at_ (CT.good hct hz4 hfull) hz4 (by omega) (by omega)) ?_
   rintro v3 w3 hr3
   rcases hr3 with⟨rfl,g2,g3⟩ | ⟨id,e3,rfl,hto3,hst3,hV3⟩
   ·refine zx rfl rfl rfl (zx rfl rfl rfl (za rfl (za rfl (a8 (a7 (zrt ?_))))))
    exact⟨e,[],g3.pre hc2,Stp.refl _ _,.inl ⟨by simp,0,rfl,g2⟩⟩
   ·refine zx rfl rfl rfl (zx rfl rfl rfl (za rfl (za rfl (a8 (a7 (zrt ?_))))))
    have hold:=hst3.ext.old
    exact⟨e3,[id],hto3.pre hc2,hst3,.inr ⟨id,d,id::pg,rfl,by simp,by omega,(hct.mono (fun y hy=>hold y (hw y hy))).saved hz4 hfull hV3,(List.perm_append_singleton _ _).symm,fun _=>⟨by simp,Nat.le_refl _⟩⟩⟩
  ·refine aA (a7 (ae (al ?_)))
   have hz4:480<cnZ n:=by omega
   have hmne:m≠[]:=fun hm=>by
    cases d with
    | zero => cases n with
     | leaf ps => have q := hct.1; rw [hm] at q; subst q; exact absurd hz4 (by decide)
     | br ks ids => exact hct
    | succ d => cases n with
     | leaf ps => exact hct
     | br ks ids => exact CT.some hct hm
   refine aS rfl (sq (0:UInt32) bw I25 rfl rfl rfl rfl rfl (by decide)) ?_
   rintro _ w3 ⟨b3,rfl,hB3,hn3,hc3,hl3⟩
   refine a6 rfl (bN bh rA rfl (zs:=[.bool false,.slice none 0 0,.slice none 0 0,.slice none 0 0]) rfl rfl (bZ rfl rfl rfl (Nat.le_of_ble_eq_true rfl) (ej (cs':=[.bool false,.slice none 0 0,.slice none 0 0,.slice (some ⟨b3,0,none⟩) 1 1]) rfl))) ?_
   refine aS rfl (cg (l:=[.bool false,.slice none 0 0,.slice none 0 0,.slice (some ⟨b3,0,none⟩) 1 1]) rfl rfl) ?_
   rintro _ w4 ⟨tb,rfl,hnt,hT4,hc4,hl4⟩
   refine za rfl (a8 (a7 (ae (zSR (zm rfl (zm rfl (zm rfl ?_)))))))
   have hB4:=hB3.chg0 hc4
   have k3:=hc3.1
   have k4:=hc4.1
   have hc24:=(hc2.tr hc3).tr hc4
   have h4:=h.chg0 hc24
   have hv4:=hv.still hc24
   have hlt:=h.lt
   have hlo:lo≤w.heap.size:=by
    have h1:=(hv.new v.b (by simp[NV.F])).1
    have h2:=hv.at_.lt v.b (by simp[NV.F])
    omega
   have hnn:NAt w4 ⟨tb,.slice none 0 0,.slice none 0 0,.slice (some ⟨b3,0,none⟩) 1 1⟩ (.br [] [0]):=yC (ks:=[]) (ids:=[0]) hT4 (Sl.nil _ _) (Blk.sl1 hB4) (fun x hx=>by simp[ar] at hx) (fun x hx=>by simp[ar] at hx; subst hx; omega)
   have htop:c.has xb e lo w4 ⟨tb,.slice none 0 0,.slice none 0 0,.slice (some ⟨b3,0,none⟩) 1 1⟩ (.br ([]++[]) (aT []++0::aT [])):=⟨hnn,fun x hx=>by
    have hx:x∈[tb,b3]:=hx
    have hge:w.heap.size≤x:=by
     rcases List.mem_cons.1 hx with rfl | hx
     ·omega
     ·have:=List.mem_singleton.1 hx; omega
    exact⟨by omega,fun hh=>by have:=hlt x (List.mem_append_right _ hh); omega⟩⟩
   refine ah rfl C156 (jH c xb w4 e ⟨tb,.slice none 0 0,.slice none 0 0,.slice (some ⟨b3,0,none⟩) 1 1⟩ v lo d [] [] [] [] 0 n pg m h4 htop hv4 hf (Hole.top _ d m) hct hmne hfull hno (fun x hx=>hw x (by simpa [pgT] using hx)) hml (by omega) (by decide)) ?_
   rintro v5 w5 ⟨e5,new,h5,hgr5,hc5,hst5,hr5⟩
   have hto5:c.to xb w w5 e e5:=⟨h5,fun x hx=>(hgr5 x hx).imp (fun g=>g) (fun g=>by omega),(hc24.mono (by simp)).trans hc5 (fun _ hx _=>hx) (fun x hx hl=>by
    rcases List.mem_cons.1 hx with g | g
    ·have g:x=tb:=g
     omega
    ·exact g)⟩
   rcases hr5 with⟨rfl,hno5,hn5⟩ | ⟨rfl,hn5,n5,pg5,kv,iv,hct5,hpm5,hz5,hf5,hhas5⟩
   ·refine za rfl (zNR (zm rfl (a6 rfl (bL rfl rfl) ?_)))
    refine a8 (a7 (bs rfl (by decide) ?_))
    refine zSR (zm rfl (a6 rfl (fE (v := .int .u32 ((0:UInt32).toNat:Nat)) rfl) (za rfl ?_)))
    refine a8 (a7 (zrt ?_))
    exact⟨e5,new,hto5,hst5,.inl ⟨by omega,0,rfl,hno5⟩⟩
   ·refine za rfl (zNR (zm rfl (a6 rfl (bL rfl rfl) ?_)))
    refine a8 (a7 (aF rfl (fun h=>h rfl) ?_))
    refine zKR (zm rfl (zm rfl ?_))
    have hz6:cnZ n5≤480:=Nat.le_trans hz5 (by decide)
    have hf6:=hf5 (.inr hz4)
    have hml5:e5.made.length≤902:=by rw[hst5.made,List.length_append]; omega
    have hk5:e5.s.k+1≤40000:=by rw[hst5.k]; omega
    have hpm5:pg5.Perm (pg++new):=by simpa [pgT] using hpm5
    have hct5:CT e5.s.V (d+1) n5 pg5 m:=by simpa [prT] using hct5
    refine ah rfl C94 (kZ c xb w5 e5 ⟨tb,.slice none 0 0,kv,iv⟩ n5 h5 hhas5.at_ (CT.good hct5 hz6 hf6) hz6 (by omega) hk5) ?_
    rintro v6 w6 hr6
    rcases hr6 with⟨rfl,g2,g3⟩ | ⟨id,e6,rfl,hto6,hst6,hV6⟩
    ·refine zx rfl rfl rfl (zx rfl rfl rfl (za rfl (za rfl (a8 (a7 (zrf ?_))))))
     exact⟨e5,new,hto5.trans g3,hst5,.inl ⟨by omega,0,rfl,g2⟩⟩
    ·refine zx rfl rfl rfl (zx rfl rfl rfl (za rfl (za rfl (a8 (a7 (zrf ?_))))))
     have hold:=hst6.ext.old
     have hw5:∀x∈pg5,e5.s.P.now.written x=true:=fun x hx=>by
      rcases List.mem_append.1 (hpm5.subset hx) with g | g
      ·exact hst5.ext.wr (hw x g)
      ·exact(hst5.ext.mem g).2
     exact⟨e6,new++[id],hto5.trans hto6,hst5.trans hst6,.inr ⟨id,d+1,id::pg5,rfl,by rw[List.length_append,List.length_singleton]; omega,Nat.le_refl _,(hct5.mono (fun y hy=>hold y (hw5 y hy))).saved hz6 hf6 hV6,((List.perm_append_singleton _ _).symm.trans (hpm5.append_right [id])).trans (by rw[List.append_assoc]),fun q=>absurd q (by omega)⟩⟩
end Go.Proofs.YtpbfapbajmdlkaaGreat

end
section
namespace Go.Proofs.YtpbfapbajmdlkaaGreat
open Go Go.Sac
set_option maxRecDepth 100000
set_option maxHeartbeats 4000000
def TC.same(c:TC)(w':World)(s:TP)(k:Nat):Prop:=∃s',c.pg w' s'∧Ext c.n s.P s'.P s.V s'.V []∧s'.k≤k
theorem qh(c:TC)(xb:Nat)(w:World)(e:TE)(s:TP)(h:c.ed xb w e)(hx:Ext c.n s.P e.s.P s.V e.s.V e.made)(hu:∀x,s.P.now.written x=true→s.P.now.used x=true)(hl:e.made.length≤1000) :
  Ret Tryz.prog 95 #[.pointer (some ⟨xb,0,none⟩)] w fun _ w'=>c.same w' s e.s.k∧Chg c.F w w':=by
 refine(undo_ok c xb w e h (fun x hx'=>(hx.mem hx').1) hx.nodup hl).mono ?_
 rintro _ w' ⟨⟨s',h1,h2,h3,h4,h5,h6,h7⟩,hc⟩
 exact⟨⟨s',h1,by rw[h2]; exact hx.undo hu h4 h5 h6 h7,by omega⟩,hc⟩
theorem tg(c:TC)(xb:Nat)(w:World)(e:TE)(s:TP)(q:Value)(root:UInt32)(h:c.ed xb w e)(hx:Ext c.n s.P e.s.P s.V e.s.V e.made)(hu:∀x,s.P.now.written x=true→s.P.now.used x=true)(hl:e.made.length≤1000) :
  Ret Tryz.prog 98 #[.pointer (some ⟨xb,0,none⟩),q,.int .u32 root.toNat,.int .i64 70] w fun r w'=>r = .tuple #[.int .u32 root.toNat,.slice none 0 0,.int .i64 70]∧c.same w' s e.s.k∧Chg c.F w w':=by
 refine enter [8,9,10] Tryz.func98 rfl rfl (Nat.le_of_ble_eq_true rfl) ?_
 refine zSR (a6 rfl (fE (v := .int .u32 ((0:UInt32).toNat:Nat)) rfl) (za rfl (za rfl ?_)))
 refine zNR (zm rfl (za rfl (a8 (a7 (ae (zSR (zm rfl (a6 rfl (cX rfl rfl) ?_))))))))
 refine a8 (a7 (aF rfl (by decide) ?_))
 refine aA (a7 (ae (zSR (zm rfl (a6 rfl (bL rfl rfl) ?_)))))
 refine a8 (a7 (bs rfl (by decide) ?_))
 refine zSR (zm rfl (ah rfl C95 (qh c xb w e s h hx hu hl) ?_))
 rintro _ w1 ⟨h1,hc1⟩
 refine zNR (zm rfl (zm rfl (za rfl (za rfl (za rfl (a8 (a7 (zrt ?_))))))))
 exact⟨rfl,h1,hc1⟩
theorem ends_ok(c:TC)(xb:Nat)(w:World)(e:TE)(s:TP)(v:NV)(root:UInt32)(n:Cn)(lo d:Nat)(pg:List UInt32)(m:List Pr)(h:c.ed xb w e)(hx:Ext c.n s.P e.s.P s.V e.s.V e.made)(hu:∀x,s.P.now.written x=true→s.P.now.used x=true)
  (hv:c.has xb e lo w v n) (hf:∀x∈c.F,x<lo) (hct:CT e.s.V d n pg m) (hno:rk n) (hw:∀x∈pg,e.s.P.now.written x=true) (hml:e.made.length≤900) (hk:e.s.k+3≤40000) :
  Ret Tryz.prog 98 #[.pointer (some ⟨xb,0,none⟩),v.ptr,.int .u32 root.toNat,.int .i64 0] w fun r w' =>
   ((r = .tuple #[.int .u32 root.toNat,.slice none 0 0,.int .i64 70]∧c.same w' s (e.s.k+3)∧dN s.P c.n≤e.made.length+2) ∨
    ∃id d' pg' new gv s',r = .tuple #[.int .u32 id.toNat,gv,.int .i64 0]∧c.pg w' s'∧Ext c.n s.P s'.P s.V s'.V (e.made++new)∧s'.k≤e.s.k+3∧new.length≤3∧d'≤d+1∧isT s'.V d' id pg' m∧pg'.Perm (pg++new)∧(cnZ n≤480→new.length≤1∧d'≤d)∧Own w' gv e.gone∧∀x∈ar gv,x∈EF xb e∨w.heap.size≤x)∧Chg (c.F++EF xb e) w w':=by
 refine enter [8,9,10] Tryz.func98 rfl rfl (Nat.le_of_ble_eq_true rfl) ?_
 refine zSR (a6 rfl (fE (v := .int .u32 ((0:UInt32).toNat:Nat)) rfl) (za rfl (za rfl ?_)))
 refine zNR (zm rfl (za rfl (a8 (a7 (ae (zSR (zm rfl (a6 rfl (cX rfl rfl) ?_))))))))
 refine a8 (a7 (bs rfl (rfl) ?_))
 refine al (zm rfl (zm rfl (ah rfl C157 (root_ok c xb w e v n lo d pg m h hv hf hct hno hw hml hk) ?_)))
 rintro v1 w1 ⟨e1,new,hto1,hst1,hr1⟩
 have h1:=hto1.at_
 have hx1:=hx.trans hst1.ext
 have hml1:e1.made=e.made++new:=hst1.made
 have hk1:=hst1.k
 rcases hr1 with⟨hnl,q,rfl,hno1⟩ | ⟨id,d',pg',rfl,hnl,hd',hit,hpm,hsm⟩
 ·refine zm rfl (zx rfl rfl rfl (zx rfl rfl rfl (za rfl (za rfl (a8 (a7 (ae (zSR (zm rfl (a6 rfl (bL rfl rfl) ?_))))))))))
  refine a8 (a7 (bs rfl (by decide) ?_))
  refine zSR (zm rfl (ah rfl C95 (qh c xb w1 e1 s h1 (by rw[hml1]; exact hx1) hu (by rw[hml1,List.length_append]; omega)) ?_))
  rintro _ w2 ⟨⟨s2,hp2,hx2,hk2⟩,hc2⟩
  refine zNR (zm rfl (zm rfl (za rfl (za rfl (za rfl (a8 (a7 (zrt ?_))))))))
  have hroom:=hx1.room h.pg.n4.2 hno1
  rw[List.length_append] at hroom
  refine⟨.inl ⟨rfl,⟨s2,hp2,hx2,by omega⟩,by omega⟩,hto1.chg.tr (hc2.mono (fun x hx _=>List.mem_append_left _ hx))⟩
 ·refine zm rfl (zx rfl rfl rfl (zx rfl rfl rfl (za rfl (za rfl (a8 (a7 (ae (zSR (zm rfl (a6 rfl (bL rfl rfl) ?_))))))))))
  refine a8 (a7 (aF rfl (fun h=>h rfl) ?_))
  refine aA (a7 (ae ?_))
  have hB1:=h1.blk
  refine aO bG (.pure 0 (.pure 1 (.pure 2 (.pure 3 (.read 4 (.pure 5 (.pure 6 (.pure 7 .nil)))))))) (by kernel_rfl) ?_
  refine ym rfl rfl rfl ?_
  refine ym rfl rfl rfl ?_
  refine yn rfl rfl rfl rfl ?_
  refine aj rfl rfl rfl (fun _=>(aa jl rfl I41 rfl rfl)) ?_
  refine aX rfl rfl rfl bw rfl rfl (hB1.c rfl) ?_
  refine ya rfl rfl rfl ?_
  refine ya rfl rfl rfl ?_
  refine ya rfl rfl rfl ?_
  refine aQ (a7 (zrf ?_))
  have hg1:e1.gone=e.gone:=by have:=hst1.gone; rw[List.append_nil] at this; exact this
  refine⟨.inr ⟨id,d',pg',new,e1.gv,e1.s,rfl,h1.pg.chg0 (drw _),hx1,by omega,hnl,hd',hit,hpm,hsm,?_,fun x hx=>hto1.grow x (by simp[EF,hx])⟩,hto1.chg.tr0 (drw _)⟩
  have:=h1.go
  rw[hg1] at this
  exact this.mod0 (drw _)
end Go.Proofs.YtpbfapbajmdlkaaGreat

end
section
namespace Go.Proofs.YtpbfapbajmdlkaaGreat
open Go Go.Sac
set_option maxRecDepth 100000
set_option maxHeartbeats 4000000
theorem ed0{c:TC}{w w':World}{s:TP}{xb:Nat}(h:c.pg w s)(hm:Chg [] w w')(hB:Blk w' xb [c.pv,.slice none 0 0,.slice none 0 0])(hx:w.heap.size≤xb):c.ed xb w' ⟨s,.slice none 0 0,.slice none 0 0,[],[]⟩ :=
 ⟨h.chg0 hm,hB,Own.nil _,Own.nil _,by simp[ar],by simp[ar],fun x hx=>by simp[ar] at hx,fun x hq=>by
  have hq:x∈[xb]:=hq
  have hq:=List.mem_singleton.1 hq
  subst hq
  have h1:=h.1.2.1.1
  exact⟨by omega,fun hh=>by have:=h.lt _ hh; omega⟩⟩
def CD(c:TC)(w:World)(s:TP)(root:UInt32)(d:Nat)(pg:List UInt32)(m m':List Pr)(r:Value→Value→Value→Value)(ra:Value)(k:Nat)(w':World):Prop :=
 (ra=r (.int .u32 root.toNat) (.slice none 0 0) (.int .i64 70)∧c.same w' s k∧dN s.P c.n≤2*(d+1)) ∨
 ∃id d' pg' made gone gv s',ra=r (.int .u32 id.toNat) gv (.int .i64 0)∧c.pg w' s'∧Ext c.n s.P s'.P s.V s'.V made∧s'.k≤k∧made.length≤2*d+3∧d'≤d+1∧isT s'.V d' id pg' m'∧(pg'++gone).Perm (pg++made)∧(d=0→bM m'≤480→made.length≤1∧d'=0)∧gone.length≤2*d+1∧Own w' gv gone∧∀x∈ar gv,w.heap.size≤x
theorem kS{F S:List Nat}{w0 w w':World}(h0:Chg F w0 w)(h:Chg (F++S) w w')(hS:∀x∈S,w0.heap.size≤x):Chg F w0 w' :=
 h0.trans h (fun _ hx _=>hx) (fun x hx hl=>(List.mem_append.1 hx).elim id (fun g=>by have:=hS x g; omega))
theorem vT{c:TC}{w w5 w6:World}{s:TP}{xb:Nat}{e:TE}{v:NV}{n:Cn}{root:UInt32}{d:Nat}{pg pg6 new out:List UInt32}{m m':List Pr}(h:c.pg w s)(hx:w.heap.size≤xb)(k5:w.heap.size≤w5.heap.size)(hto:c.to xb w5 w6 ⟨s,.slice none 0 0,.slice none 0 0,[],[]⟩ e)(hst:Stp c.n ⟨s,.slice none 0 0,.slice none 0 0,[],[]⟩ e new out)
  (hnl:new.length≤2*d) (hol:out.length≤2*d+1) (hv:c.has xb e w5.heap.size w6 v n) (hct:CT e.s.V d n pg6 m') (hpm:(pg6++out).Perm (pg++new)) (hno:rk n) (hw:∀x∈pg,s.P.now.written x=true) (hd:d≤40) (hk:s.k+2*d+3≤40000) (hc:Chg c.F w w6) :
  Ret Tryz.prog 98 #[.pointer (some ⟨xb,0,none⟩),v.ptr,.int .u32 root.toNat,.int .i64 0] w6 fun r w'=>CD c w s root d pg m m' (fun a b e => .tuple #[a,b,e]) r (s.k+2*d+3) w'∧Chg c.F w w':=by
 have hm6:e.made=new:=hst.made
 have hg6:e.gone=out:=hst.gone
 have hk6:e.s.k=s.k+new.length:=hst.k
 have hx6:Ext c.n s.P e.s.P s.V e.s.V new:=hst.ext
 have hEF:∀x∈EF xb e,w.heap.size≤x:=fun x hx'=>by
  rcases hto.grow x hx' with g | g
  ·have g:x∈[xb]:=g
   have:=List.mem_singleton.1 g; omega
  ·omega
 have k6:=hc.1
 have hw6:∀x∈pg6,e.s.P.now.written x=true:=fun x hx=>by
  rcases List.mem_append.1 (hpm.subset (List.mem_append_left _ hx)) with g | g
  ·exact hx6.wr (hw x g)
  ·exact(hx6.mem g).2
 refine(ends_ok c xb w6 e s v root n w5.heap.size d pg6 m' hto.at_ (by rw[hm6]; exact hx6) (fun x hx=>h.wu hx) hv (fun x hx=>by have:=h.lt x hx; omega) hct hno hw6 (by rw[hm6]; omega) (by omega)).mono ?_
 rintro r w7 ⟨hr,hc7⟩
 refine⟨?_,kS hc hc7 hEF⟩
 rcases hr with⟨rfl,hs,hroom⟩ | ⟨id,d',pg',new2,gv,s',rfl,hp,hx',hk',hn2,hd',hit,hpm',hsm,hgv,hgb⟩
 ·refine .inl ⟨rfl,?_,by rw[hm6] at hroom; omega⟩
  obtain⟨s',q1,q2,q3⟩:=hs
  exact⟨s',q1,q2,by omega⟩
 ·rw[hm6] at hx'
  refine .inr ⟨id,d',pg',new++new2,out,gv,s',rfl,hp,hx',by omega,by rw[List.length_append]; omega,hd',hit,?_,fun hd0 hz=>?_,hol,hg6▸hgv,fun x hx=>(hgb x hx).elim (fun g=>hEF x g) (fun g=>by omega)⟩
  ·rw[List.perm_iff_count] at hpm hpm' ⊢
   intro x
   have q1:=hpm x
   have q2:=hpm' x
   simp only[List.count_append] at q1 q2 ⊢
   omega
  ·subst hd0
   have hzn:cnZ n≤480:=by
    cases n with
    | leaf ps => have q : ps = m' := hct.1; subst q; exact hz
    | br ks ids => exact hct.elim
   have:=hsm hzn
   rw[List.length_append]; omega
theorem With_ok(c:TC)(w:World)(s:TP)(root:UInt32)(d:Nat)(pg:List UInt32)(m:List Pr)(p:Pr)(h:c.pg w s)(ht:isT s.V d root pg m)(hw:∀x∈pg,s.P.now.written x=true)(hd:d≤40)(hk:s.k+2*d+3≤40000) :
  Ret Tryz.prog 57 #[c.pv,.int .u32 root.toNat,str p.1,str p.2] w fun r w'=>((¬mU p∧r = .tuple #[.int .u32 0,.slice none 0 0,.int .i64 90]∧c.pg w' s)∨(mU p∧CD c w s root d pg m (eh m p) (fun a b e => .tuple #[a,b,e]) r (s.k+2*d+3) w'))∧Chg c.F w w':=by
 refine enter [8,9,10] Tryz.func57 rfl rfl (Nat.le_of_ble_eq_true rfl) ?_
 refine zSR (a6 rfl (fE (v := .int .u32 ((0:UInt32).toNat:Nat)) rfl) (za rfl (za rfl ?_)))
 refine zNR (zm rfl (zm rfl (a6 rfl (bN fZ I49 rfl (zs:=[str [],str []]) rfl rfl (bZ rfl rfl rfl (Nat.le_of_ble_eq_true rfl) (bZ rfl rfl rfl (Nat.le_of_ble_eq_true rfl) (ej (cs':=[str p.1,str p.2]) rfl)))) ?_)))
 refine aS rfl (dn (l:=[str [],str []]) I49 rfl rfl) ?_
 rintro _ w1 ⟨tb,rfl,hnt,hT1,hc1,hl1⟩
 refine aH rfl (cz (l:=[str p.1,str p.2]) I49 rfl rfl hT1 rfl rfl (Nat.le_refl 2) (by simp[ei]) (cy rfl)) ?_
 rintro w2 ⟨hT2,hc2,hs2⟩
 refine a8 (a7 (ae (ae (al ?_))))
 have hc02:Chg [] w w2:=hc1.t1 hc2 hnt
 have hTa:At w2 tb 0 [str p.1,str p.2]:=hT2.at (by rfl)
 refine a6 rfl (bX fZ rfl I49 rfl hTa rfl) ?_
 refine aS rfl (sq p cn I49 rfl rfl rfl rfl rfl (by decide)) ?_
 rintro _ w3 ⟨b3,rfl,hB3,hn3,hc3,hl3⟩
 refine ah rfl C96 (uq w3 _ [p] (Blk.sl1 hB3) (by simp)) ?_
 rintro v4 w4 ⟨hc4,hr4⟩
 have hc04:=(hc02.tr hc3).tr hc4
 have hT4:=(hT2.chg0 hc3).chg0 hc4
 rcases hr4 with⟨hno,rfl⟩ | ⟨hok,hz,rfl⟩ | ⟨hok,bv,rfl,_,_⟩
 ·refine zm rfl (zx rfl rfl rfl (zx rfl rfl rfl (za rfl (za rfl (zNR (zm rfl (a6 rfl (bL rfl rfl) ?_)))))))
  refine a8 (a7 (bs rfl (by decide) ?_))
  refine zSR (a6 rfl (fE (v := .int .u32 ((0:UInt32).toNat:Nat)) rfl) (za rfl (za rfl ?_)))
  refine a8 (a7 (zrt ?_))
  exact⟨.inl ⟨fun hp=>hno ⟨fun q hq=>by have:=List.mem_singleton.1 hq; subst this; exact hp,List.pairwise_singleton _ _⟩,rfl,h.chg0 hc04⟩,hc04.mono (by simp)⟩
 ·have hp:=hok.1 p (List.mem_singleton.2 rfl)
  rw[gh] at hz
  have:=hp.1.2
  have:=hp.2
  omega
 ·have hp:=hok.1.1 p (List.mem_singleton.2 rfl)
  refine zm rfl (zx rfl rfl rfl (zx rfl rfl rfl (za rfl (za rfl (zNR (zm rfl (a6 rfl (bL rfl rfl) ?_)))))))
  refine a8 (a7 (aF rfl (fun h=>h rfl) ?_))
  refine zKR (zm rfl (a6 rfl (bN jl I175 rfl (zs:=[.pointer none,.slice none 0 0,.slice none 0 0]) rfl rfl (bZ rfl rfl rfl (Nat.le_of_ble_eq_true rfl) (ej (cs':=[c.pv,.slice none 0 0,.slice none 0 0]) rfl))) ?_))
  refine aS rfl (cg (l:=[c.pv,.slice none 0 0,.slice none 0 0]) rfl rfl) ?_
  rintro _ w5 ⟨xb,rfl,hxn,hX5,hc5,hl5⟩
  refine za rfl (zNR (zm rfl (zm rfl ?_)))
  have hc05:=hc04.tr hc5
  have hTb:At w5 tb 0 [str p.1,str p.2]:=(hT4.chg0 hc5).at (by rfl)
  refine a6 rfl (bX fZ rfl I49 rfl hTb rfl) ?_
  have k04:=hc04.1
  have k05:=hc05.1
  have hxw:w.heap.size≤xb:=by omega
  have he0:=ed0 h hc05 hX5 hxw
  refine ah rfl C97 (put_ok c xb p hp d w5 ⟨s,.slice none 0 0,.slice none 0 0,[],[]⟩ root pg m 0 he0 ht hw (by omega) (by simp; omega) (by simp; omega) (by show s.k+2*d≤40000; omega)) ?_
  rintro v6 w6 ⟨e6,new,out,hto,hst,hnl,hol,hr⟩
  have hc06:Chg c.F w w6:=kS (hc05.mono (by simp)) hto.chg (fun x hx=>by have hx:x∈[xb]:=hx; have:=List.mem_singleton.1 hx; omega)
  have hm6:e6.made=new:=hst.made
  have hk6:e6.s.k=s.k+new.length:=hst.k
  have hx6:Ext c.n s.P e6.s.P s.V e6.s.V new:=hst.ext
  have hnd:=h.n4.2
  rcases hr with⟨q,rfl,hno⟩ | ⟨v,n,pg6,rfl,hv6,hct6,hpm6,hcok,hcf⟩
  ·refine zm rfl (zx rfl rfl rfl (zx rfl rfl rfl (za rfl (za rfl (zNR (zm rfl (zm rfl (zm rfl (zm rfl (ah rfl C98 (tg c xb w6 e6 s q root hto.at_ (by rw[hm6]; exact hx6) (fun x hx=>h.wu hx) (by rw[hm6]; omega)) ?_))))))))))
   rintro _ w7 ⟨rfl,⟨s7,hp7,hx7,hk7⟩,hc7⟩
   refine zx rfl rfl rfl (zx rfl rfl rfl (zx rfl rfl rfl (za rfl (za rfl (za rfl (a8 (a7 (zrf ?_))))))))
   have hroom:=hx6.room hnd hno
   exact⟨.inr ⟨hp,.inl ⟨rfl,⟨s7,hp7,hx7,by omega⟩,by omega⟩⟩,hc06.tr hc7⟩
  ·refine zm rfl (zx rfl rfl rfl (zx rfl rfl rfl (za rfl (za rfl (zNR (zm rfl (zm rfl (zm rfl (zm rfl (ah rfl C98 (vT (root:=root) (m:=m) h hxw k05 hto hst hnl (by omega) hv6 hct6 hpm6 hcok hw hd hk hc06) ?_))))))))))
   rintro v7 w7 ⟨hr7,hc7⟩
   rcases hr7 with⟨rfl,hs7,hroom⟩ | ⟨id,d',pg',made,gone,gv,s',rfl,hrest⟩
   ·refine zx rfl rfl rfl (zx rfl rfl rfl (zx rfl rfl rfl (za rfl (za rfl (za rfl (a8 (a7 (zrf ?_))))))))
    exact⟨.inr ⟨hp,.inl ⟨rfl,hs7,hroom⟩⟩,hc7⟩
   ·refine zx rfl rfl rfl (zx rfl rfl rfl (zx rfl rfl rfl (za rfl (za rfl (za rfl (a8 (a7 (zrf ?_))))))))
    exact⟨.inr ⟨hp,.inr ⟨id,d',pg',made,gone,gv,s',rfl,hrest⟩⟩,hc7⟩
end Go.Proofs.YtpbfapbajmdlkaaGreat

end
section
namespace Go.Proofs.YtpbfapbajmdlkaaGreat
open Go Go.Sac
set_option maxRecDepth 100000
set_option maxHeartbeats 4000000
def wo4(a b e:Value):Value := .tuple #[a,b,.bool (match e with | .int .i64 0=>true | _=>false),e]
theorem xU(c:TC)(w:World)(s:TP)(root:UInt32)(d:Nat)(pg:List UInt32)(m:List Pr)(key:Bs)(h:c.pg w s)(ht:isT s.V d root pg m)(hw:∀x∈pg,s.P.now.written x=true)(hd:d≤40)(hk:s.k+2*d+3≤40000) :
  Ret Tryz.prog 62 #[c.pv,.int .u32 root.toNat,str key] w fun r w'=>((dh m key=false∧r = .tuple #[.int .u32 root.toNat,.slice none 0 0,.bool false,.int .i64 0]∧c.same w' s s.k)∨(dh m key=true∧CD c w s root d pg m (fO m key) wo4 r (s.k+2*d+3) w'))∧Chg c.F w w':=by
 refine enter [6,7,8,9] Tryz.func62 rfl rfl (Nat.le_of_ble_eq_true rfl) ?_
 refine zSR (a6 rfl (fE (v := .int .u32 ((0:UInt32).toNat:Nat)) rfl) (za rfl (za rfl (za rfl ?_))))
 refine zNR (zm rfl (a6 rfl (bN jl I175 rfl (zs:=[.pointer none,.slice none 0 0,.slice none 0 0]) rfl rfl (bZ rfl rfl rfl (Nat.le_of_ble_eq_true rfl) (ej (cs':=[c.pv,.slice none 0 0,.slice none 0 0]) rfl))) ?_))
 refine aS rfl (cg (l:=[c.pv,.slice none 0 0,.slice none 0 0]) rfl rfl) ?_
 rintro _ w5 ⟨xb,rfl,hxn,hX5,hc5,hl5⟩
 refine za rfl (zNR (zm rfl (zm rfl (zm rfl ?_))))
 have k05:=hc5.1
 have hxw:w.heap.size≤xb:=by omega
 have he0:=ed0 h hc5 hX5 hxw
 refine ah rfl C110 (drop_ok c xb key d w5 ⟨s,.slice none 0 0,.slice none 0 0,[],[]⟩ root pg m 0 he0 ht hw (by omega) (by simp; omega) (by simp; omega) (by show s.k+2*d≤40000; omega)) ?_
 rintro v6 w6 ⟨e6,new,out,hto,hst,hnl,hol,hr⟩
 have hc06:Chg c.F w w6:=kS (hc5.mono (by simp)) hto.chg (fun x hx=>by have hx:x∈[xb]:=hx; have:=List.mem_singleton.1 hx; omega)
 have hm6:e6.made=new:=hst.made
 have hk6:e6.s.k=s.k+new.length:=hst.k
 have hx6:Ext c.n s.P e6.s.P s.V e6.s.V new:=hst.ext
 have hnd:=h.n4.2
 rcases hr with⟨q,rfl,hhas,hno⟩ | ⟨q,rfl,hhas,hnew⟩ | ⟨v,n,pg6,rfl,hhas,hv6,hct6,hpm6,hcok⟩
 ·refine zm rfl (zx rfl rfl rfl (zx rfl rfl rfl (zx rfl rfl rfl (za rfl (za rfl (za rfl (a8 (a7 (ae (zSR (zm rfl (a6 rfl (bR (cX rfl rfl) (congrArg Value.bool (decide_eq_false (by decide)))) ?_))))))))))))
  refine zm rfl (ay rfl rfl (ay rfl rfl (a6 rfl (aL rfl) (a8 (a7 (aM (rfl) ?_))))))
  refine zKR (zm rfl (zm rfl (zm rfl (zm rfl (ah rfl C98 (tg c xb w6 e6 s q root hto.at_ (by rw[hm6]; exact hx6) (fun x hx=>h.wu hx) (by rw[hm6]; omega)) ?_)))))
  rintro _ w7 ⟨rfl,⟨s7,hp7,hx7,hk7⟩,hc7⟩
  refine zm rfl (zx rfl rfl rfl (zx rfl rfl rfl (zx rfl rfl rfl (za rfl (za rfl (za rfl (zNR (zm rfl (zm rfl (zm rfl (zm rfl ?_)))))))))))
  have hroom:=hx6.room hnd hno
  refine ag rfl (zm rfl (ag rfl (a6 rfl (cX rfl rfl) (a6 rfl (aN rfl) (zm rfl (za rfl (za rfl (za rfl (za rfl ?_)))))))))
  refine a8 (a7 (zrf ?_))
  exact⟨.inr ⟨hhas,.inl ⟨rfl,⟨s7,hp7,hx7,by omega⟩,by omega⟩⟩,hc06.tr hc7⟩
 ·refine zm rfl (zx rfl rfl rfl (zx rfl rfl rfl (zx rfl rfl rfl (za rfl (za rfl (za rfl (a8 (a7 (ae (zSR (zm rfl (a6 rfl (bR (cX rfl rfl) (congrArg Value.bool (decide_eq_true (rfl)))) ?_))))))))))))
  refine zm rfl (ag rfl (zm rfl (ag rfl (a6 rfl (cA rfl) (a6 rfl (aN rfl) (a8 (a7 (bf (rfl) ?_))))))))
  refine zSR (zm rfl (za rfl (za rfl (za rfl (za rfl (a8 (a7 (zrt ?_))))))))
  subst hnew
  exact⟨.inl ⟨hhas,rfl,⟨e6.s,hto.at_.pg,hx6,by simp at hk6; omega⟩⟩,hc06⟩
 ·refine zm rfl (zx rfl rfl rfl (zx rfl rfl rfl (zx rfl rfl rfl (za rfl (za rfl (za rfl (a8 (a7 (ae (zSR (zm rfl (a6 rfl (bR (cX rfl rfl) (congrArg Value.bool (decide_eq_true (rfl)))) ?_))))))))))))
  refine zm rfl (ag rfl (zm rfl (ag rfl (a6 rfl (cA rfl) (a6 rfl (aN rfl) (a8 (a7 (aM (rfl) ?_))))))))
  refine zKR (zm rfl (zm rfl (zm rfl (zm rfl (ah rfl C98 (vT (root:=root) (m:=m) h hxw k05 hto hst hnl hol hv6 hct6 hpm6 hcok hw hd hk hc06) ?_)))))
  rintro v7 w7 ⟨hr7,hc7⟩
  rcases hr7 with⟨rfl,hs7,hroom⟩ | ⟨id,d',pg',made,gone,gv,s',rfl,hrest⟩
  ·refine zm rfl (zx rfl rfl rfl (zx rfl rfl rfl (zx rfl rfl rfl (za rfl (za rfl (za rfl (zNR (zm rfl (zm rfl (zm rfl (zm rfl (ag rfl (zm rfl (ag rfl (a6 rfl (cX rfl rfl) (a6 rfl (aN rfl) (zm rfl (za rfl (za rfl (za rfl (za rfl ?_)))))))))))))))))))))
   refine a8 (a7 (zrf ?_))
   exact⟨.inr ⟨hhas,.inl ⟨rfl,hs7,hroom⟩⟩,hc7⟩
  ·refine zm rfl (zx rfl rfl rfl (zx rfl rfl rfl (zx rfl rfl rfl (za rfl (za rfl (za rfl (zNR (zm rfl (zm rfl (zm rfl (zm rfl (ag rfl (zm rfl (ag rfl (a6 rfl (cX rfl rfl) (a6 rfl (aN rfl) (zm rfl (za rfl (za rfl (za rfl (za rfl ?_)))))))))))))))))))))
   refine a8 (a7 (zrf ?_))
   exact⟨.inr ⟨hhas,.inr ⟨id,d',pg',made,gone,gv,s',rfl,hrest⟩⟩,hc7⟩
def PutR(c:TC)(s:TP)(d:Nat)(pg:List UInt32)(m':List Pr)(r:Value→Value→Value)(ra:Value)(k:Nat)(w':World):Prop :=
 (ra=r (.int .u32 0) (.int .i64 70)∧c.same w' s k∧dN s.P c.n≤2*(d+1)) ∨
 ∃id d' pg' made gone s',ra=r (.int .u32 (id:UInt32).toNat) (.int .i64 0)∧c.pg w' s'∧Ext c.n s.P s'.P s.V s'.V made∧s'.k≤k∧made.length≤2*d+3∧d'≤d+1∧isT s'.V d' id pg' m'∧(pg'++gone).Perm (pg++made)∧(d=0→bM m'≤480→made.length≤1∧d'=0)∧gone.length≤2*d+1
theorem zb(c:TC)(w:World)(s:TP)(root:UInt32)(d:Nat)(pg:List UInt32)(m:List Pr)(p:Pr)(h:c.pg w s)(ht:isT s.V d root pg m)(hw:∀x∈pg,s.P.now.written x=true)(hd:d≤40)(hk:s.k+2*d+3≤40000) :
  Ret Tryz.prog 20 #[c.pv,.int .u32 root.toNat,str p.1,str p.2] w fun r w'=>((¬mU p∧r = .tuple #[.int .u32 0,.int .i64 90]∧c.pg w' s)∨(mU p∧PutR c s d pg (eh m p) (fun a e => .tuple #[a,e]) r (s.k+2*d+3) w'))∧Chg c.F w w':=by
 refine enter [8,9] Tryz.func20 rfl rfl (Nat.le_of_ble_eq_true rfl) ?_
 refine zSR (a6 rfl (fE (v := .int .u32 ((0:UInt32).toNat:Nat)) rfl) (za rfl ?_))
 refine zNR (zm rfl (zm rfl (zm rfl (zm rfl (ah rfl C57 (With_ok c w s root d pg m p h ht hw hd hk) ?_)))))
 rintro v1 w1 ⟨hr1,hc1⟩
 rcases hr1 with⟨hp,rfl,h1⟩ | ⟨hp,⟨rfl,hs7,hroom⟩ | ⟨id,d',pg',made,gone,gv,s',rfl,q1,q2,q3,q4,q5,q6,q7,q8,q9,_⟩⟩
 ·refine zm rfl (zx rfl rfl rfl (zx rfl rfl rfl (zx rfl rfl rfl (za rfl (za rfl (za rfl (a8 (a7 (ae (zSR (zm rfl (a6 rfl (bL rfl rfl) ?_))))))))))))
  refine a8 (a7 (bs rfl (by decide) ?_))
  refine zSR (zm rfl (a6 rfl (fE (v := .int .u32 ((0:UInt32).toNat:Nat)) rfl) (za rfl ?_)))
  refine a8 (a7 (zrt ?_))
  exact⟨.inl ⟨hp,rfl,h1⟩,hc1⟩
 ·refine zm rfl (zx rfl rfl rfl (zx rfl rfl rfl (zx rfl rfl rfl (za rfl (za rfl (za rfl (a8 (a7 (ae (zSR (zm rfl (a6 rfl (bL rfl rfl) ?_))))))))))))
  refine a8 (a7 (bs rfl (by decide) ?_))
  refine zSR (zm rfl (a6 rfl (fE (v := .int .u32 ((0:UInt32).toNat:Nat)) rfl) (za rfl ?_)))
  refine a8 (a7 (zrt ?_))
  exact⟨.inr ⟨hp,.inl ⟨rfl,hs7,hroom⟩⟩,hc1⟩
 ·refine zm rfl (zx rfl rfl rfl (zx rfl rfl rfl (zx rfl rfl rfl (za rfl (za rfl (za rfl (a8 (a7 (ae (zSR (zm rfl (a6 rfl (bL rfl rfl) ?_))))))))))))
  refine a8 (a7 (aF rfl (fun h=>h rfl) ?_))
  refine zKR (zm rfl (za rfl (za rfl (a8 (a7 (zrf ?_))))))
  exact⟨.inr ⟨hp,.inr ⟨id,d',pg',made,gone,s',rfl,q1,q2,q3,q4,q5,q6,q7,q8,q9⟩⟩,hc1⟩
def de3(a e:Value):Value := .tuple #[a,.bool (match e with | .int .i64 0=>true | _=>false),e]
theorem xV(c:TC)(w:World)(s:TP)(root:UInt32)(d:Nat)(pg:List UInt32)(m:List Pr)(key:Bs)(h:c.pg w s)(ht:isT s.V d root pg m)(hw:∀x∈pg,s.P.now.written x=true)(hd:d≤40)(hk:s.k+2*d+3≤40000) :
  Ret Tryz.prog 24 #[c.pv,.int .u32 root.toNat,str key] w fun r w'=>((dh m key=false∧r = .tuple #[.int .u32 root.toNat,.bool false,.int .i64 0]∧c.same w' s s.k)∨(dh m key=true∧PutR c s d pg (fO m key) de3 r (s.k+2*d+3) w'))∧Chg c.F w w':=by
 refine enter [6,7,8] Tryz.func24 rfl rfl (Nat.le_of_ble_eq_true rfl) ?_
 refine zSR (a6 rfl (fE (v := .int .u32 ((0:UInt32).toNat:Nat)) rfl) (za rfl (za rfl ?_)))
 refine zNR (zm rfl (zm rfl (zm rfl (ah rfl C62 (xU c w s root d pg m key h ht hw hd hk) ?_))))
 rintro v1 w1 ⟨hr1,hc1⟩
 rcases hr1 with⟨hp,rfl,h1⟩ | ⟨hp,⟨rfl,hs7,hroom⟩ | ⟨id,d',pg',made,gone,gv,s',rfl,q1,q2,q3,q4,q5,q6,q7,q8,q9,_⟩⟩
 ·refine zm rfl (zx rfl rfl rfl (zx rfl rfl rfl (zx rfl rfl rfl (zx rfl rfl rfl (za rfl (za rfl (za rfl (za rfl (a8 (a7 (ae (zSR (zm rfl (a6 rfl (bL rfl rfl) ?_))))))))))))))
  refine a8 (a7 (aF rfl (fun h=>h rfl) ?_))
  refine zKR (zm rfl (zm rfl (za rfl (za rfl (za rfl (a8 (a7 (zrf ?_))))))))
  exact⟨.inl ⟨hp,rfl,h1⟩,hc1⟩
 ·refine zm rfl (zx rfl rfl rfl (zx rfl rfl rfl (zx rfl rfl rfl (zx rfl rfl rfl (za rfl (za rfl (za rfl (za rfl (a8 (a7 (ae (zSR (zm rfl (a6 rfl (bL rfl rfl) ?_))))))))))))))
  refine a8 (a7 (bs rfl (by decide) ?_))
  refine zSR (zm rfl (a6 rfl (fE (v := .int .u32 ((0:UInt32).toNat:Nat)) rfl) (za rfl (za rfl ?_))))
  refine a8 (a7 (zrt ?_))
  exact⟨.inr ⟨hp,.inl ⟨rfl,hs7,hroom⟩⟩,hc1⟩
 ·refine zm rfl (zx rfl rfl rfl (zx rfl rfl rfl (zx rfl rfl rfl (zx rfl rfl rfl (za rfl (za rfl (za rfl (za rfl (a8 (a7 (ae (zSR (zm rfl (a6 rfl (bL rfl rfl) ?_))))))))))))))
  refine a8 (a7 (aF rfl (fun h=>h rfl) ?_))
  refine zKR (zm rfl (zm rfl (za rfl (za rfl (za rfl (a8 (a7 (zrf ?_))))))))
  exact⟨.inr ⟨hp,.inr ⟨id,d',pg',made,gone,s',rfl,q1,q2,q3,q4,q5,q6,q7,q8,q9⟩⟩,hc1⟩
theorem An(c:TC)(w:World)(s:TP)(h:c.pg w s)(hk:s.k+1≤40000) :
  Ret Tryz.prog 56 #[c.pv] w fun r w'=>((r = .tuple #[.int .u32 0,.int .i64 70]∧c.same w' s s.k∧dN s.P c.n=0)∨∃id s',r = .tuple #[.int .u32 (id:UInt32).toNat,.int .i64 0]∧c.pg w' s'∧Ext c.n s.P s'.P s.V s'.V [id]∧s'.k≤s.k+1∧isT s'.V 0 id [id] [])∧Chg c.F w w':=by
 refine enter [2,3] Tryz.func56 rfl rfl (Nat.le_of_ble_eq_true rfl) ?_
 refine zSR (a6 rfl (fE (v := .int .u32 ((0:UInt32).toNat:Nat)) rfl) (za rfl ?_))
 refine zNR (zm rfl (a6 rfl (bN jl I175 rfl (zs:=[.pointer none,.slice none 0 0,.slice none 0 0]) rfl rfl (bZ rfl rfl rfl (Nat.le_of_ble_eq_true rfl) (ej (cs':=[c.pv,.slice none 0 0,.slice none 0 0]) rfl))) ?_))
 refine aS rfl (cg (l:=[c.pv,.slice none 0 0,.slice none 0 0]) rfl rfl) ?_
 rintro _ w1 ⟨xb,rfl,hxn,hX1,hc1,hl1⟩
 refine za rfl (zNR (zm rfl ?_))
 have hxw:w.heap.size≤xb:=by omega
 have he1:=ed0 h hc1 hX1 hxw
 refine a6 rfl (bN bh rA rfl (zs:=[.bool false,.slice none 0 0,.slice none 0 0,.slice none 0 0]) rfl rfl (bZ rfl rfl rfl (Nat.le_of_ble_eq_true rfl) (ej (cs':=[.bool true,.slice none 0 0,.slice none 0 0,.slice none 0 0]) rfl))) ?_
 refine aS rfl (cg (l:=[.bool true,.slice none 0 0,.slice none 0 0,.slice none 0 0]) rfl rfl) ?_
 rintro _ w2 ⟨tb,rfl,htn,hT2,hc2,hl2⟩
 have hn2:NAt w2 ⟨tb,.slice none 0 0,.slice none 0 0,.slice none 0 0⟩ (.leaf []):=⟨hT2,Sl.nil _ _,Sl.nil _ _,Sl.nil _ _,fun x hx=>by simp[ar] at hx⟩
 have hlf:leafOk []:=⟨⟨fun p hp=>by simp at hp,List.Pairwise.nil⟩,by decide⟩
 have hc02:=hc1.tr hc2
 have he2:=he1.chg0 hc2
 refine ah rfl C94 (kZ c xb w2 ⟨s,.slice none 0 0,.slice none 0 0,[],[]⟩ ⟨tb,.slice none 0 0,.slice none 0 0,.slice none 0 0⟩ (.leaf []) he2 hn2 hlf (by decide) (by simp) hk) ?_
 rintro v3 w3 hr3
 rcases hr3 with⟨rfl,g2,g3⟩ | ⟨id,e3,rfl,hto3,hst3,hV3⟩
 ·refine zm rfl (zx rfl rfl rfl (zx rfl rfl rfl (za rfl (za rfl (a8 (a7 (ae (zSR (zm rfl (a6 rfl (bL rfl rfl) ?_))))))))))
  refine a8 (a7 (bs rfl (by decide) ?_))
  refine zSR (zm rfl ?_)
  have hc03:Chg c.F w w3:=kS (hc02.mono (by simp)) g3.chg (fun x hx=>by have hx:x∈[xb]:=hx; have:=List.mem_singleton.1 hx; omega)
  have hx0:Ext c.n s.P s.P s.V s.V []:=Ext.refl _ _ _
  refine ah rfl C95 (qh c xb w3 ⟨s,.slice none 0 0,.slice none 0 0,[],[]⟩ s g3.at_ hx0 (fun x hx=>h.wu hx) (by simp)) ?_
  rintro _ w4 ⟨hs4,hc4⟩
  refine zNR (zm rfl (a6 rfl (fE (v := .int .u32 ((0:UInt32).toNat:Nat)) rfl) (za rfl ?_)))
  refine a8 (a7 (zrt ?_))
  exact⟨.inl ⟨rfl,hs4,Nat.le_zero.1 (hx0.room h.n4.2 g2)⟩,hc03.tr hc4⟩
 ·refine zm rfl (zx rfl rfl rfl (zx rfl rfl rfl (za rfl (za rfl (a8 (a7 (ae (zSR (zm rfl (a6 rfl (bL rfl rfl) ?_))))))))))
  refine a8 (a7 (aF rfl (fun h=>h rfl) ?_))
  refine zKR (zm rfl (za rfl (za rfl (a8 (a7 (zrf ?_))))))
  have hc03:Chg c.F w w3:=kS (hc02.mono (by simp)) hto3.chg (fun x hx=>by have hx:x∈[xb]:=hx; have:=List.mem_singleton.1 hx; omega)
  have hk3:e3.s.k=s.k+1:=hst3.k
  exact⟨.inr ⟨id,e3.s,rfl,hto3.at_.pg,hst3.ext,by omega,⟨rfl,hlf,hV3⟩⟩,hc03⟩
end Go.Proofs.YtpbfapbajmdlkaaGreat

end
section
namespace Go.Proofs.YtpbfapbajmdlkaaGreat
open Go Go.Sac
set_option maxRecDepth 100000
set_option maxHeartbeats 4000000
theorem CT.isLeaf{V:UInt32→Bs}:∀{k:Nat} {ps m:List Pr} {pg:List UInt32},CT V k (.leaf ps) pg m→k=0∧ps=m∧pg=[]∧eM m
 | 0, _, _, _, h => ⟨rfl, h⟩
 | _ + 1, _, _, _, h => h.elim
theorem CT.isBr{V:UInt32→Bs}:∀{k:Nat} {ks:List Bs} {ids pg:List UInt32} {m:List Pr},CT V k (.br ks ids) pg m→∃q,k=q+1
 | 0, _, _, _, _, h => h.elim
 | k + 1, _, _, _, _, _ => ⟨k, rfl⟩
theorem TGet_ok(c:TC)(w:World)(s:TP)(root:UInt32)(d:Nat)(pg:List UInt32)(m:List Pr)(key:Bs)(h:c.pg w s)(ht:isT s.V d root pg m)(hw:∀x∈pg,s.P.now.written x=true)(hd:d≤40) :
  Ret Tryz.prog 23 #[c.pv,.int .u32 root.toNat,str key] w fun r w'=>r = .tuple #[str ((kN m key).getD []),.bool (dh m key),.int .i64 0]∧Chg [] w w':=by
 refine enter [6,7,8] Tryz.func23 rfl rfl (Nat.le_of_ble_eq_true rfl) ?_
 refine zSR (za rfl (za rfl (za rfl (a8 (a7 (ae (zSR (zm rfl (a8 (a7 (au (bn [0,1,2,13] (fun k vs w'=>∃(id:UInt32) (i:Nat) (pg':List UInt32) (m':List Pr),vs=[c.pv,.int .u32 id.toNat,str key,.int .i64 i]∧i+k=d∧Chg [] w w'∧isT s.V k id pg' m'∧(∀x∈pg',x∈pg)∧kN m' key=kN m key∧dh m' key=dh m key) (d) ?_ ?_))))))))))))
 ·exact⟨root,0,pg,m,rfl,by omega,Chg.refl _,ht,fun x hx=>hx,rfl,rfl⟩
 ·rintro k vs J w1 ⟨id,i,pg',m',rfl,hik,hc1,hit,hpg,hge,hha⟩
  refine zSR (a6 rfl (bz rfl rfl) ?_)
  refine a8 (a7 (ae (bs rfl (by omega) ?_)))
  refine aA (a7 (ae (au (zSR (zm rfl (zm rfl ?_))))))
  have hob1:=jw hit
  obtain⟨n,pg0,hpq,hct,hV,hz,hf⟩:=hob1
  have hg:=CT.good hct hz hf
  have h1:=h.chg0 hc1
  refine ah rfl C59 (ng c w1 s id n h1 (hw id (hpg id (by rw[hpq]; simp))) hV hg) ?_
  rintro _ w2 ⟨⟨v,rfl,hn2,hnew2⟩,hc2⟩
  refine zm rfl (zx rfl rfl rfl (zx rfl rfl rfl (za rfl (za rfl (a8 (a7 (ae (zSR (zm rfl (a6 rfl (bL rfl rfl) ?_))))))))))
  refine a8 (a7 (aF rfl (fun h=>h rfl) ?_))
  refine aA (a7 (ae (zSR (zm rfl (zn rfl rfl (a6 rfl (aa bh rfl I4 rfl rfl) ?_))))))
  have hc02:=hc1.tr hc2
  have hB:=hn2.blk
  have hn:(∃ps,n = .leaf ps)∨∃ks ids,n = .br ks ids:=by cases n with | leaf ps=>exact .inl ⟨ps,rfl⟩ | br ks ids=>exact .inr ⟨ks,ids,rfl⟩
  rcases hn with⟨ps,hn⟩ | ⟨ks,ids,hn⟩
  ·have hn3:NAt w2 v (.leaf ps):=hn▸hn2
   have hB1:Blk w2 v.b [.bool true,v.p,v.k,v.i]:=hn3.blk
   have hp:Sl w2 v.p ps:=hn3.p
   rw[hn] at hct
   have hob2:=CT.isLeaf hct
   obtain⟨_,rfl,_,hok⟩:=hob2
   have hfew:=iA ps
   have hz5:bM ps≤480:=by rw[hn] at hz; exact hz
   refine a6 rfl (az uU4 rfl rfl (hB1.c rfl)) ?_
   refine a6 rfl (cA rfl) (a8 (a7 (aM (rfl) ?_)))
   refine zKR (zm rfl (zm rfl (ah rfl C61 (u7 w2 v ps key hn3 hok.2 (by omega)) ?_)))
   rintro _ w3 ⟨rfl,hc3⟩
   refine zm rfl (zx rfl rfl rfl (zx rfl rfl rfl (za rfl (za rfl (a8 (a7 (ae (zSR (zm rfl (a6 rfl (cA rfl) (a8 (a7 ?_))))))))))))
   have hB3:=hB1.chg0 hc3
   have hp3:=hp.mod0 hc3
   refine cI rfl (fun hh=>?_) (fun hh=>?_)
   ·refine zSR (za rfl (za rfl (za rfl (a8 (a7 (bQ (bq (cG (bq (bq (cG (bq (fY ?_)))))))))))))
    have hh:dh ps key=false:=by simpa using hh
    rw[←hge,←hha,hh,yK hok.2 hh]
    exact⟨rfl,hc02.tr hc3⟩
   ·refine zKR (zm rfl (zn rfl rfl (a6 rfl (aa bh rfl I33 rfl rfl) ?_)))
    have hh:dh ps key=true:=by simpa using hh
    refine a6 rfl (az cn rfl rfl (hB3.c rfl)) ?_
    refine zm rfl (bg rfl (bW (cY ps key) cn I49 rfl (hp3) rfl rfl (by first | rfl | omega) (fq hh)) ?_)
    rintro _ ⟨bi,oi,rfl,hei,hbi⟩
    refine a6 rfl (aa fZ rfl I9 rfl rfl) ?_
    refine a6 rfl (az uU9 rfl rfl ((hp3.at hei (List.getElem?_eq_getElem (fq hh))).cell (i:=1) rfl)) ?_
    refine za rfl (za rfl (za rfl (a8 (a7 (bQ (cG (bq (bq (cG (bq (fY ?_)))))))))))
    rw[←hge,←hha,hh,yL hok.2 hh]
    exact⟨rfl,hc02.tr hc3⟩
  ·have hn3:NAt w2 v (.br ks ids):=hn▸hn2
   have hB1:Blk w2 v.b [.bool false,v.p,v.k,v.i]:=hn3.blk
   have hi:Sl w2 v.i ids:=hn3.i
   rw[hn] at hct hg
   have hob3:=CT.isBr hct
   obtain⟨q,rfl⟩:=hob3
   have hgb:brOk ks ids:=hg
   have hfew:=hgb.few
   have hob4:=hct.hole key
   obtain⟨K1,K2,A,t,B,rfl,hpl,rfl,rfl,rfl,hole,hit',hne,hbA,hbB,hq1,hq2⟩:=hob4
   have hAl:A.length<(aT A++t.1::aT B).length:=by rw[List.length_append,bm,List.length_cons]; omega
   have hget:(aT A++t.1::aT B)[A.length]?=some t.1:=by rw[←bm A]; simp
   have hpl2:plc (K1++K2) key=A.length:=by rw[←hpl,hole.la]
   refine a6 rfl (az uU4 rfl rfl (hB1.c rfl)) ?_
   refine a6 rfl (cA rfl) (a8 (a7 (bf (rfl) ?_)))
   refine ae (aO bG (.pure 0 (.pure 1 (.pure 2 (.read 3 (.pure 4 (.pure 5 (.eff 6 [3] (.pure 7 (.read 8 (.pure 9 .nil)))))))))) (by kernel_rfl) ?_)
   refine ym rfl rfl rfl ?_
   refine yn rfl rfl rfl rfl ?_
   refine aj rfl rfl rfl (fun _=>(aa bh rfl I41 rfl rfl)) ?_
   refine aX rfl rfl rfl bw rfl rfl (hB1.c rfl) ?_
   refine ym rfl rfl rfl ?_
   refine ym rfl rfl rfl ?_
   refine aG rfl rfl rfl C60 (qK _ v (K1++K2) (aT A++t.1::aT B) key (hn3.chg0 (drw w2)) hgb.2.2.1.2 (by omega)) ?_
   rintro _ w3 ⟨rfl,hw3⟩
   have hc3:Chg [] w2 w3:=hw3▸drw w2
   refine⟨⟨(hB1.chg0 hc3).c rfl,trivial⟩,?_⟩
   refine bA rfl rfl rfl (bW (plc (K1++K2) key) bw I25 rfl (hi.mod0 hc3) rfl rfl (by first | rfl | omega) (by rw[hpl2]; exact hAl)) ?_
   rintro _ ⟨bi,oi,rfl,hei,hbi⟩
   refine aX rfl rfl rfl bK rfl rfl ((((hi.mod0 hc3).at hei (by rw[hpl2]; exact hget)).c0 rfl)) ?_
   refine ya rfl rfl rfl ?_
   refine aQ (a7 (aP (aq (aE (a7 (al (a6 rfl (aD rfl rfl (by omega)) (zm rfl ?_))))))))
   refine a8 (a7 (Exists.intro (q) (And.intro (by omega) ?_)))
   have hsrt:=hct.pairs.2
   have hpe:pg'=id::(pgT A++(t.2.1++pgT B)):=hpq
   refine⟨t.1,i+1,t.2.1,t.2.2,aw rfl (aw rfl (aw rfl (aw (bB (by omega)) bF))),by omega,hc02.tr hc3,hit',fun x hx=>hpg x (by rw[hpe]; simp[hx]),?_,?_⟩
   ·rw[←hge,vL hbA hbB]
   ·rw[←hha,vK hsrt hbA hbB]
end Go.Proofs.YtpbfapbajmdlkaaGreat

end
section
namespace Go.Proofs.YtpbfapbajmdlkaaGreat
open Go Go.Sac
set_option maxRecDepth 100000
set_option maxHeartbeats 4000000
def spV(s:Sp):Value := .agg #[str s.lo,str s.hi,.bool s.fin]
theorem has_ok(w:World)(s:Sp)(key:Bs):Ret Tryz.prog 99 #[spV s,str key] w fun r w'=>r = .bool (s.has key)∧Chg [] w w':=by
 obtain⟨lo,hi,fin⟩:=s
 refine enter [4] Tryz.func99 rfl rfl (Nat.le_of_ble_eq_true rfl) ?_
 refine zSR (aS rfl (cg (l:=[str lo,str hi,.bool fin]) rfl rfl) ?_)
 rintro _ w1 ⟨b,rfl,hn,hB,hc,hl⟩
 refine za rfl (zNR (zm rfl (a6 rfl (aa fe rfl I9 rfl rfl) ?_)))
 refine a6 rfl (az uU9 rfl rfl (hB.c rfl)) ?_
 have hd:ltB key lo=true∨ltB key lo=false:=by cases ltB key lo <;> simp
 have he:fin=true∨fin=false:=by cases fin <;> simp
 rcases hd with hd | hd
 ·refine a6 rfl (bR (pS rfl rfl) (congrArg Value.bool (by rw[hd]; rfl:(!ltB key lo)=false))) ?_
  refine zm rfl (ay rfl rfl (ay rfl rfl (ay rfl rfl (ay rfl rfl (ay rfl rfl (ay rfl rfl (ay rfl rfl (ay rfl rfl (ay rfl rfl (a6 rfl (aL rfl) (za rfl (a8 (a7 (zrf ?_))))))))))))))
  exact⟨by rw[show Sp.has ⟨lo,hi,fin⟩ key=false by simp[Sp.has,hd]]; rfl,hc⟩
 ·refine a6 rfl (bR (pS rfl rfl) (congrArg Value.bool (by rw[hd]; rfl:(!ltB key lo)=true))) ?_
  refine zm rfl (ag rfl (a6 rfl (aa fe rfl I4 rfl rfl) (ag rfl ?_)))
  rcases he with rfl | rfl
  ·refine a6 rfl (az uU4 rfl rfl (hB.c rfl)) ?_
   refine ag rfl (a6 rfl (cA rfl) (ag rfl (zm rfl (ag rfl (zm rfl (ag rfl (a6 rfl (aa fe rfl I9 rfl rfl) (ag rfl ?_))))))))
   refine a6 rfl (az uU9 rfl rfl (hB.c rfl)) ?_
   refine ag rfl (a6 rfl (wI rfl rfl) (ag rfl (a6 rfl (aL rfl) (a6 rfl (aN rfl) (za rfl ?_)))))
   refine a8 (a7 (zrf ?_))
   exact⟨by rw[show Sp.has ⟨lo,hi,true⟩ key=ltB key hi by simp[Sp.has,hd]]; rfl,hc⟩
  ·refine a6 rfl (az uU4 rfl rfl (hB.c rfl)) ?_
   refine ag rfl (a6 rfl (cA rfl) (ag rfl (zm rfl (ay rfl rfl (ay rfl rfl (ay rfl rfl (ay rfl rfl (ag rfl (a6 rfl (aN rfl) (a6 rfl (aN rfl) (za rfl (a8 (a7 (zrf ?_))))))))))))))
   exact⟨by rw[show Sp.has ⟨lo,hi,false⟩ key=true by simp[Sp.has,hd]]; rfl,hc⟩
theorem Cm(w:World)(s:Sp):Ret Tryz.prog 101 #[spV s] w fun r w'=>r = .bool s.emp∧Chg [] w w':=by
 obtain⟨lo,hi,fin⟩:=s
 refine enter [2] Tryz.func101 rfl rfl (Nat.le_of_ble_eq_true rfl) ?_
 refine zSR (aS rfl (cg (l:=[str lo,str hi,.bool fin]) rfl rfl) ?_)
 rintro _ w1 ⟨b,rfl,hn,hB,hc,hl⟩
 refine za rfl (zNR (a6 rfl (aa fe rfl I4 rfl rfl) ?_))
 cases fin with
 | true =>
  refine a6 rfl (az uU4 rfl rfl (hB.c rfl)) ?_
  refine zm rfl (ag rfl (a6 rfl (aa fe rfl I9 rfl rfl) (ag rfl ?_)))
  refine a6 rfl (az uU9 rfl rfl (hB.c rfl)) ?_
  refine ag rfl (a6 rfl (aa fe rfl I9 rfl rfl) (ag rfl ?_))
  refine a6 rfl (az uU9 rfl rfl (hB.c rfl)) ?_
  refine ag rfl (a6 rfl (pS rfl rfl) (a6 rfl (aN rfl) (za rfl ?_)))
  refine a8 (a7 (zrf ?_))
  exact⟨rfl,hc⟩
 | false =>
  refine a6 rfl (az uU4 rfl rfl (hB.c rfl)) ?_
  refine zm rfl (ay rfl rfl (ay rfl rfl (ay rfl rfl (ay rfl rfl (ay rfl rfl (a6 rfl (aL rfl) (za rfl (a8 (a7 (zrf ?_))))))))))
  exact⟨rfl,hc⟩
theorem BW(w:World)(s:Sp)(v:NV)(ks:List Bs)(ids:List UInt32)(i:Nat)(h:NAt w v (.br ks ids))(hl:ids.length=ks.length+1)(hi:i<ids.length)(hm:ids.length≤10000):Ret Tryz.prog 100 #[spV s,v.ptr,.int .i64 i] w fun r w'=>r=spV (s.kid ks i)∧Chg [] w w':=by
 obtain⟨lo,hi',fin⟩:=s
 obtain⟨vb,vp,vk,vi⟩:=v
 have hBv:Blk w vb [.bool false,vp,vk,vi]:=h.blk
 have hks:Sl w vk ks:=h.k
 have hob1:∃p c,vk = .slice p ks.length c:=hks.form rfl
 obtain⟨pk,ck,rfl⟩:=hob1
 have hlt:=hBv.lt
 refine et [.cell 6 116] Tryz.func100 rfl rfl (Nat.le_of_ble_eq_true rfl) ?_
 refine zSR (aS rfl (cg (l:=[str lo,str hi',.bool fin]) rfl rfl) ?_)
 rintro _ w1 ⟨b,rfl,hn,hB1,hc1,hl1⟩
 refine aS rfl (dn (l:=[str [],str [],.bool false]) nH rfl rfl) ?_
 rintro _ w2 ⟨rb,rfl,hnr,hR2,hc2,hl2⟩
 refine a8 (a7 ?_)
 have hc02:=hc1.tr hc2
 have hB2:=hB1.chg0 hc2
 have hBv2:=hBv.chg0 hc02
 have hks2:=hks.mod0 hc02
 have hob2:∃x,x=(if 0<i then vD lo (ks.getD (i-1) []) else lo):=⟨_,rfl⟩
 obtain⟨lo2,hlo2⟩:=hob2
 refine gL [] [7,8,9,10,11,12,13,14,15,16,17,18,19,20] (fun vs w'=>vs=[]∧Blk w' b [str lo2,str hi',.bool fin]∧Chg [b] w2 w') (by kernel_rfl) ?_ ?_
 ·refine zSR (zm rfl (a6 rfl (di rfl rfl) ?_))
  refine a8 (a7 (aC rfl (fun hi0=>?_) (fun hi0=>?_)))
  ·have hgi:i-1<ks.length:=by omega
   refine aO bG (.pure 0 (.read 1 (.pure 2 (.pure 3 (.pure 4 (.read 5 (.pure 6 (.pure 7 (.pure 8 (.read 9 (.pure 10 (.pure 11 (.eff 12 [] .nil))))))))))))) (by kernel_rfl) ?_
   refine aj rfl rfl rfl (fun _=>(aa fe rfl I9 rfl rfl)) ?_
   refine aX rfl rfl rfl uU9 rfl rfl (hB2.c rfl) ?_
   refine ym rfl rfl rfl ?_
   refine yn rfl rfl rfl rfl ?_
   refine aj rfl rfl rfl (fun _=>(aa bh rfl I70 rfl rfl)) ?_
   refine aX rfl rfl rfl bS rfl rfl (hBv2.c rfl) ?_
   refine ym rfl rfl rfl ?_
   refine aj rfl rfl rfl (fun _=>(cj rfl rfl (by omega))) ?_
   refine bA rfl rfl rfl (bW (i-1) bS I9 rfl (hks2) rfl rfl (by first | rfl | omega) (hgi)) ?_
   rintro _ ⟨bi,oi,rfl,hei,hbi⟩
   refine aX rfl rfl rfl uU9 rfl rfl (((hks2.at hei (getD_some (d:=[]) hgi)).c0 rfl)) ?_
   refine aj rfl rfl rfl (fun _=>(x_maxS rfl rfl)) ?_
   refine aj rfl rfl rfl (fun _=>(aa fe rfl I9 rfl rfl)) ?_
   refine cB rfl rfl rfl (bD I9 rfl rfl (hB2.chg0 (drw w2)) rfl rfl ((by decide:0<3)) rfl (rfl)) ?_
   rintro w3 ⟨hB3,hc3,hs3⟩
   refine⟨trivial,?_⟩
   refine aQ (a7 ?_)
   have hlo3:lo2=vD lo (ks.getD (i-1) []):=by rw[hlo2,if_pos (by omega)]
   rw[hlo3]
   exact⟨rfl,hB3,((drw w2).mono (by simp)).tr hc3⟩
  ·refine aA (a7 ?_)
   have hlo3:lo2=lo:=by rw[hlo2,if_neg (by omega)]
   rw[hlo3]
   exact⟨rfl,hB2,Chg.refl' _ _⟩
 ·rintro vs J w3 ⟨rfl,hB3,hc3⟩
  have hvb:vb≠b:=by omega
  have hBv3:=hBv2.chg hc3 (by simp; exact hvb)
  have hks3:Sl w3 (.slice pk ks.length ck) ks:=hks2.mod hc3 (fun x hx hh=>by simp at hh; have:=hks.lt x hx; omega)
  have hd:ks.length≤i∨(i<ks.length∧fin=false)∨(i<ks.length∧fin=true):=by
   rcases Nat.lt_or_ge i ks.length with g | g
   ·cases fin <;> simp[g]
   ·exact .inl g
  refine gL [] [21,22,23,24,25,26,27,28,29,30,31,32,33,34,35,36,37,38,39,40,41,42,43,44,45,46,47,48,49,50,51,52,53] (fun vs w'=>vs=[]∧Blk w' b [str (Sp.kid ⟨lo,hi',fin⟩ ks i).lo,str (Sp.kid ⟨lo,hi',fin⟩ ks i).hi,.bool (Sp.kid ⟨lo,hi',fin⟩ ks i).fin]∧Chg [b] w3 w') (by kernel_rfl) ?_ ?_
  ·refine ae (aO bG (.pure 0 (.pure 1 (.pure 2 (.pure 3 (.read 4 (.pure 5 (.pure 6 (.pure 7 (.pure 8 (.read 9 (.pure 10 (.pure 11 (.pure 12 (.pure 13 (.pure 14 (.read 15 (.pure 16 (.pure 17 (.read 18 (.pure 19 (.read 20 (.pure 21 (.pure 22 (.pure 23 .nil)))))))))))))))))))))))) (by kernel_rfl) ?_)
   refine ym rfl rfl rfl ?_
   refine ym rfl rfl rfl ?_
   refine yn rfl rfl rfl rfl ?_
   refine aj rfl rfl rfl (fun _=>(aa bh rfl I70 rfl rfl)) ?_
   refine aX rfl rfl rfl bS rfl rfl (hBv3.c rfl) ?_
   refine aj rfl rfl rfl (fun _=>(ax rfl bS)) ?_
   rcases hd with hd | ⟨hd,rfl⟩ | ⟨hd,rfl⟩
   ·refine aj rfl rfl rfl (fun _=>bR (bz rfl rfl) (congrArg Value.bool (decide_eq_false (by omega)))) ?_
    refine ym rfl rfl rfl ?_
    refine aZ rfl rfl rfl ?_
    refine dv rfl rfl rfl ?_
    refine aZ rfl rfl rfl ?_
    refine aZ rfl rfl rfl ?_
    refine aZ rfl rfl rfl ?_
    refine aZ rfl rfl rfl ?_
    refine aZ rfl rfl rfl ?_
    refine dv rfl rfl rfl ?_
    refine aZ rfl rfl rfl ?_
    refine aZ rfl rfl rfl ?_
    refine dv rfl rfl rfl ?_
    refine aZ rfl rfl rfl ?_
    refine dv rfl rfl rfl ?_
    refine aZ rfl rfl rfl ?_
    refine aZ rfl rfl rfl ?_
    refine aj rfl rfl rfl (fun _=>(aL rfl)) ?_
    refine aQ (a7 (aM (rfl) ?_))
    refine aA (a7 ?_)
    have hk:Sp.kid ⟨lo,hi',fin⟩ ks i=⟨lo2,hi',fin⟩:=by unfold Sp.kid; rw[←hlo2,if_neg (by simp; omega)]
    rw[hk]
    exact⟨rfl,hB3.chg0 (drw _),(drw _).mono (by simp)⟩
   ·refine aj rfl rfl rfl (fun _=>bR (bz rfl rfl) (congrArg Value.bool (decide_eq_true (by omega)))) ?_
    refine ym rfl rfl rfl ?_
    refine aj rfl rfl rfl (fun _=>(aa fe rfl I4 rfl rfl)) ?_
    refine aX rfl rfl rfl uU4 rfl rfl (hB3.c rfl) ?_
    refine aj rfl rfl rfl (fun _=>(cA rfl)) ?_
    refine ym rfl rfl rfl ?_
    refine aZ rfl rfl rfl ?_
    refine aZ rfl rfl rfl ?_
    refine aZ rfl rfl rfl ?_
    refine dv rfl rfl rfl ?_
    refine aZ rfl rfl rfl ?_
    refine aZ rfl rfl rfl ?_
    refine dv rfl rfl rfl ?_
    refine aZ rfl rfl rfl ?_
    refine dv rfl rfl rfl ?_
    refine aZ rfl rfl rfl ?_
    refine aj rfl rfl rfl (fun _=>(aN rfl)) ?_
    refine aj rfl rfl rfl (fun _=>(aN rfl)) ?_
    refine aQ (a7 (bf (rfl) ?_))
    refine al (zm rfl (zn rfl rfl (a6 rfl (aa bh rfl I70 rfl rfl) ?_)))
    refine a6 rfl (az bS rfl rfl ((hBv3.chg0 (drw w3)).c rfl)) ?_
    refine zm rfl (bg rfl (bW (i) bS I9 rfl (hks3.mod0 (drw w3)) rfl rfl (by first | rfl | omega) (hd)) ?_)
    rintro _ ⟨bj,oj,rfl,hej,hbj⟩
    refine a6 rfl (az uU9 rfl rfl ((((hks3.mod0 (drw w3)).at hej (getD_some (d:=[]) hd)).c0 rfl))) ?_
    refine a6 rfl (aa fe rfl I9 rfl rfl) ?_
    refine aH rfl (bD I9 rfl rfl (hB3.chg0 (drw w3)) rfl rfl ((by decide:1<3)) rfl (rfl)) ?_
    rintro w5 ⟨hB5,hc5,hs5⟩
    refine a6 rfl (aa fe rfl I4 rfl rfl) ?_
    replace hB5:Blk w5 b [str lo2,str (ks.getD i []),.bool false]:=hB5
    refine aH rfl (bD I4 rfl rfl (hB5) rfl rfl ((by decide:2<3)) rfl (rfl)) ?_
    rintro w6 ⟨hB6,hc6,hs6⟩
    refine a8 (a7 ?_)
    replace hB6:Blk w6 b [str lo2,str (ks.getD i []),.bool true]:=hB6
    have hk:Sp.kid ⟨lo,hi',false⟩ ks i=⟨lo2,ks.getD i [],true⟩:=by unfold Sp.kid; rw[←hlo2,if_pos (⟨hd,.inl rfl⟩)]
    rw[hk]
    exact⟨rfl,hB6,(((drw w3).mono (by simp)).tr hc5).tr hc6⟩
   ·refine aj rfl rfl rfl (fun _=>bR (bz rfl rfl) (congrArg Value.bool (decide_eq_true (by omega)))) ?_
    refine ym rfl rfl rfl ?_
    refine aj rfl rfl rfl (fun _=>(aa fe rfl I4 rfl rfl)) ?_
    refine aX rfl rfl rfl uU4 rfl rfl (hB3.c rfl) ?_
    refine aj rfl rfl rfl (fun _=>(cA rfl)) ?_
    refine ym rfl rfl rfl ?_
    refine ym rfl rfl rfl ?_
    refine yn rfl rfl rfl rfl ?_
    refine aj rfl rfl rfl (fun _=>(aa bh rfl I70 rfl rfl)) ?_
    refine aX rfl rfl rfl bS rfl rfl (hBv3.c rfl) ?_
    refine ym rfl rfl rfl ?_
    refine bA rfl rfl rfl (bW (i) bS I9 rfl (hks3) rfl rfl (by first | rfl | omega) (hd)) ?_
    rintro _ ⟨bi,oi,rfl,hei,hbi⟩
    refine aX rfl rfl rfl uU9 rfl rfl (((hks3.at hei (getD_some (d:=[]) hd)).c0 rfl)) ?_
    refine aj rfl rfl rfl (fun _=>(aa fe rfl I9 rfl rfl)) ?_
    refine aX rfl rfl rfl uU9 rfl rfl (hB3.c rfl) ?_
    refine aj rfl rfl rfl (fun _=>(wI rfl rfl)) ?_
    refine aj rfl rfl rfl (fun _=>(aL rfl)) ?_
    refine aj rfl rfl rfl (fun _=>(aN rfl)) ?_
    refine aQ (a7 (cI rfl (fun hq=>?_) (fun hq=>?_)))
    ·refine al (zm rfl (zn rfl rfl (a6 rfl (aa bh rfl I70 rfl rfl) ?_)))
     refine a6 rfl (az bS rfl rfl ((hBv3.chg0 (drw w3)).c rfl)) ?_
     refine zm rfl (bg rfl (bW (i) bS I9 rfl (hks3.mod0 (drw w3)) rfl rfl (by first | rfl | omega) (hd)) ?_)
     rintro _ ⟨bj,oj,rfl,hej,hbj⟩
     refine a6 rfl (az uU9 rfl rfl ((((hks3.mod0 (drw w3)).at hej (getD_some (d:=[]) hd)).c0 rfl))) ?_
     refine a6 rfl (aa fe rfl I9 rfl rfl) ?_
     refine aH rfl (bD I9 rfl rfl (hB3.chg0 (drw w3)) rfl rfl ((by decide:1<3)) rfl (rfl)) ?_
     rintro w5 ⟨hB5,hc5,hs5⟩
     refine a6 rfl (aa fe rfl I4 rfl rfl) ?_
     replace hB5:Blk w5 b [str lo2,str (ks.getD i []),.bool true]:=hB5
     refine aH rfl (bD I4 rfl rfl (hB5) rfl rfl ((by decide:2<3)) rfl (rfl)) ?_
     rintro w6 ⟨hB6,hc6,hs6⟩
     refine a8 (a7 ?_)
     replace hB6:Blk w6 b [str lo2,str (ks.getD i []),.bool true]:=hB6
     have hk:Sp.kid ⟨lo,hi',true⟩ ks i=⟨lo2,ks.getD i [],true⟩:=by unfold Sp.kid; rw[←hlo2,if_pos (⟨hd,.inr hq⟩)]
     rw[hk]
     exact⟨rfl,hB6,(((drw w3).mono (by simp)).tr hc5).tr hc6⟩
    ·refine aA (a7 ?_)
     have hk:Sp.kid ⟨lo,hi',true⟩ ks i=⟨lo2,hi',true⟩:=by unfold Sp.kid; rw[←hlo2,if_neg (by rintro⟨_,g | g⟩ <;> simp_all)]
     rw[hk]
     exact⟨rfl,hB3.chg0 (drw _),(drw _).mono (by simp)⟩
  ·rintro vs J w4 ⟨rfl,hB4,hc4⟩
   refine ae (al ?_)
   have hob3:∃K,K=Sp.kid ⟨lo,hi',fin⟩ ks i:=⟨_,rfl⟩
   obtain⟨K,hK⟩:=hob3
   rw[←hK] at hB4
   have hAt:At w4 b 0 [str K.lo,str K.hi,.bool K.fin]:=hB4.at (by rfl)
   refine a6 rfl (bX fe rfl nH rfl hAt rfl) ?_
   have hrb:rb≠b:=by omega
   have hR4:=(hR2.chg hc3 (by simp; exact hrb)).chg hc4 (by simp; exact hrb)
   refine aH rfl (cz (l:=[str K.lo,str K.hi,.bool K.fin]) nH rfl rfl hR4 rfl rfl (Nat.le_refl 3) (by simp[ei]) (cy rfl)) ?_
   rintro w5 ⟨hR5,hc5,hs5⟩
   refine a8 (a7 (bQ (cE ?_)))
   rw[←hK]
   have hAr:At w5 rb 0 [str K.lo,str K.hi,.bool K.fin]:=hR5.at (by rfl)
   have k1:=hc1.1
   have hc05:Chg [] w w5:=(hc02.t0 (hc3.tr hc4) (fun x hx=>by have:=List.mem_singleton.1 hx; omega)).t0 hc5 (fun x hx=>by have:=List.mem_singleton.1 hx; omega)
   exact⟨[spV K],⟨⟨⟨rb,0,none⟩,rfl,dS fe rfl nH hAr rfl⟩,trivial⟩,rfl,hc05⟩
end Go.Proofs.YtpbfapbajmdlkaaGreat

end
section
namespace Go.Proofs.YtpbfapbajmdlkaaGreat
open Go Go.Sac
set_option maxRecDepth 100000
set_option maxHeartbeats 4000000
theorem BV{sp:Sp}{ks:List Bs}{ts:List Kd}{i:Nat}(h:Seps ks (msT ts))(hi:i<ts.length)(he:(sp.kid ks i).emp=true):ey sp ts[i].2.2=[]:=by
 have hm:(msT ts)[i]?=some ts[i].2.2:=by rw[msT,List.getElem?_map,List.getElem?_eq_getElem hi]; rfl
 obtain⟨h1,h2⟩:=h.kid hm
 refine Bg (fun p hp=>?_)
 cases hh:sp.has p.1 with
 | false => rfl
 | true =>
  have:=Sp.kid_has (ks:=ks) (i:=i) hh (fun hi0=>h1 (i-1) (by omega) p hp) (fun hl=>h2 hl p hp)
  rw[Sp.emp_has he] at this; cases this
theorem yS(w:World)(s:Sp)(v:Bool)(h:s.emp=v):Ret Tryz.prog 101 #[spV s] w fun r w'=>r = .bool v∧Chg [] w w':=h▸Cm w s
theorem yI(w:World)(s:Sp)(key:Bs)(v:Bool)(h:s.has key=v):Ret Tryz.prog 99 #[spV s,str key] w fun r w'=>r = .bool v∧Chg [] w w':=h▸has_ok w s key
structure Wk(c:TC)(w:World)(b mb:Nat)(s:TP)(sp:Sp)(most:Nat)(f:PgF)(out:List Pr)(ov:Value):Prop where
 pg:c.pg w s
 blk:Blk w b [c.pv,.map (some mb),str sp.lo,str sp.hi,.bool sp.fin,.int .i64 most,ov]
 set:SetAt w mb f
 own:Own w ov out
 b1:b≠mb
 b2:b∉ar ov
 b3:mb∉ar ov
 fr:∀x∈b::mb::ar ov,c.w0.heap.size≤x∧x∉c.F
def WF(b mb:Nat)(ov:Value):List Nat:=b::mb::ar ov
section
variable {c:TC}{w w':World}{b mb:Nat}{s:TP}{sp:Sp}{most:Nat}{f:PgF}{out:List Pr}{ov:Value}
theorem Wk.chg{S:List Nat}(h:Wk c w b mb s sp most f out ov)(hm:Chg S w w')(hn:∀x∈c.F++WF b mb ov,x∉S)(hs:∀x∈S,c.w0.heap.size≤x):Wk c w' b mb s sp most f out ov :=
 ⟨h.pg.chg hm (fun x hx=>hn x (List.mem_append_left _ hx)) hs,h.blk.chg hm (hn b (by simp[WF])),h.set.mod hm (hn mb (by simp[WF])),h.own.mod hm (fun x hx=>hn x (by simp[WF,hx])),h.b1,h.b2,h.b3,h.fr⟩
theorem Wk.chg0(h:Wk c w b mb s sp most f out ov)(hm:Chg [] w w'):Wk c w' b mb s sp most f out ov:=h.chg hm (by simp) (by simp)
theorem Wk.lt(h:Wk c w b mb s sp most f out ov):∀x∈WF b mb ov,x<w.heap.size:=by
 intro x hx
 simp only[WF,List.mem_cons] at hx
 rcases hx with rfl | rfl | hx
 ·exact h.blk.lt
 ·exact h.set.lt
 ·exact h.own.sl.lt x hx
end
theorem Wk.app{c:TC}{w7 w8 w9:World}{b mb:Nat}{s:TP}{sp:Sp}{most:Nat}{f:PgF}{out out':List Pr}{ov v:Value}(h:Wk c w7 b mb s sp most f out ov)(hm:Chg (ar ov) w7 w8)(ho:Own w8 v out')(hin:In v (ar ov) w7.heap.size)(hB:Blk w9 b [c.pv,.map (some mb),str sp.lo,str sp.hi,.bool sp.fin,.int .i64 most,v])(hc:Chg [b] w8 w9):Wk c w9 b mb s sp most f out' v:=by
 have hlt:=h.lt
 have hbv:b∉ar v:=fun hh=>(hin b hh).elim h.b2 (fun g=>by have:=hlt b (by simp[WF]); omega)
 have hw:=h.pg.1.2.1.1
 have hbw:=h.fr b (by simp)
 refine⟨(h.pg.chg hm (fun x hx hh=>(h.fr x (by simp[hh])).2 hx) (fun x hx=>(h.fr x (by simp[hx])).1)).chg hc (fun x hx hh=>by simp at hh; subst hh; exact hbw.2 hx) (fun x hx=>by simp at hx; subst hx; exact hbw.1),hB,(h.set.mod hm h.b3).mod hc (by simp; exact h.b1.symm),ho.mod hc (fun x hx hh=>by simp at hh; subst hh; exact hbv hx),h.b1,hbv,fun hh=>(hin mb hh).elim h.b3 (fun g=>by have:=hlt mb (by simp[WF]); omega),fun x hx=>?_⟩
 simp only[List.mem_cons] at hx
 rcases hx with rfl | rfl | hx
 ·exact hbw
 ·exact h.fr _ (by simp)
 ·rcases hin x hx with g | g
  ·exact h.fr x (by simp[g])
  ·exact⟨by omega,fun hh=>by have:=h.pg.lt x hh; omega⟩
theorem uV{sp:Sp}{out L:List Pr}{a:Pr}{most:Nat}(o3:List Pr)(h:o3=out++(ey sp L).take (most-out.length)):(sp.has a.1=true→o3.length<most→o3++[a]=out++(ey sp (L++[a])).take (most-out.length))∧((sp.has a.1=false∨most≤o3.length)→o3=out++(ey sp (L++[a])).take (most-out.length)):=by
 have hm:=sD out (ey sp L) (ey sp [a]) most
 rw[←h,←mP] at hm
 refine⟨fun h1 h2=>?_,fun h1=>?_⟩
 ·have:ey sp [a]=[a]:=by simp[ey,h1]
  rw[this,List.take_of_length_le (by simp; omega)] at hm
  exact hm
 ·rcases h1 with h1 | h1
  ·have:ey sp [a]=[]:=by simp[ey,h1]
   rw[this,List.take_nil,List.append_nil] at hm
   exact hm
  ·rw[sE _ _ _ h1] at hm
   exact hm
theorem CT.parts{V:UInt32→Bs}:∀{d:Nat} {n:Cn} {pg:List UInt32} {m:List Pr},CT V d n pg m→∃ts,cnI n=aT ts∧pg=pgT ts∧m=cnP n++prT ts∧(ts≠[]→(∃ks ids,n = .br ks ids)∧Seps (cnK n) (msT ts)∧(cnI n).length=(cnK n).length+1)∧∀t∈ts,∃q,d=q+1∧isT V q t.1 t.2.1 t.2.2∧t.2.2≠[]
 | 0, .leaf ps, _, m, ⟨h1, h2, _⟩ => ⟨[], rfl, h2, by rw [← h1]; exact (List.append_nil _).symm, fun e => absurd rfl e, fun t ht => by simp at ht⟩
 | 0, .br _ _, _, _, h => h.elim
 | _ + 1, .leaf _, _, _, h => h.elim
 | d + 1, .br ks ids, _, _, ⟨ts, h1, h2, h3, h4, h5, h6⟩ => ⟨ts, h1, h3, h4, fun _ => ⟨⟨ks, ids, rfl⟩, h5, by show ids.length = ks.length + 1; rw [h1, bm]; have := h5.len; rw [msT, List.length_map] at this; exact this⟩, fun t ht => ⟨d, rfl, h6 t ht⟩⟩
theorem goes_ok(c:TC)(b mb:Nat)(s:TP)(sp:Sp)(most:Nat)(hmost:most≤1073741824):∀(d:Nat) (w:World) (id:UInt32) (pg:List UInt32) (m:List Pr) (deep:Nat) (f:PgF) (out:List Pr) (ov:Value),Wk c w b mb s sp most f out ov→isT s.V d id pg m→(∀x∈pg,s.P.now.written x=true)→deep+d≤40→(∀x∈pg,f x=false)→pg.Nodup→out.length+m.length≤10000 →
  Ret Tryz.prog 58 #[.pointer (some ⟨b,0,none⟩),.int .u32 id.toNat,.int .i64 deep] w fun r w'=>r = .int .i64 0∧∃f' ov',Wk c w' b mb s sp most f' (out++(ey sp m).take (most-out.length)) ov'∧(∀x,f' x=true→f x=true∨x∈pg)∧In ov' (ar ov) w.heap.size∧Chg (WF b mb ov) w w':=by
 intro d
 induction d using Nat.strongRecOn with
 | _ d ih =>
  intro w id pg m deep f out ov h ht hw hd hfr hnd hol
  obtain⟨n,pg0,rfl,hct,hV,hz,hf⟩:=jw ht
  have hg:=CT.good hct hz hf
  obtain⟨st,hst,hsl⟩:=h.set
  have hfid:=hfr id (by simp)
  have hlook:(bV id st).getD (.bool false) = .bool false:=by rw[SetAt.look hsl,hfid]
  have hB:=h.blk
  have hlt:=h.lt
  obtain⟨ts,hids,hpg,hmm,hsep,hkid⟩:=CT.parts hct
  have hps:(cnP n).length≤200:=by
   cases n with
   | leaf ps => have := iA ps; have q : bM ps ≤ 480 := hz; show ps.length ≤ 200; omega
   | br ks ids => exact Nat.zero_le _
  have hils:(cnI n).length≤200:=by
   cases n with
   | leaf ps => exact Nat.zero_le _
   | br ks ids => have hgb : brOk ks ids := hg; exact Nat.le_trans hgb.few.2 (by decide)
  refine enter [6] Tryz.func58 rfl rfl (Nat.le_of_ble_eq_true rfl) ?_
  refine zSR (za rfl (a8 (a7 (ae (zSR (zm rfl (a6 rfl (bR (di rfl rfl) (congrArg Value.bool (decide_eq_false (by omega)))) ?_)))))))
  refine zm rfl (ag rfl (zm rfl (ag rfl (zn rfl rfl (ag rfl (a6 rfl (aa jm rfl I114 rfl rfl) (ag rfl ?_)))))))
  refine a6 rfl (az kn rfl rfl (hB.c rfl)) ?_
  refine ag rfl (zm rfl (ag rfl (a6 rfl (bR (fv (k:=id) kn (cK bK) I4 rfl rfl rfl hst) hlook) ?_)))
  refine a6 rfl (aL rfl) (a8 (a7 (aM (rfl) ?_)))
  refine zKR (zm rfl (zn rfl rfl (a6 rfl (aa jm rfl I114 rfl rfl) ?_)))
  refine a6 rfl (az kn rfl rfl (hB.c rfl)) ?_
  refine zm rfl (aH rfl (gd (k:=id) kn (cK bK) rfl rfl rfl hst) ?_)
  rintro w1 ⟨hm1,hc1,hs1⟩
  refine zNR (zm rfl (zn rfl rfl (a6 rfl (aa jm rfl I24 rfl rfl) ?_)))
  have hmF:mb∉c.F:=(h.fr mb (by simp)).2
  have hmw:c.w0.heap.size≤mb:=(h.fr mb (by simp)).1
  have h1:Wk c w1 b mb s sp most (cO f id) out ov:=⟨h.pg.chg hc1 (fun x hx hh=>by simp at hh; subst hh; exact hmF hx) (fun x hx=>by simp at hx; subst hx; exact hmw),h.blk.chg hc1 (by simp; exact h.b1),⟨_,hm1,kX hsl id⟩,h.own.mod hc1 (fun x hx hh=>by simp at hh; subst hh; exact h.b3 hx),h.b1,h.b2,h.b3,h.fr⟩
  have hB1:=h1.blk
  refine a6 rfl (az zt rfl rfl (hB1.c rfl)) ?_
  refine zm rfl (ah rfl C59 (ng c w1 s id n h1.pg (hw id (by simp)) hV hg) ?_)
  rintro _ w2 ⟨⟨v,rfl,hn2,hnew2⟩,hc2⟩
  refine zm rfl (zx rfl rfl rfl (zx rfl rfl rfl (za rfl (za rfl (a8 (a7 (ae (zSR (zm rfl (a6 rfl (bL rfl rfl) ?_))))))))))
  refine a8 (a7 (aF rfl (fun h=>h rfl) ?_))
  refine aA (a7 (ae (zSR (zm rfl (zn rfl rfl (a6 rfl (aa bh rfl I33 rfl rfl) ?_))))))
  have h2:=h1.chg0 hc2
  obtain⟨vb,vp,vk,vi⟩:=v
  have hBv:=hn2.blk
  have hpS:Sl w2 vp (cnP n):=hn2.p
  have hob1:∃p c,vp = .slice p (cnP n).length c:=hpS.form rfl
  obtain⟨pp,cp,rfl⟩:=hob1
  have hiS:Sl w2 vi (cnI n):=hn2.i
  have hob2:∃p c,vi = .slice p (cnI n).length c:=hiS.form rfl
  obtain⟨pi,ci,rfl⟩:=hob2
  have hBv:Blk w2 vb [.bool (cnL n),.slice pp (cnP n).length cp,vk,.slice pi (cnI n).length ci]:=hBv
  refine a6 rfl (az cn rfl rfl (hBv.c rfl)) ?_
  refine a6 rfl (ax rfl cn) (zm rfl ?_)
  refine a8 (a7 (au ?_))
  have hk1:=hc1.1
  have hk2:=hc2.1
  have hlt2:=h2.lt
  have hnF:∀x∈NV.F ⟨vb,.slice pp (cnP n).length cp,vk,.slice pi (cnI n).length ci⟩,x∉c.F++WF b mb ov:=fun x hx hh=>by
   have q1:=hnew2 x hx
   rcases List.mem_append.1 hh with g | g
   ·have:=h.pg.lt x g; omega
   ·have:=hlt x g; omega
  have hc02:Chg (WF b mb ov) w w2:=(hc1.mono (by simp[WF])).tr0 hc2
  refine bn [0,2,7,44,45,46] (fun k vs w'=>∃(i:Nat) (ov':Value),vs=[.pointer (some ⟨b,0,none⟩),.int .i64 deep,.pointer (some ⟨vb,0,none⟩),.slice pp (cnP n).length cp,.int .i64 (cnP n).length,.int .i64 i]∧i+k=(cnP n).length∧Wk c w' b mb s sp most (cO f id) (out++(ey sp ((cnP n).take i)).take (most-out.length)) ov'∧In ov' (ar ov) w2.heap.size∧w2.heap.size≤w'.heap.size∧Chg (WF b mb ov) w w'∧NAt w' ⟨vb,.slice pp (cnP n).length cp,vk,.slice pi (cnI n).length ci⟩ n) ((cnP n).length) ?_ ?_
  ·refine⟨0,ov,rfl,by omega,?_,fun x hx => .inl hx,Nat.le_refl _,hc02,hn2⟩
   rw[List.take_zero,show ey sp []=[] from rfl,List.take_nil,List.append_nil]
   exact h2
  ·rintro k vs J w3 ⟨i,ov3,rfl,hik,h3,hin3,hk23,hc3,hn3⟩
   refine zSR (a6 rfl (bz rfl rfl) ?_)
   refine a8 (a7 (ae (aC rfl (fun hil=>?_) (fun hil=>?_))))
   ·refine aA (a7 (ae (au (ae (al ?_)))))
    have hob3:∃q,k=q+1:=⟨k-1,by omega⟩
    obtain⟨k,rfl⟩:=hob3
    have hob4:∃a,(cnP n)[i]?=some a:=⟨_,List.getElem?_eq_getElem (by omega)⟩
    obtain⟨a,ha⟩:=hob4
    have hp3:Sl w3 (.slice pp (cnP n).length cp) (cnP n):=hn3.p
    refine bg rfl (bW (i) cn I49 rfl (hp3) rfl rfl (by first | rfl | omega) (by omega)) ?_
    rintro _ ⟨bi,oi,rfl,hei,hbi⟩
    refine a6 rfl (bX fZ rfl I49 rfl (hp3.at hei ha) rfl) ?_
    refine aS rfl (dn (l:=[str [],str []]) I49 rfl rfl) ?_
    rintro _ w4 ⟨tb,rfl,hnt,hT4,hc4,hl4⟩
    refine aH rfl (cz (l:=[str a.1,str a.2]) I49 rfl rfl hT4 rfl rfl (Nat.le_refl 2) (by simp[ei]) (cy rfl)) ?_
    rintro w5 ⟨hT5,hc5,hs5⟩
    refine a8 (a7 (ae ?_))
    have hc35:=hc4.t1 hc5 hnt
    have h5:=h3.chg0 hc35
    have hn5:=hn3.chg0 hc35
    have hAt:At w5 b 2 [str sp.lo,str sp.hi,.bool sp.fin]:=h5.blk.at (l:=[str sp.lo,str sp.hi,.bool sp.fin]) (off:=2) rfl
    refine aO bG (.pure 0 (.pure 1 (.pure 2 (.read 3 (.pure 4 (.read 5 (.eff 6 [] (.pure 7 (.pure 8 (.pure 9 (.pure 10 (.read 11 (.pure 12 (.pure 13 (.pure 14 (.pure 15 (.read 16 (.pure 17 (.pure 18 .nil))))))))))))))))))) (by kernel_rfl) ?_
    refine ym rfl rfl rfl ?_
    refine yn rfl rfl rfl rfl ?_
    refine aj rfl rfl rfl (fun _=>(aa jm rfl nH rfl rfl)) ?_
    refine dM rfl rfl rfl (fun w'=>At w' b 2 [str sp.lo,str sp.hi,.bool sp.fin]) (hAt) (fun w1 h1=>bX fe rfl nH rfl h1 rfl) ?_
    refine aj rfl rfl rfl (fun _=>(aa fZ rfl I9 rfl rfl)) ?_
    refine aX rfl rfl rfl uU9 rfl rfl (hT5.c rfl) ?_
    have hd:sp.has a.1=true∨sp.has a.1=false:=by cases sp.has a.1 <;> simp
    rcases hd with hd | hd
    ·refine aG rfl rfl rfl C99 (yI _ sp a.1 true hd) ?_
     rintro _ w6 ⟨rfl,hc6⟩
     refine⟨trivial,?_⟩
     have hc56:Chg [] w5 w6:=(drw w5).tr hc6
     have h6:=h5.chg0 hc56
     have hn6:=hn5.chg0 hc56
     have hT6:=hT5.chg0 hc56
     have hTa:At w6 tb 0 [str a.1,str a.2]:=hT6.at (by rfl)
     have hup:(cnP n).take (i+1)=(cnP n).take i++[a]:=by
      have hob5:=List.getElem?_eq_some_iff.1 ha
      obtain⟨q1,q2⟩:=hob5
      rw[←List.take_append_getElem q1,q2]
     have hob6:∃o3,o3=out++(ey sp ((cnP n).take i)).take (most-out.length):=⟨_,rfl⟩
     obtain⟨o3,ho3⟩:=hob6
     rw[←ho3] at h6
     have hone:=uV (a:=a) o3 ho3
     rw[←hup] at hone
     have hob7:=h6.own.sl.form rfl
     obtain⟨po,co,hov⟩:=hob7
     subst hov
     have hB6:=h6.blk
     have hin6:In (.slice po o3.length co) (ar ov) w2.heap.size:=hin3
     have hk26:w2.heap.size≤w6.heap.size:=Nat.le_trans hk23 (Nat.le_trans hc35.1 hc56.1)
     have hc06:Chg (WF b mb ov) w w6:=(hc3.tr0 hc35).tr0 hc56
     refine ym rfl rfl rfl ?_
     refine ym rfl rfl rfl ?_
     refine yn rfl rfl rfl rfl ?_
     refine aj rfl rfl rfl (fun _=>(aa jm rfl I33 rfl rfl)) ?_
     refine aX rfl rfl rfl cn rfl rfl (hB6.c rfl) ?_
     refine aj rfl rfl rfl (fun _=>(ax rfl cn)) ?_
     refine ym rfl rfl rfl ?_
     refine yn rfl rfl rfl rfl ?_
     refine aj rfl rfl rfl (fun _=>(aa jm rfl I3 rfl rfl)) ?_
     refine aX rfl rfl rfl uU3 rfl rfl (hB6.c rfl) ?_
     refine aj rfl rfl rfl (fun _=>(bz rfl rfl)) ?_
     refine aj rfl rfl rfl (fun _=>(aN rfl)) ?_
     refine aQ (a7 (aC rfl (fun hroom=>?_) (fun hroom=>?_)))
     ·have ho3l:o3.length≤10000:=by
       have q1:=congrArg List.length ho3
       rw[List.length_append,List.length_take] at q1
       have q2:(ey sp ((cnP n).take i)).length≤((cnP n).take i).length:=List.length_filter_le _ _
       rw[List.length_take] at q2
       have q3:m.length=(cnP n).length+(prT ts).length:=by rw[hmm,List.length_append]
       omega
      refine aO bG (.pure 0 (.pure 1 (.pure 2 (.pure 3 (.read 4 (.read 5 (.eff 6 [4] (.eff 7 [] (.pure 8 (.pure 9 (.eff 10 [] .nil))))))))))) (by kernel_rfl) ?_
      refine ym rfl rfl rfl ?_
      refine ym rfl rfl rfl ?_
      refine yn rfl rfl rfl rfl ?_
      refine aj rfl rfl rfl (fun _=>(aa jm rfl I33 rfl rfl)) ?_
      refine aX rfl rfl rfl cn rfl rfl (hB6.c rfl) ?_
      refine dM rfl rfl rfl (fun w'=>At w' tb 0 [str a.1,str a.2]) (hTa) (fun w1 h1=>bX fZ rfl I49 rfl h1 rfl) ?_
      refine bu rfl rfl rfl (sq a cn I49 rfl rfl rfl rfl rfl (by decide)) ?_
      rintro _ w7 ⟨b7,rfl,hB7,hn7,hc7,hl7⟩
      have hc7:Chg [] w6 w7:=(drw w6).tr hc7
      refine⟨⟨(hB6.chg0 hc7).c rfl,trivial⟩,?_⟩
      have h7:=h6.chg0 hc7
      refine bu rfl rfl rfl (yf cn cn I49 (.inr ⟨_,rfl⟩) rfl rfl rfl (by decide) (h7.own) ((Blk.sl1 hB7).src) rfl rfl (by simp; omega)) ?_
      rintro v8 w8 h8
      refine⟨trivial,?_⟩
      refine yn rfl rfl rfl rfl ?_
      refine aj rfl rfl rfl (fun _=>(aa jm rfl I33 rfl rfl)) ?_
      have hB8:=h7.blk.chg h8.mod h7.b2
      have hown8:=h8.own
      have hin8:=h8.inn
      have hmod8:=h8.mod
      have hob8:=hown8.sl.form rfl
      obtain⟨p8,c8,rfl⟩:=hob8
      refine cB rfl rfl rfl (bD I33 rfl rfl (hB8) rfl rfl ((by decide:6<7)) rfl (rfl)) ?_
      rintro w9 ⟨hB9,hc9,hs9⟩
      refine⟨trivial,?_⟩
      refine aQ (aB (a7 (al (a6 rfl (aD rfl rfl (by omega)) (zm rfl ?_)))))
      refine a8 (a7 (Exists.intro (k) (And.intro (by omega) ?_)))
      have h9:=h7.app hmod8 hown8 hin8 hB9 hc9
      have k7:=hc7.1
      have k8:=hmod8.1
      have k9:=hc9.1
      have hin9:In (.slice p8 (o3++[a]).length c8) (ar ov) w2.heap.size:=fun x hx=>by
       rcases hin8 x hx with g | g
       ·exact hin6 x g
       ·exact .inr (by omega)
      have hc09:Chg (WF b mb ov) w w9:=((hc06.tr0 hc7).trans hmod8 (fun _ hx _=>hx) (fun x hx hl=>(hin6 x hx).elim (fun g=>by simp[WF,g]) (fun g=>by omega))).tr (hc9.mono (by simp[WF]))
      have hn9:=((hn6.chg0 hc7).chg hmod8 (fun x hx hh=>by
       rcases hin6 x hh with g | g
       ·exact hnF x hx (List.mem_append_right _ (by simp[WF,g]))
       ·have:=hn2.lt x hx; omega)).chg hc9 (fun x hx hh=>by simp at hh; subst hh; exact hnF _ hx (List.mem_append_right _ (by simp[WF])))
      have hO:=hone.1 hd (by omega)
      rw[hO] at h9 hin9
      exact⟨i+1,_,aw rfl (aw rfl (aw rfl (aw rfl (aw rfl (aw (bB (by omega)) bF))))),by omega,h9,hin9,by omega,hc09,hn9⟩
     ·refine aA (aB (a7 (al (a6 rfl (aD rfl rfl (by omega)) (zm rfl ?_)))))
      refine a8 (a7 (Exists.intro (k) (And.intro (by omega) ?_)))
      exact⟨i+1,_,aw rfl (aw rfl (aw rfl (aw rfl (aw rfl (aw (bB (by omega)) bF))))),by omega,(hone.2 (.inr (by omega)))▸h6,hin6,hk26,hc06,hn6⟩
    ·refine aG rfl rfl rfl C99 (yI _ sp a.1 false hd) ?_
     rintro _ w6 ⟨rfl,hc6⟩
     refine⟨trivial,?_⟩
     have hc56:Chg [] w5 w6:=(drw w5).tr hc6
     have h6:=h5.chg0 hc56
     have hn6:=hn5.chg0 hc56
     have hT6:=hT5.chg0 hc56
     have hTa:At w6 tb 0 [str a.1,str a.2]:=hT6.at (by rfl)
     have hup:(cnP n).take (i+1)=(cnP n).take i++[a]:=by
      have hob9:=List.getElem?_eq_some_iff.1 ha
      obtain⟨q1,q2⟩:=hob9
      rw[←List.take_append_getElem q1,q2]
     have hob10:∃o3,o3=out++(ey sp ((cnP n).take i)).take (most-out.length):=⟨_,rfl⟩
     obtain⟨o3,ho3⟩:=hob10
     rw[←ho3] at h6
     have hone:=uV (a:=a) o3 ho3
     rw[←hup] at hone
     have hob11:=h6.own.sl.form rfl
     obtain⟨po,co,hov⟩:=hob11
     subst hov
     have hB6:=h6.blk
     have hin6:In (.slice po o3.length co) (ar ov) w2.heap.size:=hin3
     have hk26:w2.heap.size≤w6.heap.size:=Nat.le_trans hk23 (Nat.le_trans hc35.1 hc56.1)
     have hc06:Chg (WF b mb ov) w w6:=(hc3.tr0 hc35).tr0 hc56
     refine ym rfl rfl rfl ?_
     refine aZ rfl rfl rfl ?_
     refine aZ rfl rfl rfl ?_
     refine aZ rfl rfl rfl ?_
     refine dv rfl rfl rfl ?_
     refine aZ rfl rfl rfl ?_
     refine aZ rfl rfl rfl ?_
     refine aZ rfl rfl rfl ?_
     refine aZ rfl rfl rfl ?_
     refine dv rfl rfl rfl ?_
     refine aZ rfl rfl rfl ?_
     refine aj rfl rfl rfl (fun _=>(aL rfl)) ?_
     refine aQ (a7 (aM (rfl) ?_))
     refine aA (aB (a7 (al (a6 rfl (aD rfl rfl (by omega)) (zm rfl ?_)))))
     refine a8 (a7 (Exists.intro (k) (And.intro (by omega) ?_)))
     exact⟨i+1,_,aw rfl (aw rfl (aw rfl (aw rfl (aw rfl (aw (bB (by omega)) bF))))),by omega,(hone.2 (.inl hd))▸h6,hin6,hk26,hc06,hn6⟩
   ·refine aP (aq (aq (aE (a7 (ae (zSR (zm rfl (zn rfl rfl (a6 rfl (aa bh rfl I41 rfl rfl) ?_)))))))))
    rw[List.take_of_length_le (l:=cnP n) (i:=i) (by omega)] at h3
    have hBv3:Blk w3 vb [.bool (cnL n),.slice pp (cnP n).length cp,vk,.slice pi (cnI n).length ci]:=hn3.blk
    have hil2:(cnI n).length=ts.length:=by rw[hids,bm]
    have hlm:(prT ts).length≤m.length:=by rw[hmm,List.length_append]; omega
    refine a6 rfl (az bw rfl rfl (hBv3.c rfl)) ?_
    refine a6 rfl (ax rfl bw) (zm rfl ?_)
    refine a8 (a7 (au (bn [0,2,7,83,84,85] (fun k vs w'=>∃(i:Nat) (ov':Value) (f':PgF),vs=[.pointer (some ⟨b,0,none⟩),.int .i64 deep,.pointer (some ⟨vb,0,none⟩),.slice pi (cnI n).length ci,.int .i64 (cnI n).length,.int .i64 i]∧i+k=(cnI n).length∧Wk c w' b mb s sp most f' (out++(ey sp (cnP n++prT (ts.take i))).take (most-out.length)) ov'∧(∀x,f' x=true→f x=true∨x=id∨x∈pgT (ts.take i))∧In ov' (ar ov) w2.heap.size∧w2.heap.size≤w'.heap.size∧Chg (WF b mb ov) w w'∧NAt w' ⟨vb,.slice pp (cnP n).length cp,vk,.slice pi (cnI n).length ci⟩ n) ((cnI n).length) ?_ ?_)))
    ·refine⟨0,ov3,cO f id,rfl,by omega,?_,fun x hx=>?_,hin3,hk23,hc3,hn3⟩
     ·rw[List.take_zero,show prT []=[] from rfl,List.append_nil]; exact h3
     ·unfold cO at hx
      simp only[Bool.or_eq_true,decide_eq_true_eq] at hx
      rcases hx with g | g
      ·exact .inr (.inl g)
      ·exact .inl g
    ·rintro k vs J w4 ⟨i,ov4,f4,rfl,hik,h4,hf4,hin4,hk24,hc4,hn4⟩
     refine zSR (a6 rfl (bz rfl rfl) ?_)
     refine a8 (a7 (ae (aC rfl (fun hil=>?_) (fun hil=>?_))))
     ·refine aA (a7 (ae (au (zSR (zm rfl ?_)))))
      have hob12:∃q,k=q+1:=⟨k-1,by omega⟩
      obtain⟨k,rfl⟩:=hob12
      have hit:i<ts.length:=by omega
      have hne:ts≠[]:=fun e=>by rw[e] at hit; simp at hit
      have hob13:=hsep hne
      obtain⟨⟨ks,ids,hn⟩,hsp,hkl⟩:=hob13
      have hob14:=hkid ts[i] (List.getElem_mem hit)
      obtain⟨q,hdq,hkt,hkm⟩:=hob14
      have hn4':NAt w4 ⟨vb,.slice pp (cnP n).length cp,vk,.slice pi (cnI n).length ci⟩ (.br (cnK n) (cnI n)):=by
       have:n = .br (cnK n) (cnI n):=by rw[hn]; rfl
       rw[←this]; exact hn4
      have hiS4:Sl w4 (.slice pi (cnI n).length ci) (cnI n):=hn4.i
      have hget:(cnI n)[i]?=some ts[i].1:=by rw[hids,aT,List.getElem?_map,List.getElem?_eq_getElem hit]; rfl
      have hAt:At w4 b 2 [str sp.lo,str sp.hi,.bool sp.fin]:=h4.blk.at (l:=[str sp.lo,str sp.hi,.bool sp.fin]) (off:=2) rfl
      refine bg rfl (bW (i) bw I25 rfl (hiS4) rfl rfl (by first | rfl | omega) (by omega)) ?_
      rintro _ ⟨bi,oi,rfl,hei,hbi⟩
      refine a6 rfl (az bK rfl rfl (((hiS4.at hei hget).c0 rfl))) ?_
      refine za rfl (za rfl (a8 (a7 (ae (ae (aO bG (.pure 0 (.pure 1 (.pure 2 (.read 3 (.pure 4 (.pure 5 (.eff 6 [] (.eff 7 [] (.pure 8 (.pure 9 (.pure 10 (.pure 11 (.read 12 (.pure 13 (.pure 14 (.pure 15 (.pure 16 (.read 17 (.pure 18 (.pure 19 .nil)))))))))))))))))))) (by kernel_rfl) ?_))))))
      refine ym rfl rfl rfl ?_
      refine yn rfl rfl rfl rfl ?_
      refine aj rfl rfl rfl (fun _=>(aa jm rfl nH rfl rfl)) ?_
      refine dM rfl rfl rfl (fun w'=>At w' b 2 [str sp.lo,str sp.hi,.bool sp.fin]) (hAt) (fun w1 h1=>bX fe rfl nH rfl h1 rfl) ?_
      refine ym rfl rfl rfl ?_
      refine ym rfl rfl rfl ?_
      refine aG rfl rfl rfl C100 (BW _ sp ⟨vb,.slice pp (cnP n).length cp,vk,.slice pi (cnI n).length ci⟩ (cnK n) (cnI n) i (hn4'.chg0 (drw w4)) hkl (by omega) (by omega)) ?_
      rintro _ w5 ⟨rfl,hc5⟩
      refine⟨trivial,?_⟩
      have hob15:∃K,K=sp.kid (cnK n) i:=⟨_,rfl⟩
      obtain⟨K,hK⟩:=hob15
      have hd:K.emp=true∨K.emp=false:=by cases K.emp <;> simp
      have hc45:Chg [] w4 w5:=(drw w4).tr hc5
      have hob16:∃o4,o4=out++(ey sp (cnP n++prT (ts.take i))).take (most-out.length):=⟨_,rfl⟩
      obtain⟨o4,ho4⟩:=hob16
      rw[←ho4] at h4
      have hob17:=h4.own.sl.form rfl
      obtain⟨po,co,hov⟩:=hob17
      subst hov
      have htk:prT (ts.take (i+1))=prT (ts.take i)++ts[i].2.2:=by rw[←List.take_append_getElem hit,eF,eB]; simp[prT]
      have hmore:=sD out (ey sp (cnP n++prT (ts.take i))) (ey sp ts[i].2.2) most
      rw[←ho4,←mP,List.append_assoc,←htk] at hmore
      have hfup:∀{f':PgF},(∀x,f' x=true→f4 x=true∨x∈ts[i].2.1)→∀x,f' x=true→f x=true∨x=id∨x∈pgT (ts.take (i+1)):=fun {f'} hf' x hx=>by
       have htp:pgT (ts.take (i+1))=pgT (ts.take i)++ts[i].2.1:=by rw[←List.take_append_getElem hit,dy,dO]; simp[pgT]
       rw[htp]
       rcases hf' x hx with g | g
       ·rcases hf4 x g with g | g | g
        ·exact .inl g
        ·exact .inr (.inl g)
        ·exact .inr (.inr (List.mem_append_left _ g))
       ·exact .inr (.inr (List.mem_append_right _ g))
      rcases hd with hd | hd
      ·refine aG rfl rfl rfl C101 (yS _ (sp.kid (cnK n) i) true (hK▸hd)) ?_
       rintro _ w6 ⟨rfl,hc6⟩
       refine⟨trivial,?_⟩
       refine ym rfl rfl rfl ?_
       refine aZ rfl rfl rfl ?_
       refine aZ rfl rfl rfl ?_
       refine aZ rfl rfl rfl ?_
       refine dv rfl rfl rfl ?_
       refine aZ rfl rfl rfl ?_
       refine aZ rfl rfl rfl ?_
       refine aZ rfl rfl rfl ?_
       refine aZ rfl rfl rfl ?_
       refine dv rfl rfl rfl ?_
       refine aZ rfl rfl rfl ?_
       refine aj rfl rfl rfl (fun _=>(aN rfl)) ?_
       refine aQ (a7 (bf (rfl) ?_))
       refine aP (aq (aE (a7 (al (a6 rfl (aD rfl rfl (by omega)) (zm rfl ?_))))))
       refine a8 (a7 (Exists.intro (k) (And.intro (by omega) ?_)))
       have hsk:=BV hsp hit (hK▸hd)
       rw[hsk,List.take_nil,List.append_nil] at hmore
       rw[hmore] at h4 hin4
       have hc46:=hc45.tr hc6
       exact⟨i+1,_,f4,aw rfl (aw rfl (aw rfl (aw rfl (aw rfl (aw (bB (by omega)) bF))))),by omega,h4.chg0 hc46,hfup (fun x hx => .inl hx),hin4,Nat.le_trans hk24 hc46.1,hc4.tr0 hc46,hn4.chg0 hc46⟩
      ·refine aG rfl rfl rfl C101 (yS _ (sp.kid (cnK n) i) false (hK▸hd)) ?_
       rintro _ w6 ⟨rfl,hc6⟩
       refine⟨trivial,?_⟩
       refine ym rfl rfl rfl ?_
       refine ym rfl rfl rfl ?_
       refine yn rfl rfl rfl rfl ?_
       refine aj rfl rfl rfl (fun _=>(aa jm rfl I33 rfl rfl)) ?_
       have hc46:=hc45.tr hc6
       have h6:=h4.chg0 hc46
       have hn6:=hn4.chg0 hc46
       have hB6:=h6.blk
       refine aX rfl rfl rfl cn rfl rfl (hB6.c rfl) ?_
       refine aj rfl rfl rfl (fun _=>(ax rfl cn)) ?_
       refine ym rfl rfl rfl ?_
       refine yn rfl rfl rfl rfl ?_
       refine aj rfl rfl rfl (fun _=>(aa jm rfl I3 rfl rfl)) ?_
       refine aX rfl rfl rfl uU3 rfl rfl (hB6.c rfl) ?_
       refine aj rfl rfl rfl (fun _=>(j5 rfl rfl)) ?_
       refine aj rfl rfl rfl (fun _=>(aL rfl)) ?_
       refine aQ (a7 (aC rfl (fun hfull=>?_) (fun hfull=>?_)))
       ·refine aP (aq (aE (a7 (al (a6 rfl (aD rfl rfl (by omega)) (zm rfl ?_))))))
        refine a8 (a7 (Exists.intro (k) (And.intro (by omega) ?_)))
        rw[sE _ _ _ (by omega)] at hmore
        rw[hmore] at h6 hin4
        exact⟨i+1,_,f4,aw rfl (aw rfl (aw rfl (aw rfl (aw rfl (aw (bB (by omega)) bF))))),by omega,h6,hfup (fun x hx => .inl hx),hin4,Nat.le_trans hk24 hc46.1,hc4.tr0 hc46,hn6⟩
       ·refine zKR (zm rfl (zm rfl (zm rfl (a6 rfl (aD rfl rfl (by omega)) ?_))))
        have hsplit:pgT ts=pgT (ts.take i)++(ts[i].2.1++pgT (ts.drop (i+1))):=by
         rw[←dO,←dy,←List.drop_eq_getElem_cons hit,List.take_append_drop]
        have hsub:∀x∈ts[i].2.1,x∈pg0:=fun x hx=>by rw[hpg,hsplit]; simp[hx]
        have hnd0:pg0.Nodup:=(List.nodup_cons.1 hnd).2
        rw[hpg,hsplit,List.nodup_append] at hnd0
        have hndi:=(List.nodup_append.1 hnd0.2.1).1
        have hfri:∀x∈ts[i].2.1,f4 x=false:=fun x hx=>by
         cases hfx:f4 x with
         | false => rfl
         | true =>
          rcases hf4 x hfx with g | g | g
          ·rw[hfr x (List.mem_cons_of_mem _ (hsub x hx))] at g; cases g
          ·rw[g] at hx; exact absurd (hsub id hx) (List.nodup_cons.1 hnd).1
          ·exact absurd rfl (hnd0.2.2 x g x (List.mem_append_left _ hx))
        have hoi:o4.length+ts[i].2.2.length≤10000:=by
         have q1:=congrArg List.length ho4
         rw[List.length_append,List.length_take] at q1
         have q2:(ey sp (cnP n++prT (ts.take i))).length≤(cnP n++prT (ts.take i)).length:=List.length_filter_le _ _
         have q3:prT ts=prT (ts.take i)++(ts[i].2.2++prT (ts.drop (i+1))):=by rw[←eB,←eF,←List.drop_eq_getElem_cons hit,List.take_append_drop]
         have q4:=congrArg List.length q3
         have q5:=congrArg List.length hmm
         simp only[List.length_append] at q2 q4 q5
         omega
        refine ah rfl C58 (ih q (by omega) _ ts[i].1 ts[i].2.1 ts[i].2.2 (deep+1) f4 o4 _ h6 hkt (fun x hx=>hw x (List.mem_cons_of_mem _ (hsub x hx))) (by omega) hfri hndi hoi) ?_
        rintro _ w7 ⟨rfl,f7,ov7,h7,hf7,hin7,hc7⟩
        refine za rfl (zNR (zm rfl (a6 rfl (bL rfl rfl) ?_)))
        refine a8 (a7 (aF rfl (fun h=>h rfl) ?_))
        refine aA (aB (a7 (al (a6 rfl (aD rfl rfl (by omega)) (zm rfl ?_)))))
        refine a8 (a7 (Exists.intro (k) (And.intro (by omega) ?_)))
        rw[hmore] at h7
        have k46:=hc46.1
        have k7:=hc7.1
        exact⟨i+1,_,f7,aw rfl (aw rfl (aw rfl (aw rfl (aw rfl (aw (bB (by omega)) bF))))),by omega,h7,hfup hf7,fun x hx=>by
         rcases hin7 x hx with g | g
         ·exact hin4 x g
         ·exact .inr (by omega),by omega,(hc4.tr0 hc46).trans hc7 (fun _ hx _=>hx) (fun x hx hl=>by
          simp only[WF,List.mem_cons] at hx ⊢
          rcases hx with g | g | g
          ·exact .inl g
          ·exact .inr (.inl g)
          ·exact(hin4 x g).elim (fun g => .inr (.inr g)) (fun g=>by omega)),hn6.chg hc7 (fun x hx hh=>by
          simp only[WF,List.mem_cons] at hh
          rcases hh with g | g | g
          ·exact hnF x hx (List.mem_append_right _ (by simp[WF,g]))
          ·exact hnF x hx (List.mem_append_right _ (by simp[WF,g]))
          ·rcases hin4 x g with g | g
           ·exact hnF x hx (List.mem_append_right _ (by simp[WF,g]))
           ·have:=hn2.lt x hx; omega)⟩
     ·refine aP (aq (aq (aE (a7 (zSR (za rfl (a8 (a7 (zrf ?_)))))))))
      have hT:ts.take i=ts:=List.take_of_length_le (by omega)
      rw[hT,←hmm] at h4
      rw[hT] at hf4
      refine⟨rfl,f4,ov4,h4,fun x hx=>?_,fun x hx=>(hin4 x hx).imp (fun g=>g) (fun g=>by omega),hc4⟩
      rcases hf4 x hx with g | g | g
      ·exact .inl g
      ·exact .inr (by simp[g])
      ·exact .inr (by rw[hpg]; simp[g])
end Go.Proofs.YtpbfapbajmdlkaaGreat

end
section
namespace Go.Proofs.YtpbfapbajmdlkaaGreat
open Go Go.Sac
set_option maxRecDepth 100000
set_option maxHeartbeats 4000000
theorem CE(c:TC)(w:World)(s:TP)(root:UInt32)(d:Nat)(pg:List UInt32)(m:List Pr)(lo hi:Bs)(most:Nat)(hm0:0<most)(hm1:most≤1073741824)(h:c.pg w s)(ht:isT s.V d root pg m)(hw:∀x∈pg,s.P.now.written x=true)(hd:d≤40)(hnd:pg.Nodup)(hml:m.length≤10000) :
  Ret Tryz.prog 21 #[c.pv,.int .u32 root.toNat,str lo,str hi,.int .i64 most] w fun r w'=>(∃ov,r = .tuple #[ov,.int .i64 0]∧Own w' ov ((ey ⟨lo,hi,decide (hi≠[])⟩ m).take most)∧In ov [] w.heap.size)∧Chg [] w w':=by
 refine enter [10,11] Tryz.func21 rfl rfl (Nat.le_of_ble_eq_true rfl) ?_
 refine zSR (za rfl (za rfl (a8 (a7 (ae (zSR (zm rfl (a6 rfl (ml rfl rfl) ?_))))))))
 refine a8 (a7 (aF rfl (by omega) ?_))
 refine zKR (zm rfl (aS rfl (lr UInt32) ?_))
 rintro _ w1 ⟨mb,rfl,hnm,hM1,hc1,hl1⟩
 refine zm rfl (zm rfl (zm rfl (a6 rfl (uy rfl rfl) ?_)))
 refine a6 rfl (bN fe nH rfl (zs:=[str [],str [],.bool false]) rfl rfl (bZ rfl rfl rfl (Nat.le_of_ble_eq_true rfl) (bZ rfl rfl rfl (Nat.le_of_ble_eq_true rfl) (bZ rfl rfl rfl (Nat.le_of_ble_eq_true rfl) (ej (cs':=[str lo,str hi,.bool (decide (hi≠[]))]) rfl))))) ?_
 refine zm rfl (a6 rfl (bN jm I118 rfl (zs:=[.pointer none,.map none,str [],str [],.bool false,.int .i64 0,.slice none 0 0]) rfl rfl (bZ rfl rfl rfl (Nat.le_of_ble_eq_true rfl) (bZ rfl rfl rfl (Nat.le_of_ble_eq_true rfl) (bZ rfl rfl rfl (Nat.le_of_ble_eq_true rfl) (bZ rfl rfl rfl (Nat.le_of_ble_eq_true rfl) (ej (cs':=[c.pv,.map (some mb),str lo,str hi,.bool (decide (hi≠[])),.int .i64 most,.slice none 0 0]) rfl)))))) ?_)
 refine aS rfl (cg (l:=[c.pv,.map (some mb),str lo,str hi,.bool (decide (hi≠[])),.int .i64 most,.slice none 0 0]) rfl rfl) ?_
 rintro _ w2 ⟨b,rfl,hnb,hB2,hc2,hl2⟩
 refine za rfl (a8 (a7 (ae (zSR (zm rfl (zm rfl ?_))))))
 have hc02:=hc1.tr hc2
 have k1:=hc1.1
 have hw0:=h.1.2.1.1
 have hk2:Wk c w2 b mb s ⟨lo,hi,decide (hi≠[])⟩ most fW [] (.slice none 0 0):=⟨h.chg0 hc02,hB2,(SetAt.nil hM1).chg0 hc2,Own.nil _,by omega,by simp[ar],by simp[ar],fun x hx=>by
  have hx:x∈[b,mb]:=hx
  simp only[List.mem_cons,List.mem_nil_iff,or_false] at hx
  rcases hx with rfl | rfl
  ·exact⟨by omega,fun hh=>by have:=h.lt _ hh; omega⟩
  ·exact⟨by omega,fun hh=>by have:=h.lt _ hh; omega⟩⟩
 refine ah rfl C58 (goes_ok c b mb s ⟨lo,hi,decide (hi≠[])⟩ most hm1 d w2 root pg m 0 fW [] (.slice none 0 0) hk2 ht hw (by omega) (fun x _=>rfl) hnd (by simpa using hml)) ?_
 rintro _ w3 ⟨rfl,f3,ov3,hk3,hf3,hin3,hc3⟩
 refine za rfl (zNR (zm rfl (a6 rfl (bL rfl rfl) ?_)))
 refine a8 (a7 (aF rfl (fun h=>h rfl) ?_))
 refine zKR (zm rfl (zn rfl rfl (a6 rfl (aa jm rfl I33 rfl rfl) ?_)))
 have hB3:=hk3.blk
 refine a6 rfl (az cn rfl rfl (hB3.c rfl)) ?_
 refine za rfl (za rfl (a8 (a7 (zrf ?_))))
 have hown:=hk3.own
 rw[List.nil_append,List.length_nil,Nat.sub_zero] at hown
 refine⟨⟨ov3,rfl,hown,fun x hx=>?_⟩,hc02.t0 hc3 (fun x hx=>?_)⟩
 ·rcases hin3 x hx with g | g
  ·simp[ar] at g
  ·exact .inr (by have:=hc02.1; omega)
 ·have hx:x∈[b,mb]:=hx
  simp only[List.mem_cons,List.mem_nil_iff,or_false] at hx
  rcases hx with rfl | rfl <;> omega
theorem TLen_ok(c:TC)(w:World)(s:TP)(root:UInt32)(d:Nat)(pg:List UInt32)(m:List Pr)(h:c.pg w s)(ht:isT s.V d root pg m)(hw:∀x∈pg,s.P.now.written x=true)(hd:d≤40)(hnd:pg.Nodup)(hml:m.length≤10000) :
  Ret Tryz.prog 27 #[c.pv,.int .u32 root.toNat] w fun r w'=>r = .tuple #[.int .i64 m.length,.int .i64 0]∧Chg [] w w':=by
 refine enter [4,5] Tryz.func27 rfl rfl (Nat.le_of_ble_eq_true rfl) ?_
 refine zSR (za rfl (za rfl (zNR (zm rfl (zm rfl (ah rfl C21 (CE c w s root d pg m [] [] 1073741824 (by decide) (Nat.le_refl _) h ht hw hd hnd hml) ?_))))))
 rintro _ w1 ⟨⟨ov,rfl,ho,hi⟩,hc1⟩
 have hall:(ey ⟨[],[],decide (([]:Bs)≠[])⟩ m).take 1073741824=m:=by
  have:ey ⟨[],[],decide (([]:Bs)≠[])⟩ m=m:=eI (fun p _=>by simp[Sp.has,pI])
  rw[this,List.take_of_length_le (by omega)]
 rw[hall] at ho
 have hob1:=ho.sl.form rfl
 obtain⟨p1,c1,rfl⟩:=hob1
 refine zm rfl (zx rfl rfl rfl (zx rfl rfl rfl (za rfl (za rfl (zNR (zm rfl (a6 rfl (ax rfl cn) (zm rfl (za rfl (za rfl ?_))))))))))
 refine a8 (a7 (zrf ?_))
 exact⟨rfl,hc1⟩
end Go.Proofs.YtpbfapbajmdlkaaGreat

end
section
namespace Go.Proofs.YtpbfapbajmdlkaaGreat
open Go Go.Sac
set_option maxRecDepth 100000
set_option maxHeartbeats 4000000
theorem BZ(w:World)(b:Nat)(s:Sp)(k:Bs)(hB:Blk w b [str s.lo,str s.hi,.bool s.fin])(hk:s.has k=true) :
  Ret Tryz.prog 172 #[str k,.pointer (some ⟨b,0,none⟩)] w fun r w'=>r = .bool false∧Chg [] w w':=by
 have hAt:At w b 0 [str s.lo,str s.hi,.bool s.fin]:=hB.at (by rfl)
 refine enter [3] Tryz.func172 rfl rfl (Nat.le_of_ble_eq_true rfl) ?_
 refine zSR (za rfl (zNR (a6 rfl (bX fe rfl nH rfl hAt rfl) ?_)))
 refine zm rfl (ah rfl C99 (yI _ s k true hk) ?_)
 rintro _ w1 ⟨rfl,hc1⟩
 refine a6 rfl (cA rfl) (za rfl (a8 (a7 (zrf ?_))))
 exact⟨rfl,hc1⟩
theorem As(w:World)(b:Nat)(s:Sp)(v:Value)(ks:List Bs)(hB:Blk w b [str s.lo,str s.hi,.bool s.fin])(hs:Sl w v ks)(hk:∀k∈ks,s.has k=true)(hl:ks.length≤100000) :
  Ret Tryz.prog 214 #[v,.func (.func 172) #[] #[.pointer (some ⟨b,0,none⟩)]] w fun r w'=>r = .int .i64 (-1)∧Chg [] w w':=by
 have hob1:=hs.form rfl
 obtain⟨p,cp,rfl⟩:=hob1
 refine enter [4] Tryz.func214 rfl rfl (Nat.le_of_ble_eq_true rfl) ?_
 refine zSR (za rfl (a8 (a7 (ae (zSR (zm rfl (a6 rfl (ax rfl bS) (zm rfl ?_))))))))
 refine a8 (a7 (au (bn [0,1,7,8] (fun m vs w'=>∃i:Nat,vs=[.slice p ks.length cp,.func (.func 172) #[] #[.pointer (some ⟨b,0,none⟩)],.int .i64 ks.length,.int .i64 i]∧i+m=ks.length∧Chg [] w w') (ks.length) ?_ ?_)))
 ·exact⟨0,rfl,by omega,Chg.refl _⟩
 ·rintro m vs J w1 ⟨i,rfl,him,hc1⟩
  refine zSR (a6 rfl (bz rfl rfl) ?_)
  refine a8 (a7 (ae (aC rfl (fun hlt=>?_) (fun hlt=>?_))))
  ·refine aA (a7 (ae (au (zSR (zm rfl (za rfl (zNR (zm rfl (zm rfl (zm rfl ?_))))))))))
   have hob2:∃z,m=z+1:=⟨m-1,by omega⟩
   obtain⟨m,rfl⟩:=hob2
   have hob3:∃a,ks[i]?=some a:=⟨_,List.getElem?_eq_getElem (by omega)⟩
   obtain⟨a,ha⟩:=hob3
   have hs1:=hs.mod0 hc1
   refine bg rfl (bW (i) bS I9 rfl (hs1) rfl rfl (by first | rfl | omega) (by omega)) ?_
   rintro _ ⟨bi,oi,rfl,hei,hbi⟩
   refine a6 rfl (az uU9 rfl rfl (((hs1.at hei ha).c0 rfl))) ?_
   refine ah rfl (mr rfl Tryz.func172 rfl rfl) (BZ w1 b s a (hB.chg0 hc1) (hk a (List.mem_of_getElem? ha))) ?_
   rintro _ w2 ⟨rfl,hc2⟩
   refine a8 (a7 (aM (rfl) ?_))
   refine aA (aB (a7 (al (a6 rfl (aD rfl rfl (by omega)) (zm rfl ?_)))))
   refine a8 (a7 (Exists.intro (m) (And.intro (by omega) ?_)))
   exact⟨i+1,aw rfl (aw rfl (aw rfl (aw (bB (by omega)) bF))),by omega,hc1.tr hc2⟩
  ·refine aP (aq (aq (aE (a7 (zSR (za rfl (a8 (a7 (zrf ?_)))))))))
   exact⟨rfl,hc1⟩
theorem uu(w:World)(b:Nat)(s:Sp)(v:Value)(ks:List Bs)(hB:Blk w b [str s.lo,str s.hi,.bool s.fin])(hs:Sl w v ks)(hk:∀k∈ks,s.has k=true)(hl:ks.length≤100000) :
  Ret Tryz.prog 171 #[v,.func (.func 172) #[] #[.pointer (some ⟨b,0,none⟩)]] w fun r w'=>r = .bool false∧Chg [] w w':=by
 refine enter [4] Tryz.func171 rfl rfl (Nat.le_of_ble_eq_true rfl) ?_
 refine zSR (za rfl (zNR (zm rfl (zm rfl (ah rfl C214 (As w b s v ks hB hs hk hl) ?_)))))
 rintro _ w1 ⟨rfl,hc1⟩
 refine a6 rfl (j5 rfl rfl) (za rfl ?_)
 refine a8 (a7 (zrf ?_))
 exact⟨rfl,hc1⟩
theorem keys_ok(w:World)(s:Sp)(v:NV)(n:Cn)(h:NAt w v n)(hp:∀p∈cnP n,s.has p.1=true)(hk:∀k∈cnK n,s.has k=true)(hl:(cnP n).length≤10000∧(cnK n).length≤10000) :
  Ret Tryz.prog 111 #[spV s,v.ptr] w fun r w'=>r = .bool true∧Chg [] w w':=by
 obtain⟨vb,vp,vk,vi⟩:=v
 have hB:=h.blk
 have hpS:Sl w vp (cnP n):=h.p
 have hob4:∃p c,vp = .slice p (cnP n).length c:=hpS.form rfl
 obtain⟨pp,cp,rfl⟩:=hob4
 have hB:Blk w vb [.bool (cnL n),.slice pp (cnP n).length cp,vk,vi]:=hB
 refine enter [4] Tryz.func111 rfl rfl (Nat.le_of_ble_eq_true rfl) ?_
 refine zSR (aS rfl (cg (l:=[str s.lo,str s.hi,.bool s.fin]) rfl rfl) ?_)
 rintro _ w1 ⟨b,rfl,hn,hS1,hc1,hl1⟩
 refine za rfl (a8 (a7 (ae (zSR (zm rfl (zn rfl rfl (a6 rfl (aa bh rfl I33 rfl rfl) ?_)))))))
 have hB1:=hB.chg0 hc1
 refine a6 rfl (az cn rfl rfl (hB1.c rfl)) ?_
 refine a6 rfl (ax rfl cn) (zm rfl ?_)
 refine a8 (a7 (au (bn [1,2,10,11,12] (fun m vs w'=>∃i:Nat,vs=[.pointer (some ⟨vb,0,none⟩),.pointer (some ⟨b,0,none⟩),.slice pp (cnP n).length cp,.int .i64 (cnP n).length,.int .i64 i]∧i+m=(cnP n).length∧Chg [] w1 w') ((cnP n).length) ?_ ?_)))
 ·exact⟨0,rfl,by omega,Chg.refl _⟩
 ·rintro m vs J w2 ⟨i,rfl,him,hc2⟩
  refine zSR (a6 rfl (bz rfl rfl) ?_)
  refine a8 (a7 (ae (aC rfl (fun hlt=>?_) (fun hlt=>?_))))
  ·refine aA (a7 (ae (au (ae (al ?_)))))
   have hob5:∃z,m=z+1:=⟨m-1,by omega⟩
   obtain⟨m,rfl⟩:=hob5
   have hob6:∃a,(cnP n)[i]?=some a:=⟨_,List.getElem?_eq_getElem (by omega)⟩
   obtain⟨a,ha⟩:=hob6
   have hs2:=(hpS.mod0 hc1).mod0 hc2
   refine bg rfl (bW (i) cn I49 rfl (hs2) rfl rfl (by first | rfl | omega) (by omega)) ?_
   rintro _ ⟨bi,oi,rfl,hei,hbi⟩
   refine a6 rfl (bX fZ rfl I49 rfl (hs2.at hei ha) rfl) ?_
   refine aS rfl (dn (l:=[str [],str []]) I49 rfl rfl) ?_
   rintro _ w3 ⟨tb,rfl,hnt,hT3,hc3,hl3⟩
   refine aH rfl (cz (l:=[str a.1,str a.2]) I49 rfl rfl hT3 rfl rfl (Nat.le_refl 2) (by simp[ei]) (cy rfl)) ?_
   rintro w4 ⟨hT4,hc4,hs4⟩
   refine a8 (a7 (ae (al ?_)))
   have hc14:=hc2.tr (hc3.t1 hc4 hnt)
   have hAt:At w4 b 0 [str s.lo,str s.hi,.bool s.fin]:=(hS1.chg0 hc14).at (by rfl)
   refine a6 rfl (bX fe rfl nH rfl hAt rfl) ?_
   refine a6 rfl (aa fZ rfl I9 rfl rfl) ?_
   refine a6 rfl (az uU9 rfl rfl (hT4.c rfl)) ?_
   refine ah rfl C99 (yI _ s a.1 true (hp a (List.mem_of_getElem? ha))) ?_
   rintro _ w5 ⟨rfl,hc5⟩
   refine a6 rfl (cA rfl) (a8 (a7 (aM (rfl) ?_)))
   refine aA (aB (a7 (al (a6 rfl (aD rfl rfl (by omega)) (zm rfl ?_)))))
   refine a8 (a7 (Exists.intro (m) (And.intro (by omega) ?_)))
   exact⟨i+1,aw rfl (aw rfl (aw rfl (aw rfl (aw (bB (by omega)) bF)))),by omega,hc14.tr hc5⟩
  ·refine aP (aq (aq (aE (a7 (zSR (zm rfl (zn rfl rfl (a6 rfl (aa bh rfl I70 rfl rfl) ?_))))))))
   have hB2:=hB1.chg0 hc2
   refine a6 rfl (az bS rfl rfl (hB2.c rfl)) ?_
   refine a6 rfl (AH rfl) ?_
   refine ah rfl C171 (uu w2 b s vk (cnK n) (hS1.chg0 hc2) ((h.k.mod0 hc1).mod0 hc2) hk (by omega)) ?_
   rintro _ w3 ⟨rfl,hc3⟩
   refine a6 rfl (cA rfl) (za rfl (a8 (a7 (zrf ?_))))
   exact⟨rfl,(hc1.tr hc2).tr hc3⟩
end Go.Proofs.YtpbfapbajmdlkaaGreat

end
section
namespace Go.Proofs.YtpbfapbajmdlkaaGreat
open Go Go.Sac
set_option maxRecDepth 100000
set_option maxHeartbeats 4000000
structure Ck(c:TC)(w:World)(b mb:Nat)(s:TP)(f:PgF)(dp:Int):Prop where
 pg:c.pg w s
 blk:Blk w b [c.pv,.map (some mb),.int .i64 dp]
 set:SetAt w mb f
 b1:b≠mb
 fr:∀x∈[b,mb],c.w0.heap.size≤x∧x∉c.F
theorem Ck.chg0{c:TC}{w w':World}{b mb:Nat}{s:TP}{f:PgF}{dp:Int}(h:Ck c w b mb s f dp)(hm:Chg [] w w'):Ck c w' b mb s f dp:=⟨h.pg.chg0 hm,h.blk.chg0 hm,h.set.chg0 hm,h.b1,h.fr⟩
theorem BX{sp:Sp}{ks:List Bs}{ts:List Kd}{i:Nat}(h:Seps ks (msT ts))(hi:i<ts.length)(hp:∀p∈prT ts,sp.has p.1=true):∀p∈ts[i].2.2,(sp.kid ks i).has p.1=true:=fun p hpi=>by
 have hm:(msT ts)[i]?=some ts[i].2.2:=by rw[msT,List.getElem?_map,List.getElem?_eq_getElem hi]; rfl
 obtain⟨h1,h2⟩:=h.kid hm
 exact Sp.kid_has (hp p (List.mem_flatMap.2 ⟨ts[i],List.getElem_mem hi,hpi⟩)) (fun hi0=>h1 (i-1) (by omega) p hpi) (fun hl=>h2 hl p hpi)
theorem Bx(w:World)(v:NV)(n:Cn)(x:Bool)(hx:iP n=x)(h:NAt w v n):Ret Tryz.prog 112 #[v.ptr] w fun r w'=>r = .bool x∧w=w':=hx▸yw w v n h
theorem Cu(c:TC)(b mb:Nat)(s:TP):∀(d:Nat) (w:World) (id:UInt32) (pg:List UInt32) (m:List Pr) (deep:Nat) (f:PgF) (dp:Int) (sp:Sp),Ck c w b mb s f dp→isT s.V d id pg m→(∀x∈pg,s.P.now.written x=true)→deep+d≤40→(∀x∈pg,f x=false)→pg.Nodup→(∀p∈m,sp.has p.1=true)→(dp = -1∨dp=((deep+d:Nat):Int))→(0<deep→m≠[]) →
  Ret Tryz.prog 63 #[.pointer (some ⟨b,0,none⟩),.int .u32 id.toNat,spV sp,.int .i64 deep] w fun r w'=>r = .int .i64 0∧∃f',Ck c w' b mb s f' ((deep+d:Nat):Int)∧(∀x,f' x=true→f x=true∨x∈pg)∧Chg [b,mb] w w':=by
 intro d
 induction d using Nat.strongRecOn with
 | _ d ih =>
  intro w id pg m deep f dp sp h ht hw hd hfr hnd hsp hdp hne0
  obtain⟨n,pg0,rfl,hct,hV,hz,hf⟩:=jw ht
  have hg:=CT.good hct hz hf
  obtain⟨st,hst,hsl⟩:=h.set
  have hfid:=hfr id (by simp)
  have hlook:(bV id st).getD (.bool false) = .bool false:=by rw[SetAt.look hsl,hfid]
  obtain⟨ts,hids,hpg,hmm,hsep,hkid⟩:=CT.parts hct
  refine enter [8] Tryz.func63 rfl rfl (Nat.le_of_ble_eq_true rfl) ?_
  refine zSR (aS rfl (cg (l:=[str sp.lo,str sp.hi,.bool sp.fin]) rfl rfl) ?_)
  rintro _ w1 ⟨sb,rfl,hsn,hS1,hc1,hl1⟩
  refine za rfl (a8 (a7 (ae (zSR (zm rfl ?_)))))
  have h1:=h.chg0 hc1
  have hB1:=h1.blk
  have hst1:=hst.mod hc1 (by simp)
  refine a6 rfl (bR (di rfl rfl) (congrArg Value.bool (decide_eq_false (by omega)))) ?_
  refine zm rfl (ag rfl (zm rfl (ag rfl (zn rfl rfl (ag rfl (a6 rfl (aa qm rfl I114 rfl rfl) (ag rfl ?_)))))))
  refine a6 rfl (az kn rfl rfl (hB1.c rfl)) ?_
  refine ag rfl (zm rfl (ag rfl (a6 rfl (bR (fv (k:=id) kn (cK bK) I4 rfl rfl rfl hst1) hlook) ?_)))
  refine a6 rfl (aL rfl) (a8 (a7 (aM (rfl) ?_)))
  refine zKR (zm rfl (zn rfl rfl (a6 rfl (aa qm rfl I114 rfl rfl) ?_)))
  refine a6 rfl (az kn rfl rfl (hB1.c rfl)) ?_
  refine zm rfl (aH rfl (gd (k:=id) kn (cK bK) rfl rfl rfl hst1) ?_)
  rintro w2 ⟨hm2,hc2,hs2⟩
  refine zNR (zm rfl (zn rfl rfl (a6 rfl (aa qm rfl I24 rfl rfl) ?_)))
  have hmF:=h.fr mb (by simp)
  have k1:=hc1.1
  have k2:=hc2.1
  have hbw:=h.fr b (by simp)
  have hS2:=hS1.chg hc2 (by have:=h.set.lt; simp; omega)
  have h2:Ck c w2 b mb s (cO f id) dp:=⟨h1.pg.chg hc2 (fun x hx hh=>by simp at hh; subst hh; exact hmF.2 hx) (fun x hx=>by simp at hx; subst hx; exact hmF.1),h1.blk.chg hc2 (by simp; exact h.b1),⟨_,hm2,kX hsl id⟩,h.b1,h.fr⟩
  have hB2:=h2.blk
  refine a6 rfl (az zt rfl rfl (hB2.c rfl)) ?_
  refine zm rfl (ah rfl C59 (ng c w2 s id n h2.pg (hw id (by simp)) hV hg) ?_)
  rintro _ w3 ⟨⟨v,rfl,hn3,hnew3⟩,hc3⟩
  refine zm rfl (zx rfl rfl rfl (zx rfl rfl rfl (za rfl (za rfl (a8 (a7 (ae (au (zSR (zm rfl (a6 rfl (bL rfl rfl) (za rfl ?_))))))))))))
  refine a8 (a7 (aF rfl (fun h=>h rfl) ?_))
  have h3:=h2.chg0 hc3
  have hS3:=hS2.chg0 hc3
  have hAt:At w3 sb 0 [str sp.lo,str sp.hi,.bool sp.fin]:=hS3.at (by rfl)
  have hpp:∀p∈cnP n,sp.has p.1=true:=fun p hp=>hsp p (by rw[hmm]; exact List.mem_append_left _ hp)
  have hkk:∀k∈cnK n,sp.has k=true:=by
   by_cases hne:ts=[]
   ·cases n with
    | leaf ps => exact fun k hk => by simp [cnK] at hk
    | br ks ids => have hgb : brOk ks ids := hg; have q1 := hgb.2.1; have q2 : ids = aT ts := hids; rw [hne] at q2; rw [q2] at q1; simp [aT] at q1
   ·have hob1:=hsep hne
    obtain⟨_,hsp2,_⟩:=hob1
    exact Seps.key_has hsp2 (fun x hx=>by obtain⟨t,ht,rfl⟩:=List.mem_map.1 hx; obtain⟨_,_,_,q⟩:=hkid t ht; exact q) (fun p hp=>hsp p (by rw[hmm]; rw[gY] at hp; exact List.mem_append_right _ hp))
  have hlens:(cnP n).length≤10000∧(cnK n).length≤10000:=by
   cases n with
   | leaf ps => have := iA ps; have q : bM ps ≤ 480 := hz; exact ⟨by show ps.length ≤ 10000; omega, Nat.zero_le _⟩
   | br ks ids => have hgb : brOk ks ids := hg; exact ⟨Nat.zero_le _, Nat.le_trans hgb.few.1 (by decide)⟩
  have hpo:iP n=false∨(iP n=true∧n = .leaf []∧deep=0):=by
   cases n with
   | leaf ps =>
    cases ps with
    | nil => exact .inr ⟨rfl, rfl, by
      rcases Nat.eq_zero_or_pos deep with g | g
      ·exact g
      ·have hob2:=CT.isLeaf hct
       obtain⟨_,q,_,_⟩:=hob2
       exact absurd q.symm (hne0 g)⟩
    | cons p ps => exact .inl (by simp [iP])
   | br ks ids => have hgb : brOk ks ids := hg; exact .inl (by have q1 := hgb.2.1; have q2 : 0 < ks.length := List.length_pos_iff.2 hgb.1; simp [iP]; omega)
  have hBv:=hn3.blk
  refine gL [42] [42,43,44,45,46,47,48,49,50,51,52,53,54,55,56,57,58,59,60,61] (fun vs w'=>vs=[.bool false]∧Chg [] w3 w') (by kernel_rfl) ?_ ?_
  ·refine al (a6 rfl (bX fe rfl nH rfl hAt rfl) ?_)
   refine zm rfl (ah rfl C111 (keys_ok w3 sp v n hn3 hpp hkk hlens) ?_)
   rintro _ w4 ⟨rfl,hc4⟩
   refine a6 rfl (cA rfl) (zm rfl (ag rfl (zm rfl (ag rfl ?_))))
   rcases hpo with hpo | ⟨hpo,hn,hd0⟩
   ·refine ah rfl C112 (Bx w4 v n false hpo (hn3.chg0 hc4)) ?_
    rintro _ w5 ⟨rfl,hw5⟩
    refine ag rfl (zm rfl (ay rfl rfl (ay rfl rfl (ay rfl rfl (ay rfl rfl (ay rfl rfl (ay rfl rfl (ay rfl rfl (ay rfl rfl (ay rfl rfl (ag rfl (a6 rfl (aL rfl) (a6 rfl (aL rfl) (za rfl (a8 (a7 ?_))))))))))))))))
    exact⟨rfl,hw5▸hc4⟩
   ·refine ah rfl C112 (Bx w4 v n true hpo (hn3.chg0 hc4)) ?_
    rintro _ w5 ⟨rfl,hw5⟩
    refine ag rfl (zm rfl (ag rfl (zm rfl (ag rfl (a6 rfl (bR (di rfl rfl) (congrArg Value.bool (decide_eq_false (by omega)))) ?_)))))
    refine ag rfl (zm rfl (ag rfl (zm rfl (ag rfl (zn rfl rfl (ag rfl (a6 rfl (aa bh rfl I4 rfl rfl) (ag rfl ?_))))))))
    have hc35:Chg [] w3 w5:=hw5▸hc4
    have hBv5:Blk w5 v.b [.bool true,v.p,v.k,v.i]:=by rw[hn] at hBv; exact hBv.chg0 hc35
    refine a6 rfl (az uU4 rfl rfl (hBv5.c rfl)) ?_
    refine ag rfl (a6 rfl (cA rfl) (ag rfl (a6 rfl (aL rfl) (ag rfl (a6 rfl (aN rfl) (a6 rfl (aL rfl) (za rfl (a8 (a7 ?_)))))))))
    exact⟨rfl,hc35⟩
  ·rintro vs J w4 ⟨rfl,hc4⟩
   have h4:=h3.chg0 hc4
   have hn4:=hn3.chg0 hc4
   have hS4:=hS3.chg0 hc4
   refine aM (rfl) ?_
   have hB4:=h4.blk
   have hn:(∃ps,n = .leaf ps)∨∃ks ids,n = .br ks ids:=by cases n with | leaf ps=>exact .inl ⟨ps,rfl⟩ | br ks ids=>exact .inr ⟨ks,ids,rfl⟩
   refine gL [62] [62,63,64,65,66,67,68,69,70,71,72,73,74,75,76,77,78,79,80,81] (fun vs w'=>vs=[.bool false]∧w4=w') (by kernel_rfl) ?_ ?_
   ·refine al (zm rfl (zn rfl rfl (a6 rfl (aa bh rfl I4 rfl rfl) ?_)))
    rcases hn with⟨ps,hn⟩ | ⟨ks,ids,hn⟩
    ·have hBl:Blk w4 v.b [.bool true,v.p,v.k,v.i]:=by have:=hn4.blk; rw[hn] at this; exact this
     have hd0:d=0:=(CT.isLeaf (hn▸hct)).1
     refine a6 rfl (az uU4 rfl rfl (hBl.c rfl)) ?_
     refine zm rfl (ag rfl (zm rfl (ag rfl (zn rfl rfl (ag rfl (a6 rfl (aa qm rfl I3 rfl rfl) (ag rfl ?_)))))))
     rcases hdp with hdp | hdp
     ·refine a6 rfl (az uU3 rfl rfl (hB4.c rfl)) ?_
      refine ag rfl (a6 rfl (bR (j5 rfl rfl) (congrArg Value.bool (decide_eq_false (by omega)))) ?_)
      refine a6 rfl (aN rfl) (zm rfl (ay rfl rfl (ay rfl rfl (ay rfl rfl (ay rfl rfl (ay rfl rfl (ay rfl rfl (a6 rfl (aL rfl) (za rfl (a8 (a7 ?_)))))))))))
      exact⟨rfl,rfl⟩
     ·refine a6 rfl (az uU3 rfl rfl (hB4.c rfl)) ?_
      refine ag rfl (a6 rfl (bR (j5 rfl rfl) (congrArg Value.bool (decide_eq_true (by omega)))) ?_)
      refine a6 rfl (aN rfl) (zm rfl (ag rfl (zm rfl (ag rfl (zn rfl rfl (ag rfl (a6 rfl (aa qm rfl I3 rfl rfl) (ag rfl ?_))))))))
      refine a6 rfl (az uU3 rfl rfl (hB4.c rfl)) ?_
      refine ag rfl (zm rfl (ag rfl (a6 rfl (bL rfl rfl) (a6 rfl (aN rfl) (za rfl ?_)))))
      refine a8 (a7 ?_)
      exact⟨congrArg (fun x=>[Value.bool x]) (decide_eq_false (fun hh=>hh (by omega))),rfl⟩
    ·have hBl:Blk w4 v.b [.bool false,v.p,v.k,v.i]:=by have:=hn4.blk; rw[hn] at this; exact this
     refine a6 rfl (az uU4 rfl rfl (hBl.c rfl)) ?_
     refine zm rfl (ay rfl rfl (ay rfl rfl (ay rfl rfl (ay rfl rfl (ay rfl rfl (a6 rfl (aL rfl) (zm rfl (ay rfl rfl (ay rfl rfl (ay rfl rfl (ay rfl rfl (ay rfl rfl (ay rfl rfl (a6 rfl (aL rfl) (za rfl (a8 (a7 ?_)))))))))))))))))
     exact⟨rfl,rfl⟩
   ·rintro vs J w5 ⟨rfl,rfl⟩
    refine aM (rfl) ?_
    refine zSR (zm rfl (zn rfl rfl (a6 rfl (aa bh rfl I4 rfl rfl) ?_)))
    have hob3:∃p c,v.i = .slice p (cnI n).length c:=hn4.i.form rfl
    obtain⟨pi,ci,hvi⟩:=hob3
    have hc04:Chg [b,mb] w w4:=((((hc1.mono (by simp)).tr (hc2.mono (by simp))).tr0 hc3).tr0 hc4)
    have hfup:∀x,cO f id x=true→f x=true∨x∈id::pg0:=fun x hx=>by
     unfold cO at hx
     simp only[Bool.or_eq_true,decide_eq_true_eq] at hx
     rcases hx with g | g
     ·exact .inr (by simp[g])
     ·exact .inl g
    rcases hn with⟨ps,hn⟩ | ⟨ks,ids,hn⟩
    ·have hBl:Blk w4 v.b [.bool true,v.p,v.k,.slice pi (cnI n).length ci]:=by have:=hn4.blk; rw[←hvi]; rw[hn] at this; exact this
     have hd0:d=0:=(CT.isLeaf (hn▸hct)).1
     have hl0:(cnI n).length=0:=by rw[hn]; rfl
     have hvw:=hnew3 v.b (by simp[NV.F])
     have hbl:=h.blk.lt
     refine a6 rfl (az uU4 rfl rfl (hBl.c rfl)) ?_
     refine za rfl (a8 (a7 (bf (rfl) ?_)))
     refine al (zm rfl (zm rfl (zn rfl rfl (a6 rfl (aa qm rfl I3 rfl rfl) ?_))))
     refine aH rfl (bD I3 rfl rfl (hB4) rfl rfl ((by decide:2<3)) rfl (rfl)) ?_
     rintro w6 ⟨hB6,hc6,hs6⟩
     refine a8 (aB (a7 (ae (zSR (zm rfl (zn rfl rfl (a6 rfl (aa bh rfl I41 rfl rfl) ?_)))))))
     replace hB6:Blk w6 b [c.pv,.map (some mb),.int .i64 deep]:=hB6
     have hBl6:=hBl.chg hc6 (by simp; omega)
     refine a6 rfl (az bw rfl rfl (hBl6.c rfl)) ?_
     refine a6 rfl (ax rfl bw) (zm rfl ?_)
     refine a8 (a7 (au (bn [0,3,6,9,94,95,96] (fun k vs w'=>vs=[.pointer (some ⟨b,0,none⟩),.int .i64 deep,.pointer (some ⟨sb,0,none⟩),v.ptr,.slice pi (cnI n).length ci,.int .i64 (cnI n).length,.int .i64 0]∧w6=w') (0) ?_ ?_)))
     ·exact⟨rfl,rfl⟩
     ·rintro k vs J w7 ⟨rfl,rfl⟩
      refine zSR (a6 rfl (bz rfl rfl) ?_)
      refine a8 (a7 (ae (aF rfl (by omega) ?_)))
      refine aP (aq (aq (aE (a7 (zSR (za rfl (a8 (a7 (zrf ?_)))))))))
      refine⟨rfl,cO f id,⟨h4.pg.chg hc6 (fun x hx hh=>by simp at hh; subst hh; exact hbw.2 hx) (fun x hx=>by simp at hx; subst hx; exact hbw.1),?_,h4.set.mod hc6 (by simp; exact h.b1.symm),h.b1,h.fr⟩,hfup,hc04.tr (hc6.mono (by simp))⟩
      rw[hd0]; exact hB6
    ·have hBl:Blk w4 v.b [.bool false,v.p,v.k,.slice pi (cnI n).length ci]:=by have:=hn4.blk; rw[←hvi]; rw[hn] at this; exact this
     have hgb:brOk ks ids:=by have q:=hg; rw[hn] at q; exact q
     have hil:(cnI n).length=ts.length:=by rw[hids,bm]
     have hfew:(cnI n).length≤200∧2≤(cnI n).length:=by
      rw[hn]
      exact⟨Nat.le_trans hgb.few.2 (by decide),by show 2≤ids.length; have q1:=hgb.2.1; have q2:0<ks.length:=List.length_pos_iff.2 hgb.1; omega⟩
     have hne:ts≠[]:=fun e=>by rw[e,List.length_nil] at hil; omega
     have hob4:=hsep hne
     obtain⟨_,hsp2,hkl⟩:=hob4
     have hsbF:sb≠b∧sb≠mb:=⟨by have:=h.blk.lt; omega,by have:=h.set.lt; omega⟩
     have hvF:∀x∈v.F,x∉[b,mb]:=fun x hx hh=>by
      have q:=hnew3 x hx
      simp only[List.mem_cons,List.mem_nil_iff,or_false] at hh
      have:=h.blk.lt
      have:=h.set.lt
      rcases hh with rfl | rfl <;> omega
     refine a6 rfl (az uU4 rfl rfl (hBl.c rfl)) ?_
     refine za rfl (a8 (a7 (aM (rfl) ?_)))
     refine aA (aB (a7 (ae (zSR (zm rfl (zn rfl rfl (a6 rfl (aa bh rfl I41 rfl rfl) ?_)))))))
     refine a6 rfl (az bw rfl rfl (hBl.c rfl)) ?_
     refine a6 rfl (ax rfl bw) (zm rfl ?_)
     refine a8 (a7 (au (bn [0,3,6,9,94,95,96] (fun k vs w'=>∃(i:Nat) (f':PgF) (dp':Int),vs=[.pointer (some ⟨b,0,none⟩),.int .i64 deep,.pointer (some ⟨sb,0,none⟩),v.ptr,.slice pi (cnI n).length ci,.int .i64 (cnI n).length,.int .i64 i]∧i+k=(cnI n).length∧Ck c w' b mb s f' dp'∧(∀x,f' x=true→f x=true∨x=id∨x∈pgT (ts.take i))∧(dp' = -1∨dp'=((deep+d:Nat):Int))∧(0<i→dp'=((deep+d:Nat):Int))∧NAt w' v n∧Blk w' sb [str sp.lo,str sp.hi,.bool sp.fin]∧Chg [b,mb] w w') ((cnI n).length) ?_ ?_)))
     ·exact⟨0,cO f id,dp,rfl,by omega,h4,fun x hx=>by
       unfold cO at hx
       simp only[Bool.or_eq_true,decide_eq_true_eq] at hx
       rcases hx with g | g
       ·exact .inr (.inl g)
       ·exact .inl g,hdp,fun q=>absurd q (by omega),hn4,hS4,hc04⟩
     ·rintro k vs J w5 ⟨i,f5,dp5,rfl,hik,h5,hf5,hdp5,hdi5,hn5,hS5,hc5⟩
      refine zSR (a6 rfl (bz rfl rfl) ?_)
      refine a8 (a7 (ae (aC rfl (fun hlt=>?_) (fun hlt=>?_))))
      ·refine aA (a7 (ae (au (zSR (zm rfl ?_)))))
       have hob5:∃q,k=q+1:=⟨k-1,by omega⟩
       obtain⟨k,rfl⟩:=hob5
       have hit:i<ts.length:=by omega
       have hob6:=hkid ts[i] (List.getElem_mem hit)
       obtain⟨q,hdq,hkt,hkm⟩:=hob6
       have hnn:n = .br (cnK n) (cnI n):=by rw[hn]; rfl
       have hn5':NAt w5 v (.br (cnK n) (cnI n)):=by rw[←hnn]; exact hn5
       have hiS:Sl w5 (.slice pi (cnI n).length ci) (cnI n):=by rw[←hvi]; exact hn5.i
       have hget:(cnI n)[i]?=some ts[i].1:=by rw[hids,aT,List.getElem?_map,List.getElem?_eq_getElem hit]; rfl
       have hAt5:At w5 sb 0 [str sp.lo,str sp.hi,.bool sp.fin]:=hS5.at (by rfl)
       refine bg rfl (bW (i) bw I25 rfl (hiS) rfl rfl (by first | rfl | omega) (by omega)) ?_
       rintro _ ⟨bi,oi,rfl,hei,hbi⟩
       refine a6 rfl (az bK rfl rfl (((hiS.at hei hget).c0 rfl))) ?_
       refine za rfl (za rfl (zNR (zm rfl (zm rfl (a6 rfl (bX fe rfl nH rfl hAt5 rfl) ?_)))))
       refine zm rfl (zm rfl (ah rfl C100 (BW w5 sp v (cnK n) (cnI n) i hn5' hkl (by omega) (by omega)) ?_))
       rintro _ w6 ⟨rfl,hc6⟩
       refine zm rfl (a6 rfl (aD rfl rfl (by omega)) ?_)
       have hsplit:pgT ts=pgT (ts.take i)++(ts[i].2.1++pgT (ts.drop (i+1))):=by
        rw[←dO,←dy,←List.drop_eq_getElem_cons hit,List.take_append_drop]
       have htp:pgT (ts.take (i+1))=pgT (ts.take i)++ts[i].2.1:=by rw[←List.take_append_getElem hit,dy,dO]; simp[pgT]
       have hsub:∀x∈ts[i].2.1,x∈pg0:=fun x hx=>by rw[hpg,hsplit]; simp[hx]
       have hnd0:pg0.Nodup:=(List.nodup_cons.1 hnd).2
       rw[hpg,hsplit,List.nodup_append] at hnd0
       have hndi:=(List.nodup_append.1 hnd0.2.1).1
       have hfri:∀x∈ts[i].2.1,f5 x=false:=fun x hx=>by
        cases hfx:f5 x with
        | false => rfl
        | true =>
         rcases hf5 x hfx with g | g | g
         ·rw[hfr x (List.mem_cons_of_mem _ (hsub x hx))] at g; cases g
         ·rw[g] at hx; exact absurd (hsub id hx) (List.nodup_cons.1 hnd).1
         ·exact absurd rfl (hnd0.2.2 x g x (List.mem_append_left _ hx))
       have hspt:∀p∈prT ts,sp.has p.1=true:=fun p hp=>hsp p (by rw[hmm]; exact List.mem_append_right _ hp)
       have h6:=h5.chg0 hc6
       refine ah rfl C63 (ih q (by omega) w6 ts[i].1 ts[i].2.1 ts[i].2.2 (deep+1) f5 dp5 (sp.kid (cnK n) i) h6 hkt (fun x hx=>hw x (List.mem_cons_of_mem _ (hsub x hx))) (by omega) hfri hndi (BX hsp2 hit hspt) (hdp5.imp (fun g=>g) (fun g=>by rw[g]; congr 1; omega)) (fun _=>hkm)) ?_
       rintro _ w7 ⟨rfl,f7,h7,hf7,hc7⟩
       refine za rfl (zNR (zm rfl (a6 rfl (bL rfl rfl) ?_)))
       refine a8 (a7 (aF rfl (fun h=>h rfl) ?_))
       refine aA (aB (a7 (al (a6 rfl (aD rfl rfl (by omega)) (zm rfl ?_)))))
       refine a8 (a7 (Exists.intro (k) (And.intro (by omega) ?_)))
       have hdd:((deep+1+q:Nat):Int)=((deep+d:Nat):Int):=by congr 1; omega
       rw[hdd] at h7
       have hn6:=hn5.chg0 hc6
       have hS6:=hS5.chg0 hc6
       refine⟨i+1,f7,_,aw rfl (aw rfl (aw rfl (aw rfl (aw rfl (aw rfl (aw (bB (by omega)) bF)))))),by omega,h7,fun x hx=>?_,.inr rfl,fun _=>rfl,hn6.chg hc7 hvF,hS6.chg hc7 (by simp; exact hsbF),(hc5.tr0 hc6).tr hc7⟩
       rw[htp]
       rcases hf7 x hx with g | g
       ·rcases hf5 x g with g | g | g
        ·exact .inl g
        ·exact .inr (.inl g)
        ·exact .inr (.inr (List.mem_append_left _ g))
       ·exact .inr (.inr (List.mem_append_right _ g))
      ·refine aP (aq (aq (aE (a7 (zSR (za rfl (a8 (a7 (zrf ?_)))))))))
       have hT:ts.take i=ts:=List.take_of_length_le (by omega)
       rw[hT] at hf5
       rw[hdi5 (by omega)] at h5
       refine⟨rfl,f5,h5,fun x hx=>?_,hc5⟩
       rcases hf5 x hx with g | g | g
       ·exact .inl g
       ·exact .inr (by simp[g])
       ·exact .inr (by rw[hpg]; simp[g])
theorem Ao(c:TC)(w:World)(s:TP)(root:UInt32)(d:Nat)(pg:List UInt32)(m:List Pr)(h:c.pg w s)(ht:isT s.V d root pg m)(hw:∀x∈pg,s.P.now.written x=true)(hd:d≤40)(hnd:pg.Nodup) :
  Ret Tryz.prog 25 #[c.pv,.int .u32 root.toNat] w fun r w'=>r = .int .i64 0∧Chg [] w w':=by
 refine enter [4] Tryz.func25 rfl rfl (Nat.le_of_ble_eq_true rfl) ?_
 refine zSR (za rfl (zNR (zm rfl (aS rfl (lr UInt32) ?_))))
 rintro _ w1 ⟨mb,rfl,hnm,hM1,hc1,hl1⟩
 refine a6 rfl (bN qm I132 rfl (zs:=[.pointer none,.map none,.int .i64 0]) rfl rfl (bZ rfl rfl rfl (Nat.le_of_ble_eq_true rfl) (bZ rfl rfl rfl (Nat.le_of_ble_eq_true rfl) (bZ rfl rfl rfl (Nat.le_of_ble_eq_true rfl) (ej (cs':=[c.pv,.map (some mb),.int .i64 (-1)]) rfl))))) ?_
 refine aS rfl (cg (l:=[c.pv,.map (some mb),.int .i64 (-1)]) rfl rfl) ?_
 rintro _ w2 ⟨b,rfl,hnb,hB2,hc2,hl2⟩
 refine za rfl (zNR (zm rfl (zm rfl ?_)))
 have hc02:=hc1.tr hc2
 have k1:=hc1.1
 have hw0:=h.1.2.1.1
 have hk2:Ck c w2 b mb s fW (-1):=⟨h.chg0 hc02,hB2,(SetAt.nil hM1).chg0 hc2,by omega,fun x hx=>by
  simp only[List.mem_cons,List.mem_nil_iff,or_false] at hx
  rcases hx with rfl | rfl
  ·exact⟨by omega,fun hh=>by have:=h.lt _ hh; omega⟩
  ·exact⟨by omega,fun hh=>by have:=h.lt _ hh; omega⟩⟩
 refine a6 rfl (bN fe nH rfl (zs:=[str [],str [],.bool false]) rfl rfl (ej (cs':=[str [],str [],.bool false]) rfl)) ?_
 refine ah rfl C63 (Cu c b mb s d w2 root pg m 0 fW (-1) ⟨[],[],false⟩ hk2 ht hw (by omega) (fun x _=>rfl) hnd (fun p _=>by simp[Sp.has,pI]) (.inl rfl) (fun g=>absurd g (by omega))) ?_
 rintro _ w3 ⟨rfl,f3,hk3,hf3,hc3⟩
 refine za rfl (a8 (a7 (zrf ?_)))
 refine⟨rfl,hc02.t0 hc3 (fun x hx=>?_)⟩
 simp only[List.mem_cons,List.mem_nil_iff,or_false] at hx
 rcases hx with rfl | rfl <;> omega
end Go.Proofs.YtpbfapbajmdlkaaGreat

end
