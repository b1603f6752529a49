/- Batch upon batch over the same keys: never a page more than there must be, on a small disk, too. It holds for every input; there are no conditions. -/
import Derived.Test.YtpbfapbajmdlkaaGreatSac1
import Derived.Laws.Concat
import Derived.Test.YtpbfapbajmdlkaaGreatSac0
namespace Go.Sac
open Go
def nj(l:List UInt32):List UInt32:=l.mergeSort fun x y=>decide (x<=y)
theorem pO(l:List UInt32):(nj l).Perm l:=yi l _
theorem qT(l:List UInt32):(nj l).length=l.length:=(pO l).length_eq
theorem BL(l:List UInt32):(nj l).Pairwise (fun a b=>decide (a<=b)=true) :=
 List.pairwise_mergeSort (fun a b c h1 h2=>by simp only[decide_eq_true_eq] at *;exact UInt32.le_trans h1 h2)
  (fun a b=>by simp only[mD,decide_eq_true_eq];exact UInt32.le_total a b) l
theorem A2{l l':List UInt32}(hp:l'.Perm l)(hs:l'.Pairwise (fun a b=>decide (a<=b)=true)):l'=nj l:=by
 refine List.Perm.eq_of_pairwise (le:=fun a b=>decide (a<=b)=true) (fun a b _ _ h1 h2=>?_) hs (BL l) (hp.trans (pO l).symm);simp only[decide_eq_true_eq] at h1 h2;exact UInt32.le_antisymm h1 h2
def tf(l:List UInt32)(j:Nat):List UInt32:=(l.set j (l.getD (j-1) 0)).set (j-1) (l.getD j 0)
theorem xE(l:List UInt32)(j a:Nat)(hj:0<j)(hl:j<l.length):(tf l j).getD a 0=if a=j-1 then l.getD j 0 else if a=j then l.getD (j-1) 0 else l.getD a 0:=by
 unfold tf;simp only[eB,yj,gK];by_cases h1:a=j-1
 ·subst h1;rw[if_pos rfl,if_pos (by omega),if_pos rfl,yA]
 ·have h1':¬j-1=a:=fun e=>h1 e.symm;rw[if_neg h1',if_neg h1];by_cases h2:a=j
  ·subst h2;rw[if_pos rfl,if_pos rfl,if_pos hl,yA]
  ·have h2':¬j=a:=fun e=>h2 e.symm;rw[if_neg h2',if_neg h2]
theorem zh{α:Type}(l:List α)(i j:Nat)(hi:i<l.length)(hj:j<l.length):((l.set i l[j]).set j l[i]).Perm l:=List.set_set_perm hi hj
theorem BK(l:List UInt32)(j:Nat)(hl:j<l.length):(tf l j).Perm l:=by
 unfold tf;have h1:l.getD (j-1) 0=l[j-1]:=by rw[eB,bX (by omega)];rfl
 have h2:l.getD j 0=l[j]:=by rw[eB,bX hl];rfl
 rw[h1,h2];exact zh l j (j-1) hl (by omega)
def MidU(l0 l:List UInt32)(i j:Nat):Prop:=l.Perm l0/\∀a b,a<b->b<=i->b≠j->l.getD a 0<=l.getD b 0
def SrtU(l0 l:List UInt32)(i:Nat):Prop:=l.Perm l0/\∀a b,a<b->b<i->l.getD a 0<=l.getD b 0
theorem SrtU.mid{l0 l:List UInt32}{i:Nat}(h:SrtU l0 l i):MidU l0 l i i:=⟨h.1,fun a b h1 h2 h3=>h.2 a b h1 (by omega)⟩
theorem MidU.swap{l0 l:List UInt32}{i j:Nat}(h:MidU l0 l i j)(hj:0<j)(hji:j<=i)(hl:i<l.length)(hlt:l.getD j 0<l.getD (j-1) 0):MidU l0 (tf l j) i (j-1):=by
 refine⟨(BK l j (by omega)).trans h.1,fun a b h1 h2 h3=>?_⟩;rw[xE l j a hj (by omega),xE l j b hj (by omega)];rw[if_neg h3];by_cases hb:b=j
 ·subst hb;rw[if_pos rfl];by_cases ha:a=b-1
  ·rw[if_pos ha];exact UInt32.le_of_lt hlt
  ·rw[if_neg ha,if_neg (by omega)];exact h.2 a (b-1) (by omega) (by omega) (by omega)
 ·rw[if_neg hb];by_cases ha:a=j-1
  ·rw[if_pos ha];exact h.2 j b (by omega) h2 hb
  ·rw[if_neg ha];by_cases ha':a=j
   ·rw[if_pos ha'];exact h.2 (j-1) b (by omega) h2 hb
   ·rw[if_neg ha'];exact h.2 a b h1 h2 hb
theorem MidU.done{l0 l:List UInt32}{i j:Nat}(h:MidU l0 l i j)(hji:j<=i)(hs:j=0∨¬l.getD j 0<l.getD (j-1) 0):SrtU l0 l (i+1):=by
 refine⟨h.1,fun a b h1 h2=>?_⟩;by_cases hb:b=j
 ·subst hb;have hs:¬l.getD b 0<l.getD (b-1) 0:=hs.resolve_left (by omega);have hle:l.getD (b-1) 0<=l.getD b 0:=UInt32.not_lt.1 hs;by_cases ha:a=b-1
  ·rw[ha];exact hle
  ·exact UInt32.le_trans (h.2 a (b-1) (by omega) (by omega) (by omega)) hle
 ·exact h.2 a b h1 (by omega) hb
theorem SrtU.sort{l0 l:List UInt32}{i:Nat}(h:SrtU l0 l i)(hi:l.length<=i):l=nj l0:=by
 refine A2 h.1 (List.pairwise_iff_getElem.2 fun a b ha hb hab=>?_)
 have:=h.2 a b hab (by omega)
 rw[eB,eB,bX ha,bX hb] at this
 simpa using this
theorem SrtU.start(l:List UInt32):SrtU l l 1:=⟨.refl l,fun a b h1 h2=>by omega⟩
theorem SrtU.length{l0 l:List UInt32}{i:Nat}(h:SrtU l0 l i):l.length=l0.length:=h.1.length_eq
theorem MidU.length{l0 l:List UInt32}{i j:Nat}(h:MidU l0 l i j):l.length=l0.length:=h.1.length_eq
def zf(f:UInt32->Bool)(n:Nat):List UInt32:=((List.range n).filter fun i=>f (UInt32.ofNat i)).map UInt32.ofNat
theorem ti(f:UInt32->Bool)(n:Nat):(zf f n).length<=n:=by
 unfold zf;rw[df];exact bq (uj _ _) (by simp)
theorem H3{f:UInt32->Bool}{n:Nat}{x:UInt32}(hn:n<=4294967296):x∈zf f n↔f x=true/\x.toNat<n:=by
 unfold zf;simp only[List.mem_map,uh,ug]
 constructor
 ·rintro⟨i,⟨hi,hf⟩,rfl⟩;exact⟨hf,by rw[yw (show i<4294967296 by omega)];exact hi⟩
 ·rintro⟨h1,h2⟩;exact⟨x.toNat,⟨h2,by simpa using h1⟩,by simp⟩
theorem th(f:UInt32->Bool)(n:Nat)(hn:n<=4294967296):(zf f n).Pairwise (fun a b=>a<b):=by
 unfold zf;rw[tX];have h:(List.range n).Pairwise (·<·):=List.pairwise_lt_range;refine(h.filter _).imp_of_mem fun {a b} ha hb hab=>?_;have ha:=List.mem_range.1 (List.mem_filter.1 ha).1;have hb:=List.mem_range.1 (List.mem_filter.1 hb).1;rw[qw,yw (show a<4294967296 by omega),yw (show b<4294967296 by omega)];exact hab
theorem A1{f:UInt32->Bool}{n:Nat}{l:List UInt32}(hn:n<=4294967296)(hd:l.Nodup)(hm:∀x,x∈l↔f x=true)(hf:∀x,f x=true->x.toNat<n):nj l=zf f n:=by
 symm
 refine A2 ((yD ((th f n hn).imp fun {a b} h e=>by subst e;exact absurd h (UInt32.lt_irrefl _)) hd).2 fun x=>?_) ((th f n hn).imp fun {a b} h=>by simpa using UInt32.le_of_lt h);rw[H3 hn,hm x];exact⟨fun h=>h.1,fun h=>⟨h,hf x h⟩⟩
theorem ez(l:List UInt32)(i j:Nat)(hi:i<l.length)(hj:j<l.length):((l.set i (l.getD j 0)).set j (l.getD i 0)).Perm l:=by
 have e1:l.getD j 0=l[j]:=by simp[List.getD_eq_getElem?_getD,hj]
 have e2:l.getD i 0=l[i]:=by simp[List.getD_eq_getElem?_getD,hi]
 rw[e1,e2];exact List.set_set_perm hi hj
def SPm(v:Value)(l0:List UInt32)(w0 w:World):Prop:=∃l,Own w v l/\l.Perm l0/\Chg (ax v) w0 w
theorem SPm.start{v:Value}{l:List UInt32}{w:World}(h:Own w v l):SPm v l w w:=⟨l,h,.refl _,Chg.refl' _ _⟩
theorem SPm.chg0{v:Value}{l0:List UInt32}{w0 w w':World}(h:SPm v l0 w0 w)(hc:Chg [] w w'):SPm v l0 w0 w':=by
 obtain⟨l,h1,h2,h3⟩:=h;exact⟨l,h1.mod0 hc,h2,h3.tr0 hc⟩
theorem SPm.chg1{v:Value}{l0:List UInt32}{w0 w w':World}{b:Nat}(h:SPm v l0 w0 w)(hc:Chg [b] w w')(hn:b∉ax v)(hs:w0.heap.size<=b):SPm v l0 w0 w':=by
 obtain⟨l,h1,h2,h3⟩:=h;exact⟨l,h1.mod hc (fun x hx hh=>by simp at hh;subst hh;exact hn hx),h2,h3.tn hc hs⟩
theorem be4_inj{a b:UInt32}(h:be 4 a.toNat=be 4 b.toNat):a=b:=by
 have h1:=a.toNat_lt;have h2:=b.toNat_lt
 have:=congrArg dw h
 rw[gw,gw,fh (by omega),fh (by omega)] at this;exact UInt32.toNat_inj.1 this
theorem AB:∀{a b:List UInt32},kD a=kD b->a=b
 | [], [], _ => rfl
 | [], y :: b, h => by have := congrArg List.length h; rw [fo, fo] at this; simp at this
 | x :: a, [], h => by have := congrArg List.length h; rw [fo, fo] at this; simp at this
 | x :: a, y :: b, h => by
  have h':be 4 x.toNat++kD a=be 4 y.toNat++kD b:=h;obtain⟨h1,h2⟩:=List.append_inj h' (by rw[aL,aL]);rw[be4_inj h1,AB h2]
theorem brB_ids{ks ks':List Bs}{ids ids':List UInt32}(h:brB ks ids=brB ks' ids')(ok:brOk ks ids)(ok':brOk ks' ids'):ids=ids':=by
 obtain⟨_,l1,_,z1⟩:=ok;obtain⟨_,l2,_,z2⟩:=ok';unfold brZ at z1 z2;have h1:=(List.cons.inj h).2;obtain⟨h2,h3⟩:=List.append_inj h1 (by rw[aL,aL]);have hk:=congrArg dw h2;rw[gw,gw,fh (by omega),fh (by omega)] at hk;have hl:ids.length=ids'.length:=by omega
 have hlen:=congrArg List.length h3;rw[aF,aF,fo,fo,hl] at hlen;exact AB (List.append_inj h3 (by omega)).2
theorem jh{V:UInt32->Bs}:∀{d d':Nat} {id:UInt32} {pg pg':List UInt32} {m m':List Pr},isT V d id pg m->isT V d' id pg' m'->pg=pg'
 | 0, 0, _, _, _, _, _, ⟨h1, _⟩, ⟨h2, _⟩ => by rw [h1, h2]
 | 0, d' + 1, _, _, _, _, _, ⟨_, _, h1⟩, ⟨_, _, _, h2, _⟩ => by
  rw[h1] at h2
  have:=(List.cons.inj h2).1
  exact absurd this (by decide)
 | d + 1, 0, _, _, _, _, _, ⟨_, _, _, h2, _⟩, ⟨_, _, h1⟩ => by
  rw[h1] at h2
  have:=(List.cons.inj h2).1
  exact absurd this (by decide)
 | d + 1, d' + 1, id, _, _, _, _, ⟨ks, ts, h1, h2, h3, _, _, h6⟩, ⟨ks', ts', k1, k2, k3, _, _, k6⟩ => by
  have hids:=brB_ids (h2.symm.trans k2) h1 k1;have key:∀(ts ts':List Kd),bu ts=bu ts'->(∀t∈ts,isT V d t.1 t.2.1 t.2.2)->(∀t∈ts',isT V d' t.1 t.2.1 t.2.2)->pgT ts=pgT ts':=by
   intro ts
   induction ts with
   | nil =>
    intro ts' e _ _;cases ts' with
    | nil => rfl
    | cons => cases e
   | cons t ts ih =>
    intro ts' e q1 q2;cases ts' with
    | nil => cases e
    | cons t' ts' =>
     have e1:=(List.cons.inj e).1;have e2:=(List.cons.inj e).2;have hi:=q2 t' cK;have e1:t.1=t'.1:=e1;rw[<-e1] at hi;rw[eE,eE,jh (q1 t cK) hi,ih ts' e2 (fun t h=>q1 t (bN _ h)) (fun t h=>q2 t (bN _ h))]
  rw[h3,k3,key ts ts' hids (fun t h=>(h6 t h).1) (fun t h=>(k6 t h).1)]
theorem zt{V:UInt32->Bs}:∀{d:Nat} {id:UInt32} {pg:List UInt32} {m:List Pr},isT V d id pg m->∀x∈pg,∃d' pg' m',isT V d' x pg' m'/\∀y∈pg',y∈pg
 | 0, id, pg, m, h, x, hx => by
  have h1:=h.1;rw[h1] at hx;rw[g8] at hx;subst hx;exact⟨0,pg,m,h,fun y hy=>hy⟩
 | d + 1, id, pg, m, h, x, hx => by
  have hh:=h;obtain⟨ks,ts,h1,h2,h3,h4,h5,h6⟩:=hh;rw[h3] at hx;rcases List.mem_cons.1 hx with rfl|hx
  ·exact⟨d+1,pg,m,h,fun y hy=>hy⟩
  ·obtain⟨t,ht,hxt⟩:=List.mem_flatMap.1 hx;obtain⟨d',pg',m',q1,q2⟩:=zt (h6 t ht).1 x hxt;exact⟨d',pg',m',q1,fun y hy=>by rw[h3];exact bN _ (List.mem_flatMap.2 ⟨t,ht,q2 y hy⟩)⟩
def ClS(V:UInt32->Bs)(f:UInt32->Bool)(pg:List UInt32):Prop:=∀x∈pg,f x=true->∀d pg' m',isT V d x pg' m'->∀y∈pg',f y=true
theorem ClS.none(V:UInt32->Bs)(pg:List UInt32):ClS V (fun _=>false) pg:=fun _ _ h=>by cases h
theorem ClS.sub{V:UInt32->Bs}{f:UInt32->Bool}{pg pg':List UInt32}(h:ClS V f pg)(hs:∀x∈pg',x∈pg):ClS V f pg':=fun x hx=>h x (hs x hx)
theorem ClS.tree{V:UInt32->Bs}{f f':UInt32->Bool}{d:Nat}{id:UInt32}{pg q:List UInt32}{m:List Pr}(h:ClS V f q)(ht:isT V d id pg m)(hf:∀x,f' x=(f x||pg.elem x)):ClS V f' q:=fun x hx hfx d' pg' m' ht' y hy=>by
 rw[hf] at hfx ⊢;rcases Bool.or_eq_true_iff.1 hfx with g|g
 ·rw[h x hx g d' pg' m' ht' y hy];rfl
 ·obtain⟨d2,pg2,m2,h1,h2⟩:=zt ht x (by simpa using g)
  have:=jh ht' h1
  subst this
  have:pg.elem y=true:=by simpa using h2 y hy
  rw[this,Bool.or_true]
structure Wr where
 k:Bs
 v:Bs
 d:Bool
instance:Flat Wr:=⟨3,fun a=>[str a.k,str a.v,.bool a.d],fun _=>rfl,fun a x h=>by
 simp only[bV,dH,or_false] at h;rcases h with rfl|rfl|rfl <;> rfl⟩
abbrev Wr.pr(a:Wr):Pr:=(a.k,a.v)
def Wr.good(a:Wr):Bool:=decide (1<=a.k.length/\a.k.length<=60/\a.v.length<=150) && !(a.d&&decide (a.v≠[]))
def isB(l:List Wr):Bool:=l.all Wr.good&&decide (1<=l.length)&&decide (l.length<=40)
end Go.Sac
namespace Go.Sac
set_option maxRecDepth 100000
def kA:List UInt8:=0::1::List.replicate 30 0
def kB:List UInt8:=0::2::List.replicate 30 0
def FF:PgF:=eU lJ 0
def supK(c:UInt64)(e:UInt32):Sup:=⟨7,[109],FF,FF,c,e⟩
def H5:List UInt8:=1::List.replicate 49 0
def bytK(c e:Nat):List UInt8:=be 8 c++be 4 e++be 4 7++(be 2 1++[109])++H5++H5
end Go.Sac
namespace Go.Sac
open Go
theorem Ext.count{n:Nat}{P P':Pg}{V V':UInt32->Bs}{made:List UInt32}(h:Ext n P P' V V' made)(hn:n<=400):fZ P n<=fZ P' n+made.length:=by
 have hsub:∀i∈(List.range n).filter (fun i=>P.free (UInt32.ofNat i)),i∈(List.range n).filter (fun i=>P'.free (UInt32.ofNat i))++made.map (·.toNat):=fun i hi=>by
  rw[uh,ug] at hi;rw[fQ,uh,ug];by_cases hm:UInt32.ofNat i∈made
  ·refine .inr (List.mem_map.2 ⟨_,hm,?_⟩);rw[fF];omega
  ·exact .inl ⟨hi.1,h.free.2 ⟨hi.2,hm⟩⟩
 have hnd:((List.range n).filter fun i=>P.free (UInt32.ofNat i)).Nodup:=List.nodup_range.filter _
 have:=m5 _ _ hnd hsub
 rwa [aF,df] at this
def kv(x:Bs):Pr:=(x,118::x)
theorem GF{l:List Pr}(p:Pr)(hs:eF l):(fB l p).length=l.length+(!ft l p.1).toNat:=by
 cases h:ft l p.1 with
 | true => rw [vv hs h, gK]; rfl
 | false =>
  have:=u7 l p.1
  rw[nL hs h,aF,bY,bA,bD];show _=l.length+1;omega
theorem xI{l:List Pr}(p:Pr)(hs:eF l):(fB l p).length<=l.length+1:=by
 have h:=GF p hs
 have:(!ft l p.1).toNat<=1:=Bool.toNat_le _
 omega
theorem xT:∀{l:List Pr},(∀p∈l,p.1.length+p.2.length<=7)->cP l<=3+11*l.length
 | [], _ => by simp [cP]
 | p :: l, h => by
  have h1:=xT (l:=l) (fun q hq=>h q (bN _ hq));have h2:=h p cK;have h3:=ew [p] l;rw[iq,gN] at h3;rw[bY];omega
def scanL(m:List Pr)(lo hi:Bs)(most:Nat):List Pr:=(fK ⟨lo,hi,decide (hi≠[])⟩ m).take most
section
variable {P:Program}{E:Env}{w:World}{ty t u:TypeId}{x y:Operand}{a b:Pr}
end
instance:Flat UInt16:=⟨1,fun b=>[.int .u16 b.toNat],fun _=>rfl,fun _ v h=>by simp at h;subst h;rfl⟩
section
variable {P:Program}{E:Env}{w:World}{ty t u:TypeId}{x y:Operand}{k:IntKind}{a b:UInt16}
end
end Go.Sac
