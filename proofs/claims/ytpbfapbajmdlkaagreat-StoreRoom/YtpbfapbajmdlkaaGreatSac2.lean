/- As long as there is the room that the page says nothing is refused for want of it; on a small disk what is refused changes nothing. It holds for every input; there are no conditions. -/
import Derived.Test.YtpbfapbajmdlkaaGreatSac1
import Derived.Laws.Concat
import Derived.Test.YtpbfapbajmdlkaaGreatSac0
namespace Go.Sac
open Go
def nJ(l:List UInt32):List UInt32:=l.mergeSort λx y=>decide (x<=y)
theorem qg(l:List UInt32):(nJ l).Perm l:=yS l _
theorem rq(l:List UInt32):(nJ l).length=l.length:=(qg l).length_eq
theorem Ct(l:List UInt32):(nJ l).Pairwise (λa b=>decide (a<=b)=true) :=
 List.pairwise_mergeSort (λa b c h1 h2=>by simp only[decide_eq_true_eq] at *;exact UInt32.le_trans h1 h2)
  (λa b=>by simp only[mX,decide_eq_true_eq];exact UInt32.le_total a b) l
theorem Ax{l l':List UInt32}(hp:l'.Perm l)(hs:l'.Pairwise (λa b=>decide (a<=b)=true)):l'=nJ l:=by
 refine List.Perm.eq_of_pairwise (le:=λa b=>decide (a<=b)=true) (λa b _ _ h1 h2=>?_) hs (Ct l) (hp.trans (qg l).symm);simp only[decide_eq_true_eq] at h1 h2;exact UInt32.le_antisymm h1 h2
def tE(l:List UInt32)(j:Nat):List UInt32:=(l.set j (l.getD (j-1) 0)).set (j-1) (l.getD j 0)
theorem y5(l:List UInt32)(j a:Nat)(hj:0<j)(hl:j<l.length):(tE l j).getD a 0=if a=j-1 then l.getD j 0 else if a=j then l.getD (j-1) 0 else l.getD a 0:=by
 unfold tE;simp only[eN,yT,gV];by_cases h1:a=j-1
 ·subst h1;rw[if_pos rfl,if_pos (by omega),if_pos rfl,ze]
 ·have h1':¬j-1=a:=λe=>h1 e.symm;rw[if_neg h1',if_neg h1];by_cases h2:a=j
  ·subst h2;rw[if_pos rfl,if_pos rfl,if_pos hl,ze]
  ·have h2':¬j=a:=λe=>h2 e.symm;rw[if_neg h2',if_neg h2]
theorem zR{α:Type}(l:List α)(i j:Nat)(hi:i<l.length)(hj:j<l.length):((l.set i l[j]).set j l[i]).Perm l:=List.set_set_perm hi hj
theorem Cs(l:List UInt32)(j:Nat)(hl:j<l.length):(tE l j).Perm l:=by
 unfold tE;have h1:l.getD (j-1) 0=l[j-1]:=by rw[eN,bN (by omega)];rfl
 have h2:l.getD j 0=l[j]:=by rw[eN,bN hl];rfl
 rw[h1,h2];exact zR l j (j-1) hl (by omega)
def MidU(l0 l:List UInt32)(i j:Nat):Prop:=l.Perm l0/\∀a b,a<b->b<=i->b≠j->l.getD a 0<=l.getD b 0
def SrtU(l0 l:List UInt32)(i:Nat):Prop:=l.Perm l0/\∀a b,a<b->b<i->l.getD a 0<=l.getD b 0
theorem SrtU.mid{l0 l:List UInt32}{i:Nat}(h:SrtU l0 l i):MidU l0 l i i:=⟨h.1,λa b h1 h2 h3=>h.2 a b h1 (by omega)⟩
theorem MidU.swap{l0 l:List UInt32}{i j:Nat}(h:MidU l0 l i j)(hj:0<j)(hji:j<=i)(hl:i<l.length)(hlt:l.getD j 0<l.getD (j-1) 0):MidU l0 (tE l j) i (j-1):=by
 refine⟨(Cs l j (by omega)).trans h.1,λa b h1 h2 h3=>?_⟩;rw[y5 l j a hj (by omega),y5 l j b hj (by omega)];rw[if_neg h3];by_cases hb:b=j
 ·subst hb;rw[if_pos rfl];by_cases ha:a=b-1
  ·rw[if_pos ha];exact UInt32.le_of_lt hlt
  ·rw[if_neg ha,if_neg (by omega)];exact h.2 a (b-1) (by omega) (by omega) (by omega)
 ·rw[if_neg hb];by_cases ha:a=j-1
  ·rw[if_pos ha];exact h.2 j b (by omega) h2 hb
  ·rw[if_neg ha];by_cases ha':a=j
   ·rw[if_pos ha'];exact h.2 (j-1) b (by omega) h2 hb
   ·rw[if_neg ha'];exact h.2 a b h1 h2 hb
theorem MidU.done{l0 l:List UInt32}{i j:Nat}(h:MidU l0 l i j)(hji:j<=i)(hs:j=0∨¬l.getD j 0<l.getD (j-1) 0):SrtU l0 l (i+1):=by
 refine⟨h.1,λa b h1 h2=>?_⟩;by_cases hb:b=j
 ·subst hb;have hs:¬l.getD b 0<l.getD (b-1) 0:=hs.resolve_left (by omega);have hle:l.getD (b-1) 0<=l.getD b 0:=UInt32.not_lt.1 hs;by_cases ha:a=b-1
  ·rw[ha];exact hle
  ·exact UInt32.le_trans (h.2 a (b-1) (by omega) (by omega) (by omega)) hle
 ·exact h.2 a b h1 (by omega) hb
theorem SrtU.sort{l0 l:List UInt32}{i:Nat}(h:SrtU l0 l i)(hi:l.length<=i):l=nJ l0:=by
 refine Ax h.1 (List.pairwise_iff_getElem.2 λa b ha hb hab=>?_)
 have:=h.2 a b hab (by omega)
 rw[eN,eN,bN ha,bN hb] at this
 simpa using this
theorem SrtU.start(l:List UInt32):SrtU l l 1:=⟨.refl l,λa b h1 h2=>by omega⟩
theorem SrtU.length{l0 l:List UInt32}{i:Nat}(h:SrtU l0 l i):l.length=l0.length:=h.1.length_eq
theorem MidU.length{l0 l:List UInt32}{i j:Nat}(h:MidU l0 l i j):l.length=l0.length:=h.1.length_eq
def zP(f:UInt32->Bool)(n:Nat):List UInt32:=((List.range n).filter λi=>f (UInt32.ofNat i)).map UInt32.ofNat
theorem tI(f:UInt32->Bool)(n:Nat):(zP f n).length<=n:=by
 unfold zP;rw[dx];exact bm (uM _ _) (by simp)
theorem HB{f:UInt32->Bool}{n:Nat}{x:UInt32}(hn:n<=4294967296):x∈zP f n↔f x=true/\x.toNat<n:=by
 unfold zP;simp only[List.mem_map,uJ,uI]
 constructor
 ·rintro⟨i,⟨hi,hf⟩,rfl⟩;exact⟨hf,by rw[z8 (show i<4294967296 by omega)];exact hi⟩
 ·rintro⟨h1,h2⟩;exact⟨x.toNat,⟨h2,by simpa using h1⟩,by simp⟩
theorem tH(f:UInt32->Bool)(n:Nat)(hn:n<=4294967296):(zP f n).Pairwise (λa b=>a<b):=by
 unfold zP;rw[ur];have h:(List.range n).Pairwise (·<·):=List.pairwise_lt_range;refine(h.filter _).imp_of_mem λ{a b} ha hb hab=>?_;have ha:=List.mem_range.1 (List.mem_filter.1 ha).1;have hb:=List.mem_range.1 (List.mem_filter.1 hb).1;rw[qO,z8 (show a<4294967296 by omega),z8 (show b<4294967296 by omega)];exact hab
theorem Aw{f:UInt32->Bool}{n:Nat}{l:List UInt32}(hn:n<=4294967296)(hd:l.Nodup)(hm:∀x,x∈l↔f x=true)(hf:∀x,f x=true->x.toNat<n):nJ l=zP f n:=by
 symm
 refine Ax ((zh ((tH f n hn).imp λ{a b} h e=>by subst e;exact absurd h (UInt32.lt_irrefl _)) hd).2 λx=>?_) ((tH f n hn).imp λ{a b} h=>by simpa using UInt32.le_of_lt h);rw[HB hn,hm x];exact⟨λh=>h.1,λh=>⟨h,hf x h⟩⟩
theorem eK(l:List UInt32)(i j:Nat)(hi:i<l.length)(hj:j<l.length):((l.set i (l.getD j 0)).set j (l.getD i 0)).Perm l:=by
 have e1:l.getD j 0=l[j]:=by simp[List.getD_eq_getElem?_getD,hj]
 have e2:l.getD i 0=l[i]:=by simp[List.getD_eq_getElem?_getD,hi]
 rw[e1,e2];exact List.set_set_perm hi hj
def SPm(v:Value)(l0:List UInt32)(w0 w:World):Prop:=∃l,Own w v l/\l.Perm l0/\Chg (ay v) w0 w
theorem SPm.start{v:Value}{l:List UInt32}{w:World}(h:Own w v l):SPm v l w w:=⟨l,h,.refl _,Chg.refl' _ _⟩
theorem SPm.chg0{v:Value}{l0:List UInt32}{w0 w w':World}(h:SPm v l0 w0 w)(hc:Chg [] w w'):SPm v l0 w0 w':=by
 obtain⟨l,h1,h2,h3⟩:=h;exact⟨l,h1.mod0 hc,h2,h3.tr0 hc⟩
theorem SPm.chg1{v:Value}{l0:List UInt32}{w0 w w':World}{b:Nat}(h:SPm v l0 w0 w)(hc:Chg [b] w w')(hn:b∉ay v)(hs:w0.heap.size<=b):SPm v l0 w0 w':=by
 obtain⟨l,h1,h2,h3⟩:=h;exact⟨l,h1.mod hc (λx hx hh=>by simp at hh;subst hh;exact hn hx),h2,h3.tn hc hs⟩
theorem be4_inj{a b:UInt32}(h:be 4 a.toNat=be 4 b.toNat):a=b:=by
 have h1:=a.toNat_lt;have h2:=b.toNat_lt
 have:=congrArg dF h
 rw[gI,gI,fJ (by omega),fJ (by omega)] at this;exact UInt32.toNat_inj.1 this
theorem Bb:∀{a b:List UInt32},kS a=kS b->a=b
 | [], [], _ => rfl
 | [], y :: b, h => by have := congrArg List.length h; rw [fz, fz] at this; simp at this
 | x :: a, [], h => by have := congrArg List.length h; rw [fz, fz] at this; simp at this
 | x :: a, y :: b, h => by
  have h':be 4 x.toNat++kS a=be 4 y.toNat++kS b:=h;obtain⟨h1,h2⟩:=List.append_inj h' (by rw[aP,aP]);rw[be4_inj h1,Bb h2]
theorem brB_ids{ks ks':List Bs}{ids ids':List UInt32}(h:brB ks ids=brB ks' ids')(ok:brOk ks ids)(ok':brOk ks' ids'):ids=ids':=by
 obtain⟨_,l1,_,z1⟩:=ok;obtain⟨_,l2,_,z2⟩:=ok';unfold brZ at z1 z2;have h1:=(List.cons.inj h).2;obtain⟨h2,h3⟩:=List.append_inj h1 (by rw[aP,aP]);have hk:=congrArg dF h2;rw[gI,gI,fJ (by omega),fJ (by omega)] at hk;have hl:ids.length=ids'.length:=by omega
 have hlen:=congrArg List.length h3;rw[aF,aF,fz,fz,hl] at hlen;exact Bb (List.append_inj h3 (by omega)).2
theorem ix{V:UInt32->Bs}:∀{d d':Nat} {id:UInt32} {pg pg':List UInt32} {m m':List Pr},isT V d id pg m->isT V d' id pg' m'->pg=pg'
 | 0, 0, _, _, _, _, _, ⟨h1, _⟩, ⟨h2, _⟩ => by rw [h1, h2]
 | 0, d' + 1, _, _, _, _, _, ⟨_, _, h1⟩, ⟨_, _, _, h2, _⟩ => by
  rw[h1] at h2
  have:=(List.cons.inj h2).1
  exact absurd this (by decide)
 | d + 1, 0, _, _, _, _, _, ⟨_, _, _, h2, _⟩, ⟨_, _, h1⟩ => by
  rw[h1] at h2
  have:=(List.cons.inj h2).1
  exact absurd this (by decide)
 | d + 1, d' + 1, id, _, _, _, _, ⟨ks, ts, h1, h2, h3, _, _, h6⟩, ⟨ks', ts', k1, k2, k3, _, _, k6⟩ => by
  have hids:=brB_ids (h2.symm.trans k2) h1 k1;have key:∀(ts ts':List Kd),bu ts=bu ts'->(∀t∈ts,isT V d t.1 t.2.1 t.2.2)->(∀t∈ts',isT V d' t.1 t.2.1 t.2.2)->pgT ts=pgT ts':=by
   intro ts
   induction ts with
   | nil =>
    intro ts' e _ _;cases ts' with
    | nil => rfl
    | cons => cases e
   | cons t ts ih =>
    intro ts' e q1 q2;cases ts' with
    | nil => cases e
    | cons t' ts' =>
     have e1:=(List.cons.inj e).1;have e2:=(List.cons.inj e).2;have hi:=q2 t' cP;have e1:t.1=t'.1:=e1;rw[<-e1] at hi;rw[eQ,eQ,ix (q1 t cP) hi,ih ts' e2 (λt h=>q1 t (bO _ h)) (λt h=>q2 t (bO _ h))]
  rw[h3,k3,key ts ts' hids (λt h=>(h6 t h).1) (λt h=>(k6 t h).1)]
theorem zZ{V:UInt32->Bs}:∀{d:Nat} {id:UInt32} {pg:List UInt32} {m:List Pr},isT V d id pg m->∀x∈pg,∃d' pg' m',isT V d' x pg' m'/\∀y∈pg',y∈pg
 | 0, id, pg, m, h, x, hx => by
  have h1:=h.1;rw[h1] at hx;rw[gk] at hx;subst hx;exact⟨0,pg,m,h,λy hy=>hy⟩
 | d + 1, id, pg, m, h, x, hx => by
  have hh:=h;obtain⟨ks,ts,h1,h2,h3,h4,h5,h6⟩:=hh;rw[h3] at hx;rcases List.mem_cons.1 hx with rfl|hx
  ·exact⟨d+1,pg,m,h,λy hy=>hy⟩
  ·obtain⟨t,ht,hxt⟩:=List.mem_flatMap.1 hx;obtain⟨d',pg',m',q1,q2⟩:=zZ (h6 t ht).1 x hxt;exact⟨d',pg',m',q1,λy hy=>by rw[h3];exact bO _ (List.mem_flatMap.2 ⟨t,ht,q2 y hy⟩)⟩
def ClS(V:UInt32->Bs)(f:UInt32->Bool)(pg:List UInt32):Prop:=∀x∈pg,f x=true->∀d pg' m',isT V d x pg' m'->∀y∈pg',f y=true
theorem ClS.none(V:UInt32->Bs)(pg:List UInt32):ClS V (λ_=>false) pg:=λ_ _ h=>by cases h
theorem ClS.sub{V:UInt32->Bs}{f:UInt32->Bool}{pg pg':List UInt32}(h:ClS V f pg)(hs:∀x∈pg',x∈pg):ClS V f pg':=λx hx=>h x (hs x hx)
theorem ClS.tree{V:UInt32->Bs}{f f':UInt32->Bool}{d:Nat}{id:UInt32}{pg q:List UInt32}{m:List Pr}(h:ClS V f q)(ht:isT V d id pg m)(hf:∀x,f' x=(f x||pg.elem x)):ClS V f' q:=λx hx hfx d' pg' m' ht' y hy=>by
 rw[hf] at hfx ⊢;rcases Bool.or_eq_true_iff.1 hfx with g|g
 ·rw[h x hx g d' pg' m' ht' y hy];rfl
 ·obtain⟨d2,pg2,m2,h1,h2⟩:=zZ ht x (by simpa using g)
  have:=ix ht' h1
  subst this
  have:pg.elem y=true:=by simpa using h2 y hy
  rw[this,Bool.or_true]
structure Wr where
 k:Bs
 v:Bs
 d:Bool
instance:Flat Wr:=⟨3,λa=>[str a.k,str a.v,.bool a.d],λ_=>rfl,λa x h=>by
 simp only[bZ,dH,or_false] at h;rcases h with rfl|rfl|rfl <;> rfl⟩
abbrev Wr.pr(a:Wr):Pr:=(a.k,a.v)
def Wr.good(a:Wr):Bool:=decide (1<=a.k.length/\a.k.length<=60/\a.v.length<=150) && !(a.d&&decide (a.v≠[]))
def isB(l:List Wr):Bool:=l.all Wr.good&&decide (1<=l.length)&&decide (l.length<=40)
end Go.Sac
namespace Go.Sac
set_option maxRecDepth 100000
def kA:List UInt8:=0::1::List.replicate 30 0
def kB:List UInt8:=0::2::List.replicate 30 0
def Gc:PgF:=fb kz 0
def supK(c:UInt64)(e:UInt32):Sup:=⟨7,[109],Gc,Gc,c,e⟩
def HD:List UInt8:=1::List.replicate 49 0
def bytK(c e:Nat):List UInt8:=be 8 c++be 4 e++be 4 7++(be 2 1++[109])++HD++HD
end Go.Sac
namespace Go.Sac
open Go
theorem Ext.count{n:Nat}{P P':Pg}{V V':UInt32->Bs}{made:List UInt32}(h:Ext n P P' V V' made)(hn:n<=400):fS P n<=fS P' n+made.length:=by
 have hsub:∀i∈(List.range n).filter (λi=>P.free (UInt32.ofNat i)),i∈(List.range n).filter (λi=>P'.free (UInt32.ofNat i))++made.map (·.toNat):=λi hi=>by
  rw[uJ,uI] at hi;rw[fZ,uJ,uI];by_cases hm:UInt32.ofNat i∈made
  ·refine .inr (List.mem_map.2 ⟨_,hm,?_⟩);rw[fO];omega
  ·exact .inl ⟨hi.1,h.free.2 ⟨hi.2,hm⟩⟩
 have hnd:((List.range n).filter λi=>P.free (UInt32.ofNat i)).Nodup:=List.nodup_range.filter _
 have:=mG _ _ hnd hsub
 rwa [aF,dx] at this
def kv(x:Bs):Pr:=(x,118::x)
theorem Hd{l:List Pr}(p:Pr)(hs:ej l):(g9 l p).length=l.length+(!fC l p.1).toNat:=by
 cases h:fC l p.1 with
 | true => rw [vS hs h, gV]; rfl
 | false =>
  have:=uB l p.1
  rw[od hs h,aF,cf,bz,bG];show _=l.length+1;omega
theorem yb{l:List Pr}(p:Pr)(hs:ej l):(g9 l p).length<=l.length+1:=by
 have h:=Hd p hs
 have:(!fC l p.1).toNat<=1:=Bool.toNat_le _
 omega
theorem yq:∀{l:List Pr},(∀p∈l,p.1.length+p.2.length<=7)->cY l<=3+11*l.length
 | [], _ => by simp [cY]
 | p :: l, h => by
  have h1:=yq (l:=l) (λq hq=>h q (bO _ hq));have h2:=h p cP;have h3:=eH [p] l;rw[iI,gY] at h3;rw[cf];omega
def vH(m:List Pr)(lo hi:Bs)(most:Nat):List Pr:=(fR ⟨lo,hi,decide (hi≠[])⟩ m).take most
theorem F2(m:List Pr)(n:Nat):vH m [] [] n=m.take n:=by
 unfold vH;congr 1;exact fG (λp _=>by simp[Sp.has,uC])
theorem tG{m:List Pr}{n:Nat}(h:m.length<=n):vH m [] [] n=m:=by
 rw[F2,cd h]
section
variable {P:Program}{E:Env}{w:World}{ty t u:TypeId}{x y:Operand}{a b:Pr}
theorem zI{f g : Field}(hu : P.underlying t = some (.struct #[f, g]))(hp : P.stoodInHeld t = false)(hn1 : f.name ≠ "_")(hn2 : g.name ≠ "_")(ho1 : f.offset = 0)(ho2 : g.offset = 1)(h1 : P.underlying f.type = some .string)(h2 : P.underlying g.type = some .string) :
  (Op.equalIn 10000 t (.agg #[str a.1,str a.2]) (.agg #[str b.1,str b.2])).run P w=.ok (decide (a=b)) w:=by
 have hfs:P.fieldsOf t=#[f,g]:=by unfold Program.fieldsOf;rw[hu]
 have hf:(P.fieldsOf t).toList=[f,g]:=by rw[hfs]
 rw[run_equalIn_agg w 9999 t _ _ (by rw[hfs];exact hu) hp,hf];unfold Op.eqFields;rw[if_pos hn1,ho1,au (jI (v:=str a.1) h1 O O),au (jI (v:=str b.1) h1 O O),au (run_equalIn_string w 9998 f.type _ _ h1)];rw[yC];unfold Op.eqFields;by_cases e1:a.1=b.1
 ·rw[if_neg (by simp[e1]),if_pos hn2,ho2,au (jI (v:=str a.2) h2 O O),au (jI (v:=str b.2) h2 O O),au (run_equalIn_string w 9998 g.type _ _ h2)];rw[yC];by_cases e2:a.2=b.2
  ·rw[if_neg (by simp[e2])]
   have:a=b:=Prod.ext e1 e2
   rw[decide_eq_true this];rfl
  ·rw[if_pos (by simp[e2])]
   have:a≠b:=λh=>e2 (by rw[h])
   rw[decide_eq_false this];rfl
 ·rw[if_pos (by simp[e1])]
  have:a≠b:=λh=>e1 (by rw[h])
  rw[decide_eq_false this];rfl
theorem x_nePr{f g : Field}(hx : ev E x = .agg #[str a.1, str a.2])(hy : ev E y = .agg #[str b.1, str b.2])(hg : P.eqGuardType P.depth t = false)(hu : P.underlying t = some (.struct #[f, g]))(hp : P.stoodInHeld t = false)(hn1 : f.name ≠ "_")(hn2 : g.name ≠ "_")(ho1 : f.offset = 0)(ho2 : g.offset = 1)(h1 : P.underlying f.type = some .string)(h2 : P.underlying g.type = some .string) :
  exec P E (.binOp .neq t x y u) ty w=.ok (.value (.bool (decide (a≠b)))) w:=by
 rw[oB,hx,hy];refine bh ?_;rw[au (run_eqGuard_agg w .neq t x y _ _ hg)];rw[run_neq_struct,zI hu hp hn1 hn2 ho1 ho2 h1 h2];simp
end
instance:Flat UInt16:=⟨1,λb=>[.int .u16 b.toNat],λ_=>rfl,λ_ v h=>by simp at h;subst h;rfl⟩
section
variable {P:Program}{E:Env}{w:World}{ty t u:TypeId}{x y:Operand}{k:IntKind}{a b:UInt16}
end
end Go.Sac
namespace Go.Sac
open Go Go.ChangeShapes
theorem rd_wr{P:Program}{t ts tb:TypeId}{f0 f1 f2:Field}(ht:P.underlying t=some (.struct #[f0,f1,f2]))(hn:P.cellsOf t=3)
  (h0:f0.type=ts) (h1:f1.type=ts) (h2:f2.type=tb) (o0:f0.offset=0) (o1:f1.offset=1) (o2:f2.offset=2)
  (cs':P.cellsOf ts=1) (cb:P.cellsOf tb=1) (hs:P.underlying ts=some .string) (hb:P.underlying tb=some .bool):RdF P t Wr okT:=by
 intro H enc w base sp held fuel cs x h;obtain⟨xs,n,rfl,_,hlen,hxl,hf⟩:=DataW.trod_struct ht h;rw[hn] at hlen;obtain⟨a,cs,rfl⟩:=BW (l:=cs) (n:=2) hlen;obtain⟨b,cs,rfl⟩:=BW (l:=cs) (by simpa using hlen);obtain⟨c,cs,rfl⟩:=BW (l:=cs) (by simpa using hlen);obtain rfl:cs=[]:=kq (by simpa using hlen);have hx:∀i,i<3->∃y,xs[i]?=some y:=λi hi=>⟨xs[i]'(by rw[hxl];exact hi),bN _⟩
 have e0:=hf 0 f0 rfl;have e1:=hf 1 f1 rfl;have e2:=hf 2 f2 rfl;rw[h0,o0,cs'] at e0;rw[h1,o1,cs'] at e1;rw[h2,o2,cb] at e2;obtain⟨y0,hy0⟩:=hx 0 (by decide);obtain⟨y1,hy1⟩:=hx 1 (by decide);obtain⟨y2,hy2⟩:=hx 2 (by decide);obtain⟨s0,k0,_,_⟩:=DataW.trod_string hs (e0.trans hy0);obtain⟨s1,k1,_,_⟩:=DataW.trod_string hs (e1.trans hy1);obtain⟨v2,k2,_⟩:=rd_bool hb (e2.trans hy2);refine⟨⟨s0.data.toList,s1.data.toList,v2⟩,?_,trivial⟩;have q0:a=.string s0:=by injection k0
 have q1:b=.string s1:=by injection k1
 have q2:c=.bool v2:=by injection k2
 rw[q0,q1,q2];rfl
theorem Hs{α:Type}[Flat α]{ok:World->α->Prop}{P:Program}{H:Type}{enc:TypeId×Value->H}{W:World}{base b0:Nat}{r:Reach}{t te:TypeId}{v:Value}{d:DataW H}{ps:List MemPlace}{sp:Nat->Bool}{held:Bool}
  (R:RdF P te α ok) (ht:P.underlying t=some (.slice te)) (hc:P.cellsOf te=Flat.sz α) (hval:Value.okWide P W r b0 t v) (hd:DataW.Trod enc P W base sp held t v d ps) :
  ∃l:List α,Sl W v l/\l.length<=maxLen:=by
 obtain⟨l,hl,_⟩:=open_sl R ht hc hval hd;refine⟨l,hl,?_⟩;obtain⟨p,c,rfl,_,_⟩:=hl;obtain⟨fuel,hf⟩:=hd;rcases DataW.trod_slice ht hf with⟨hcs,_⟩|⟨a,len,cap,elems,rest,n,_,hcs,_,hb,hlc,hcm,_,_,_,_⟩
 ·simp only[Value.cells,qa,Value.slice.injEq,and_true] at hcs;rw[hcs.2.1];exact en _
 ·simp only[Value.cells,qa,Value.slice.injEq,and_true] at hcs;rw[hcs.2.1];omega
end Go.Sac
