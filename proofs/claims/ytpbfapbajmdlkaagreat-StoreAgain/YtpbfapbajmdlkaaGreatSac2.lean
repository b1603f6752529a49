/- Opened as often as one likes, by whatever key it was made, it is as it was; made anew it is empty. It holds for every input; there are no conditions. -/
import Derived.Test.YtpbfapbajmdlkaaGreatSac1
import Derived.Lib.SlKeysI
import Derived.RangeFuncGives
import Derived.Maps.RangeWalk
import Derived.Maps.Keyed
import Derived.Laws.Concat
import Derived.Test.YtpbfapbajmdlkaaGreatSac0
namespace Go.Sac
open Go Go.Maps Go.Proofs
abbrev kQ(q:IntKind):Int->Value:=Value.int q
theorem Bh{q:IntKind}{x y:Int}(h:kQ q x=kQ q y):x=y:=by simpa [kQ] using h
theorem CC{H:Type}(q:IntKind){es:List (Lit×DataW H)}(hp:es.Pairwise (λp q=>p.1≠q.1))(hk:∀p∈es,∃x,p.1=.int q x){ss:List Int}(hnd:ss.Nodup)
  (hm:∀x,x∈ss↔has (.map es) (.int q x)=true):ss.Perm (intKeys (.map es)):=by
 refine(zf hnd ?_).2 λx=>?_
 ·show(es.map λp=>intOf p.1).Nodup;refine List.pairwise_map.2 (hp.imp_of_mem λ{p q} hp' hq' hne e=>hne ?_);obtain⟨a,ha⟩:=hk p hp';obtain⟨b,hb⟩:=hk q hq';rw[ha,hb] at e ⊢;exact congrArg _ e
 ·rw[hm x,has_eq,List.any_eq_true];show _↔x∈es.map λp=>intOf p.1;rw[List.mem_map]
  constructor
  ·rintro⟨p,hp',hs⟩;obtain⟨a,ha⟩:=hk p hp';rw[ha] at hs;exact⟨p,hp',by rw[ha];simpa [Lit.sameKey,intOf] using hs⟩
  ·rintro⟨p,hp',rfl⟩;obtain⟨a,ha⟩:=hk p hp';exact⟨p,hp',by rw[ha];simp[Lit.sameKey,intOf]⟩
def Came{H:Type}(q:IntKind)(D0:DataW H)(left:Lit->Bool)(ss:List Int):Prop:=ss.Nodup/\∀x,x∈ss↔(has D0 (.int q x)=true/\left (.int q x)=false)
section
variable {H:Type}{q:IntKind}{D0:DataW H}{left:Lit->Bool}{ss:List Int}
theorem Came.start(q:IntKind)(D0:DataW H):Came q D0 (has D0) []:=⟨kG,λx=>by cases has D0 (.int q x) <;> simp⟩
theorem Came.step(h:Came q D0 left ss){x:Int}{y:DataW H}(hlk:left (.int q x)=true)(hat:∀zd,D0.atKey (.int q x) zd=y):Came q D0 (λz=>left z && !z.sameKey (.int q x)) (ss++[x]):=by
 have hhas:has D0 (.int q x)=true:=has_true_of_atKey hat
 have hnew:x∉ss:=λhx=>by have:=((h.2 x).1 hx).2;rw[hlk] at this;cases this
 refine⟨List.nodup_append.2 ⟨h.1,by simp,λa ha b hb=>by simp at hb;subst hb;exact λe=>hnew (e▸ha)⟩,λy=>?_⟩;by_cases hy:y=x
 ·subst hy;simp[hhas,Lit.sameKey]
 ·simp[h.2 y,hy,Lit.sameKey]
variable {P:Program}{k:TypeId}{R:Value->Option (DataW H×List MemPlace)}{w:World}{b n:Nat}
theorem Came.perm(h:Came q D0 left ss)(hown:w.ownsMap P k R b n D0)(K:Keyed P k)(hk:P.underlying k=some (.int q))(hl:∀kl,left kl=false):ss.Perm (intKeys D0):=by
 obtain⟨es,hD,hpw,_⟩:=hown.entries K;obtain⟨es',hD',hko⟩:=hown.keysOf;obtain rfl:es=es':=by rw[hD] at hD';simpa using hD'
 subst hD;exact CC q hpw (λp hp=>by obtain⟨v,hv⟩:=hko p hp;obtain⟨x,_,hx,_⟩:=Maps.keyOf_int_inv hk hv;exact⟨x,hx⟩) h.1 (λx=>by rw[h.2 x,hl];simp)
end
theorem pH{P:Program}{kt:TypeId}{w:World}{r:Nat}{m:List (UInt32×Value)}(hk:P.underlying kt=some (.int .u32))(hm:MapAt w r m)(hl:m.length<=maxLen) :
  ∃D0:DataW Unit,w.ownsMap P kt (λ_=>some (.lit (.bool true),[])) r m.length D0/\(intKeys D0).Perm (m.map λp=>(p.1.toNat:Int))/\Maps.size D0=m.length:=by
 obtain⟨es,cl,hb,he,hn,hbn,hlt⟩:=hm;have hlen:es.size=m.length:=by have:=congrArg List.length he;simpa using this
 have hkey:∀a:UInt32,keyOf P kt (.int .u32 a.toNat)=some (.int .u32 a.toNat):=λa=>by
  unfold keyOf;rw[hk];simp only[mapKey,hk];have h1:IntKind.u32.min=0:=by decide
  have h2:IntKind.u32.max=4294967295:=by decide
  have h3:=a.toNat_lt;have hw:(Lit.int .u32 (a.toNat:Int)).wf=true:=by
   simp only[Lit.wf,j9,decide_eq_true_eq,h1,h2];omega
  simp[hw]
 have hes:∀x∈es.toList,∃a:UInt32,x.key=.int .u32 a.toNat:=λx hx=>by
  have h1:(x.key,x.val)∈es.toList.map (λe=>(e.key,e.val)):=List.mem_map.2 ⟨x,hx,rfl⟩;rw[he] at h1;obtain⟨p,hp,h2⟩:=List.mem_map.1 h1;simp only[lC] at h2;exact⟨p.1,h2.1.symm⟩
 have hF:WideElems.Fit P kt (λ_=>some ((.lit (.bool true):DataW Unit),[])) es cl:=by
  refine⟨by omega,⟨hlt,hbn,?_⟩,λx hx=>?_⟩
  ·rw[oY he];unfold List.Nodup at hn ⊢;rw[ur];exact hn.imp (λh e=>h (Key.inj _ _ e))
  ·obtain⟨a,ha⟩:=hes x hx;exact⟨(.int .u32 a.toNat,.lit (.bool true)),by simp[WideElems.rd,ha,hkey a]⟩
 refine⟨_,⟨es,cl,hb,hF,by omega,rfl⟩,?_,?_⟩
 ·have hp:=(Go.WideShapes.sorted_perm (es.toList.map (WideElems.rg P kt (λ_=>some ((.lit (.bool true):DataW Unit),[]))))).map (λp=>intOf p.1);refine hp.trans (List.Perm.of_eq ?_);rw[fH];have h3:es.toList.map ((λp:Lit×DataW Unit=>intOf p.1) ∘ WideElems.rg P kt (λ_=>some ((.lit (.bool true):DataW Unit),[])))=es.toList.map (λe=>match e.key with|.int _ a=>a|_=>0):=by
   apply sy;intro x hx;obtain⟨a,ha⟩:=hes x hx;simp[WideElems.rg,WideElems.rd,ha,hkey a,intOf]
  rw[h3];have h4:es.toList.map (λe=>match e.key with|.int _ a=>a|_=>0)=(es.toList.map (λe=>(e.key,e.val))).map (λp=>match p.1 with|.int _ a=>a|_=>0):=by
   rw[fH];rfl
  rw[h4,he,fH];apply sy;intro p _;rfl
 ·simp[Maps.size,length_sorted,hlen]
theorem rG{ss:List Int}{ks:List UInt32}(h:ss.Perm (ks.map λp=>(p.toNat:Int))):∃l:List UInt32,l.Perm ks/\ss=l.map λp=>(p.toNat:Int):=by
 have hi:∀k:UInt32,UInt32.ofNat ((k.toNat:Int).toNat)=k:=λk=>by simp
 refine⟨ss.map λz=>UInt32.ofNat z.toNat,?_,?_⟩
 ·have:=h.map λz=>UInt32.ofNat z.toNat
  rw[fH] at this;refine this.trans (List.Perm.of_eq ?_)
  conv=>rhs;rw[<-List.map_id ks]
  exact sy λk _=>hi k
 ·rw[fH]
  conv=>lhs;rw[<-List.map_id ss]
  refine sy λz hz=>?_;obtain⟨k,_,rfl⟩:=List.mem_map.1 (h.mem_iff.1 hz);show(k.toNat:Int)=((UInt32.ofNat ((k.toNat:Int).toNat)).toNat:Int)
  rw[hi]
theorem tK{w:World}{base:Nat}{e:TypeId}{v:Value}{l:List UInt32}(h:w.ownsRow base e 1 v l.length (l.map λx=>Value.int .u32 x.toNat)) :
  Own w v l/\In v [] base:=by
 obtain⟨_,h⟩:=h;have he:bl l=l.map λ(x:UInt32)=>Value.int .u32 (x.toNat:Int):=Bi (λ(x:UInt32)=>Value.int .u32 (x.toNat:Int)) (λ_=>rfl) l;rcases h with⟨rfl,h0⟩|⟨g,cap,cur,rfl,hb,hblk,hn,hcap,hcs,hx⟩
 ·have:l=[]:=kj h0
  subst this;exact⟨Own.nil w,In.nil⟩
 ·refine⟨⟨some ⟨g,0,none⟩,cap,rfl,hn,rfl,cur,e,(0,0),hblk,jc _,?_,λi x hi=>?_⟩,In.of_ge hb⟩
  ·show 0+cap*1<=cur.size;omega
  ·rw[he,<-hx] at hi;have h1:=ki (l:=cur.toList) (i:=l.length*1) (j:=i);rw[h1] at hi
   split at hi
   ·simp only[jO]
    simpa using hi
   ·cases hi
end Go.Sac
namespace Go.Sac
open Go
def nE(l:List UInt32):List UInt32:=l.mergeSort λx y=>decide (x<=y)
theorem qa(l:List UInt32):(nE l).Perm l:=yR l _
theorem rl(l:List UInt32):(nE l).length=l.length:=(qa l).length_eq
theorem Co(l:List UInt32):(nE l).Pairwise (λa b=>decide (a<=b)=true) :=
 List.pairwise_mergeSort (λa b c h1 h2=>by simp only[decide_eq_true_eq] at *;exact UInt32.le_trans h1 h2)
  (λa b=>by simp only[mR,decide_eq_true_eq];exact UInt32.le_total a b) l
theorem Au{l l':List UInt32}(hp:l'.Perm l)(hs:l'.Pairwise (λa b=>decide (a<=b)=true)):l'=nE l:=by
 refine List.Perm.eq_of_pairwise (le:=λa b=>decide (a<=b)=true) (λa b _ _ h1 h2=>?_) hs (Co l) (hp.trans (qa l).symm);simp only[decide_eq_true_eq] at h1 h2;exact UInt32.le_antisymm h1 h2
def tE(l:List UInt32)(j:Nat):List UInt32:=(l.set j (l.getD (j-1) 0)).set (j-1) (l.getD j 0)
theorem y3(l:List UInt32)(j a:Nat)(hj:0<j)(hl:j<l.length):(tE l j).getD a 0=if a=j-1 then l.getD j 0 else if a=j then l.getD (j-1) 0 else l.getD a 0:=by
 unfold tE;simp only[eI,yS,gR];by_cases h1:a=j-1
 ·subst h1;rw[if_pos rfl,if_pos (by omega),if_pos rfl,zb]
 ·have h1':¬j-1=a:=λe=>h1 e.symm;rw[if_neg h1',if_neg h1];by_cases h2:a=j
  ·subst h2;rw[if_pos rfl,if_pos rfl,if_pos hl,zb]
  ·have h2':¬j=a:=λe=>h2 e.symm;rw[if_neg h2',if_neg h2]
theorem zP{α:Type}(l:List α)(i j:Nat)(hi:i<l.length)(hj:j<l.length):((l.set i l[j]).set j l[i]).Perm l:=List.set_set_perm hi hj
theorem Cm(l:List UInt32)(j:Nat)(hl:j<l.length):(tE l j).Perm l:=by
 unfold tE;have h1:l.getD (j-1) 0=l[j-1]:=by rw[eI,bM (by omega)];rfl
 have h2:l.getD j 0=l[j]:=by rw[eI,bM hl];rfl
 rw[h1,h2];exact zP l j (j-1) hl (by omega)
def MidU(l0 l:List UInt32)(i j:Nat):Prop:=l.Perm l0/\∀a b,a<b->b<=i->b≠j->l.getD a 0<=l.getD b 0
def SrtU(l0 l:List UInt32)(i:Nat):Prop:=l.Perm l0/\∀a b,a<b->b<i->l.getD a 0<=l.getD b 0
theorem SrtU.mid{l0 l:List UInt32}{i:Nat}(h:SrtU l0 l i):MidU l0 l i i:=⟨h.1,λa b h1 h2 h3=>h.2 a b h1 (by omega)⟩
theorem MidU.swap{l0 l:List UInt32}{i j:Nat}(h:MidU l0 l i j)(hj:0<j)(hji:j<=i)(hl:i<l.length)(hlt:l.getD j 0<l.getD (j-1) 0):MidU l0 (tE l j) i (j-1):=by
 refine⟨(Cm l j (by omega)).trans h.1,λa b h1 h2 h3=>?_⟩;rw[y3 l j a hj (by omega),y3 l j b hj (by omega)];rw[if_neg h3];by_cases hb:b=j
 ·subst hb;rw[if_pos rfl];by_cases ha:a=b-1
  ·rw[if_pos ha];exact UInt32.le_of_lt hlt
  ·rw[if_neg ha,if_neg (by omega)];exact h.2 a (b-1) (by omega) (by omega) (by omega)
 ·rw[if_neg hb];by_cases ha:a=j-1
  ·rw[if_pos ha];exact h.2 j b (by omega) h2 hb
  ·rw[if_neg ha];by_cases ha':a=j
   ·rw[if_pos ha'];exact h.2 (j-1) b (by omega) h2 hb
   ·rw[if_neg ha'];exact h.2 a b h1 h2 hb
theorem MidU.done{l0 l:List UInt32}{i j:Nat}(h:MidU l0 l i j)(hji:j<=i)(hs:j=0∨¬l.getD j 0<l.getD (j-1) 0):SrtU l0 l (i+1):=by
 refine⟨h.1,λa b h1 h2=>?_⟩;by_cases hb:b=j
 ·subst hb;have hs:¬l.getD b 0<l.getD (b-1) 0:=hs.resolve_left (by omega);have hle:l.getD (b-1) 0<=l.getD b 0:=UInt32.not_lt.1 hs;by_cases ha:a=b-1
  ·rw[ha];exact hle
  ·exact UInt32.le_trans (h.2 a (b-1) (by omega) (by omega) (by omega)) hle
 ·exact h.2 a b h1 (by omega) hb
theorem SrtU.sort{l0 l:List UInt32}{i:Nat}(h:SrtU l0 l i)(hi:l.length<=i):l=nE l0:=by
 refine Au h.1 (List.pairwise_iff_getElem.2 λa b ha hb hab=>?_)
 have:=h.2 a b hab (by omega)
 rw[eI,eI,bM ha,bM hb] at this
 simpa using this
theorem SrtU.start(l:List UInt32):SrtU l l 1:=⟨.refl l,λa b h1 h2=>by omega⟩
theorem SrtU.length{l0 l:List UInt32}{i:Nat}(h:SrtU l0 l i):l.length=l0.length:=h.1.length_eq
theorem MidU.length{l0 l:List UInt32}{i j:Nat}(h:MidU l0 l i j):l.length=l0.length:=h.1.length_eq
def zN(f:UInt32->Bool)(n:Nat):List UInt32:=((List.range n).filter λi=>f (UInt32.ofNat i)).map UInt32.ofNat
theorem tI(f:UInt32->Bool)(n:Nat):(zN f n).length<=n:=by
 unfold zN;rw[dr];exact bw (uL _ _) (by simp)
theorem Hy{f:UInt32->Bool}{n:Nat}{x:UInt32}(hn:n<=4294967296):x∈zN f n↔f x=true/\x.toNat<n:=by
 unfold zN;simp only[List.mem_map,uI,uH]
 constructor
 ·rintro⟨i,⟨hi,hf⟩,rfl⟩;exact⟨hf,by rw[z6 (show i<4294967296 by omega)];exact hi⟩
 ·rintro⟨h1,h2⟩;exact⟨x.toNat,⟨h2,by simpa using h1⟩,by simp⟩
theorem tH(f:UInt32->Bool)(n:Nat)(hn:n<=4294967296):(zN f n).Pairwise (λa b=>a<b):=by
 unfold zN;rw[ur];have h:(List.range n).Pairwise (·<·):=List.pairwise_lt_range;refine(h.filter _).imp_of_mem λ{a b} ha hb hab=>?_;have ha:=List.mem_range.1 (List.mem_filter.1 ha).1;have hb:=List.mem_range.1 (List.mem_filter.1 hb).1;rw[qJ,z6 (show a<4294967296 by omega),z6 (show b<4294967296 by omega)];exact hab
theorem As{f:UInt32->Bool}{n:Nat}{l:List UInt32}(hn:n<=4294967296)(hd:l.Nodup)(hm:∀x,x∈l↔f x=true)(hf:∀x,f x=true->x.toNat<n):nE l=zN f n:=by
 symm
 refine Au ((zf ((tH f n hn).imp λ{a b} h e=>by subst e;exact absurd h (UInt32.lt_irrefl _)) hd).2 λx=>?_) ((tH f n hn).imp λ{a b} h=>by simpa using UInt32.le_of_lt h);rw[Hy hn,hm x];exact⟨λh=>h.1,λh=>⟨h,hf x h⟩⟩
theorem eF(l:List UInt32)(i j:Nat)(hi:i<l.length)(hj:j<l.length):((l.set i (l.getD j 0)).set j (l.getD i 0)).Perm l:=by
 have e1:l.getD j 0=l[j]:=by simp[List.getD_eq_getElem?_getD,hj]
 have e2:l.getD i 0=l[i]:=by simp[List.getD_eq_getElem?_getD,hi]
 rw[e1,e2];exact List.set_set_perm hi hj
def SPm(v:Value)(l0:List UInt32)(w0 w:World):Prop:=∃l,Own w v l/\l.Perm l0/\Chg (ay v) w0 w
theorem SPm.start{v:Value}{l:List UInt32}{w:World}(h:Own w v l):SPm v l w w:=⟨l,h,.refl _,Chg.refl' _ _⟩
theorem SPm.chg0{v:Value}{l0:List UInt32}{w0 w w':World}(h:SPm v l0 w0 w)(hc:Chg [] w w'):SPm v l0 w0 w':=by
 obtain⟨l,h1,h2,h3⟩:=h;exact⟨l,h1.mod0 hc,h2,h3.tr0 hc⟩
theorem SPm.chg1{v:Value}{l0:List UInt32}{w0 w w':World}{b:Nat}(h:SPm v l0 w0 w)(hc:Chg [b] w w')(hn:b∉ay v)(hs:w0.heap.size<=b):SPm v l0 w0 w':=by
 obtain⟨l,h1,h2,h3⟩:=h;exact⟨l,h1.mod hc (λx hx hh=>by simp at hh;subst hh;exact hn hx),h2,h3.tn hc hs⟩
theorem be4_inj{a b:UInt32}(h:be 4 a.toNat=be 4 b.toNat):a=b:=by
 have h1:=a.toNat_lt;have h2:=b.toNat_lt
 have:=congrArg dB h
 rw[gF,gF,fp (by omega),fp (by omega)] at this;exact UInt32.toNat_inj.1 this
theorem B5:∀{a b:List UInt32},kP a=kP b->a=b
 | [], [], _ => rfl
 | [], y :: b, h => by have := congrArg List.length h; rw [fx, fx] at this; simp at this
 | x :: a, [], h => by have := congrArg List.length h; rw [fx, fx] at this; simp at this
 | x :: a, y :: b, h => by
  have h':be 4 x.toNat++kP a=be 4 y.toNat++kP b:=h;obtain⟨h1,h2⟩:=List.append_inj h' (by rw[aP,aP]);rw[be4_inj h1,B5 h2]
theorem brB_ids{ks ks':List Bs}{ids ids':List UInt32}(h:brB ks ids=brB ks' ids')(ok:brOk ks ids)(ok':brOk ks' ids'):ids=ids':=by
 obtain⟨_,l1,_,z1⟩:=ok;obtain⟨_,l2,_,z2⟩:=ok';unfold brZ at z1 z2;have h1:=(List.cons.inj h).2;obtain⟨h2,h3⟩:=List.append_inj h1 (by rw[aP,aP]);have hk:=congrArg dB h2;rw[gF,gF,fp (by omega),fp (by omega)] at hk;have hl:ids.length=ids'.length:=by omega
 have hlen:=congrArg List.length h3;rw[aF,aF,fx,fx,hl] at hlen;exact B5 (List.append_inj h3 (by omega)).2
theorem ir{V:UInt32->Bs}:∀{d d':Nat} {id:UInt32} {pg pg':List UInt32} {m m':List Pr},isT V d id pg m->isT V d' id pg' m'->pg=pg'
 | 0, 0, _, _, _, _, _, ⟨h1, _⟩, ⟨h2, _⟩ => by rw [h1, h2]
 | 0, d' + 1, _, _, _, _, _, ⟨_, _, h1⟩, ⟨_, _, _, h2, _⟩ => by
  rw[h1] at h2
  have:=(List.cons.inj h2).1
  exact absurd this (by decide)
 | d + 1, 0, _, _, _, _, _, ⟨_, _, _, h2, _⟩, ⟨_, _, h1⟩ => by
  rw[h1] at h2
  have:=(List.cons.inj h2).1
  exact absurd this (by decide)
 | d + 1, d' + 1, id, _, _, _, _, ⟨ks, ts, h1, h2, h3, _, _, h6⟩, ⟨ks', ts', k1, k2, k3, _, _, k6⟩ => by
  have hids:=brB_ids (h2.symm.trans k2) h1 k1;have key:∀(ts ts':List Kd),bs ts=bs ts'->(∀t∈ts,isT V d t.1 t.2.1 t.2.2)->(∀t∈ts',isT V d' t.1 t.2.1 t.2.2)->pgT ts=pgT ts':=by
   intro ts
   induction ts with
   | nil =>
    intro ts' e _ _;cases ts' with
    | nil => rfl
    | cons => cases e
   | cons t ts ih =>
    intro ts' e q1 q2;cases ts' with
    | nil => cases e
    | cons t' ts' =>
     have e1:=(List.cons.inj e).1;have e2:=(List.cons.inj e).2;have hi:=q2 t' cM;have e1:t.1=t'.1:=e1;rw[<-e1] at hi;rw[eM,eM,ir (q1 t cM) hi,ih ts' e2 (λt h=>q1 t (bN _ h)) (λt h=>q2 t (bN _ h))]
  rw[h3,k3,key ts ts' hids (λt h=>(h6 t h).1) (λt h=>(k6 t h).1)]
theorem zX{V:UInt32->Bs}:∀{d:Nat} {id:UInt32} {pg:List UInt32} {m:List Pr},isT V d id pg m->∀x∈pg,∃d' pg' m',isT V d' x pg' m'/\∀y∈pg',y∈pg
 | 0, id, pg, m, h, x, hx => by
  have h1:=h.1;rw[h1] at hx;rw[gh] at hx;subst hx;exact⟨0,pg,m,h,λy hy=>hy⟩
 | d + 1, id, pg, m, h, x, hx => by
  have hh:=h;obtain⟨ks,ts,h1,h2,h3,h4,h5,h6⟩:=hh;rw[h3] at hx;rcases List.mem_cons.1 hx with rfl|hx
  ·exact⟨d+1,pg,m,h,λy hy=>hy⟩
  ·obtain⟨t,ht,hxt⟩:=List.mem_flatMap.1 hx;obtain⟨d',pg',m',q1,q2⟩:=zX (h6 t ht).1 x hxt;exact⟨d',pg',m',q1,λy hy=>by rw[h3];exact bN _ (List.mem_flatMap.2 ⟨t,ht,q2 y hy⟩)⟩
def ClS(V:UInt32->Bs)(f:UInt32->Bool)(pg:List UInt32):Prop:=∀x∈pg,f x=true->∀d pg' m',isT V d x pg' m'->∀y∈pg',f y=true
theorem ClS.none(V:UInt32->Bs)(pg:List UInt32):ClS V (λ_=>false) pg:=λ_ _ h=>by cases h
theorem ClS.sub{V:UInt32->Bs}{f:UInt32->Bool}{pg pg':List UInt32}(h:ClS V f pg)(hs:∀x∈pg',x∈pg):ClS V f pg':=λx hx=>h x (hs x hx)
theorem ClS.tree{V:UInt32->Bs}{f f':UInt32->Bool}{d:Nat}{id:UInt32}{pg q:List UInt32}{m:List Pr}(h:ClS V f q)(ht:isT V d id pg m)(hf:∀x,f' x=(f x||pg.elem x)):ClS V f' q:=λx hx hfx d' pg' m' ht' y hy=>by
 rw[hf] at hfx ⊢;rcases Bool.or_eq_true_iff.1 hfx with g|g
 ·rw[h x hx g d' pg' m' ht' y hy];rfl
 ·obtain⟨d2,pg2,m2,h1,h2⟩:=zX ht x (by simpa using g)
  have:=ir ht' h1
  subst this
  have:pg.elem y=true:=by simpa using h2 y hy
  rw[this,Bool.or_true]
structure Wr where
 k:Bs
 v:Bs
 d:Bool
instance:Flat Wr:=⟨3,λa=>[str a.k,str a.v,.bool a.d],λ_=>rfl,λa x h=>by
 simp only[bZ,dD,or_false] at h;rcases h with rfl|rfl|rfl <;> rfl⟩
abbrev Wr.pr(a:Wr):Pr:=(a.k,a.v)
def Wr.good(a:Wr):Bool:=decide (1<=a.k.length/\a.k.length<=60/\a.v.length<=150) && !(a.d&&decide (a.v≠[]))
def isB(l:List Wr):Bool:=l.all Wr.good&&decide (1<=l.length)&&decide (l.length<=40)
end Go.Sac
namespace Go.Sac
set_option maxRecDepth 100000
def kA:List UInt8:=0::1::List.replicate 30 0
def kB:List UInt8:=0::2::List.replicate 30 0
def G6:PgF:=eX ko 0
def supK(c:UInt64)(e:UInt32):Sup:=⟨7,[109],G6,G6,c,e⟩
def HA:List UInt8:=1::List.replicate 49 0
def bytK(c e:Nat):List UInt8:=be 8 c++be 4 e++be 4 7++(be 2 1++[109])++HA++HA
end Go.Sac
namespace Go.Sac
open Go
theorem Ext.count{n:Nat}{P P':Pg}{V V':UInt32->Bs}{made:List UInt32}(h:Ext n P P' V V' made)(hn:n<=400):fQ P n<=fQ P' n+made.length:=by
 have hsub:∀i∈(List.range n).filter (λi=>P.free (UInt32.ofNat i)),i∈(List.range n).filter (λi=>P'.free (UInt32.ofNat i))++made.map (·.toNat):=λi hi=>by
  rw[uI,uH] at hi;rw[fX,uI,uH];by_cases hm:UInt32.ofNat i∈made
  ·refine .inr (List.mem_map.2 ⟨_,hm,?_⟩);rw[fL];omega
  ·exact .inl ⟨hi.1,h.free.2 ⟨hi.2,hm⟩⟩
 have hnd:((List.range n).filter λi=>P.free (UInt32.ofNat i)).Nodup:=List.nodup_range.filter _
 have:=mz _ _ hnd hsub
 rwa [aF,dr] at this
def kv(x:Bs):Pr:=(x,118::x)
theorem H8{l:List Pr}(p:Pr)(hs:ec l):(g0 l p).length=l.length+(!fA l p.1).toNat:=by
 cases h:fA l p.1 with
 | true => rw [vR hs h, gR]; rfl
 | false =>
  have:=uB l p.1
  rw[nY hs h,aF,cg,bz,bE];show _=l.length+1;omega
theorem y8{l:List Pr}(p:Pr)(hs:ec l):(g0 l p).length<=l.length+1:=by
 have h:=H8 p hs
 have:(!fA l p.1).toNat<=1:=Bool.toNat_le _
 omega
theorem yl:∀{l:List Pr},(∀p∈l,p.1.length+p.2.length<=7)->cT l<=3+11*l.length
 | [], _ => by simp [cT]
 | p :: l, h => by
  have h1:=yl (l:=l) (λq hq=>h q (bN _ hq));have h2:=h p cM;have h3:=eC [p] l;rw[iF,gV] at h3;rw[cg];omega
def vG(m:List Pr)(lo hi:Bs)(most:Nat):List Pr:=(fP ⟨lo,hi,decide (hi≠[])⟩ m).take most
theorem EY(m:List Pr)(n:Nat):vG m [] [] n=m.take n:=by
 unfold vG;congr 1;exact fE (λp _=>by simp[Sp.has,uC])
theorem tG{m:List Pr}{n:Nat}(h:m.length<=n):vG m [] [] n=m:=by
 rw[EY,cd h]
section
variable {P:Program}{E:Env}{w:World}{ty t u:TypeId}{x y:Operand}{a b:Pr}
theorem zG{f g : Field}(hu : P.underlying t = some (.struct #[f, g]))(hp : P.stoodInHeld t = false)(hn1 : f.name ≠ "_")(hn2 : g.name ≠ "_")(ho1 : f.offset = 0)(ho2 : g.offset = 1)(h1 : P.underlying f.type = some .string)(h2 : P.underlying g.type = some .string) :
  (Op.equalIn 10000 t (.agg #[str a.1,str a.2]) (.agg #[str b.1,str b.2])).run P w=.ok (decide (a=b)) w:=by
 have hfs:P.fieldsOf t=#[f,g]:=by unfold Program.fieldsOf;rw[hu]
 have hf:(P.fieldsOf t).toList=[f,g]:=by rw[hfs]
 rw[run_equalIn_agg w 9999 t _ _ (by rw[hfs];exact hu) hp,hf];unfold Op.eqFields;rw[if_pos hn1,ho1,ar (jH (v:=str a.1) h1 O O),ar (jH (v:=str b.1) h1 O O),ar (run_equalIn_string w 9998 f.type _ _ h1)];rw[yz];unfold Op.eqFields;by_cases e1:a.1=b.1
 ·rw[if_neg (by simp[e1]),if_pos hn2,ho2,ar (jH (v:=str a.2) h2 O O),ar (jH (v:=str b.2) h2 O O),ar (run_equalIn_string w 9998 g.type _ _ h2)];rw[yz];by_cases e2:a.2=b.2
  ·rw[if_neg (by simp[e2])]
   have:a=b:=Prod.ext e1 e2
   rw[decide_eq_true this];rfl
  ·rw[if_pos (by simp[e2])]
   have:a≠b:=λh=>e2 (by rw[h])
   rw[decide_eq_false this];rfl
 ·rw[if_pos (by simp[e1])]
  have:a≠b:=λh=>e1 (by rw[h])
  rw[decide_eq_false this];rfl
theorem x_nePr{f g : Field}(hx : ev E x = .agg #[str a.1, str a.2])(hy : ev E y = .agg #[str b.1, str b.2])(hg : P.eqGuardType P.depth t = false)(hu : P.underlying t = some (.struct #[f, g]))(hp : P.stoodInHeld t = false)(hn1 : f.name ≠ "_")(hn2 : g.name ≠ "_")(ho1 : f.offset = 0)(ho2 : g.offset = 1)(h1 : P.underlying f.type = some .string)(h2 : P.underlying g.type = some .string) :
  exec P E (.binOp .neq t x y u) ty w=.ok (.value (.bool (decide (a≠b)))) w:=by
 rw[oz,hx,hy];refine bh ?_;rw[ar (run_eqGuard_agg w .neq t x y _ _ hg)];rw[run_neq_struct,zG hu hp hn1 hn2 ho1 ho2 h1 h2];simp
end
instance:Flat UInt16:=⟨1,λb=>[.int .u16 b.toNat],λ_=>rfl,λ_ v h=>by simp at h;subst h;rfl⟩
section
variable {P:Program}{E:Env}{w:World}{ty t u:TypeId}{x y:Operand}{k:IntKind}{a b:UInt16}
end
end Go.Sac
namespace Go.Sac
open Go Go.ChangeShapes
theorem rd_wr{P:Program}{t ts tb:TypeId}{f0 f1 f2:Field}(ht:P.underlying t=some (.struct #[f0,f1,f2]))(hn:P.cellsOf t=3)
  (h0:f0.type=ts) (h1:f1.type=ts) (h2:f2.type=tb) (o0:f0.offset=0) (o1:f1.offset=1) (o2:f2.offset=2)
  (cs':P.cellsOf ts=1) (cb:P.cellsOf tb=1) (hs:P.underlying ts=some .string) (hb:P.underlying tb=some .bool):RdF P t Wr okT:=by
 intro H enc w base sp held fuel cs x h;obtain⟨xs,n,rfl,_,hlen,hxl,hf⟩:=DataW.trod_struct ht h;rw[hn] at hlen;obtain⟨a,cs,rfl⟩:=BR (l:=cs) (n:=2) hlen;obtain⟨b,cs,rfl⟩:=BR (l:=cs) (by simpa using hlen);obtain⟨c,cs,rfl⟩:=BR (l:=cs) (by simpa using hlen);obtain rfl:cs=[]:=kj (by simpa using hlen);have hx:∀i,i<3->∃y,xs[i]?=some y:=λi hi=>⟨xs[i]'(by rw[hxl];exact hi),bM _⟩
 have e0:=hf 0 f0 rfl;have e1:=hf 1 f1 rfl;have e2:=hf 2 f2 rfl;rw[h0,o0,cs'] at e0;rw[h1,o1,cs'] at e1;rw[h2,o2,cb] at e2;obtain⟨y0,hy0⟩:=hx 0 (by decide);obtain⟨y1,hy1⟩:=hx 1 (by decide);obtain⟨y2,hy2⟩:=hx 2 (by decide);obtain⟨s0,k0,_,_⟩:=DataW.trod_string hs (e0.trans hy0);obtain⟨s1,k1,_,_⟩:=DataW.trod_string hs (e1.trans hy1);obtain⟨v2,k2,_⟩:=rd_bool hb (e2.trans hy2);refine⟨⟨s0.data.toList,s1.data.toList,v2⟩,?_,trivial⟩;have q0:a=.string s0:=by injection k0
 have q1:b=.string s1:=by injection k1
 have q2:c=.bool v2:=by injection k2
 rw[q0,q1,q2];rfl
theorem Hm{α:Type}[Flat α]{ok:World->α->Prop}{P:Program}{H:Type}{enc:TypeId×Value->H}{W:World}{base b0:Nat}{r:Reach}{t te:TypeId}{v:Value}{d:DataW H}{ps:List MemPlace}{sp:Nat->Bool}{held:Bool}
  (R:RdF P te α ok) (ht:P.underlying t=some (.slice te)) (hc:P.cellsOf te=Flat.sz α) (hval:Value.okWide P W r b0 t v) (hd:DataW.Trod enc P W base sp held t v d ps) :
  ∃l:List α,Sl W v l/\l.length<=maxLen:=by
 obtain⟨l,hl,_⟩:=open_sl R ht hc hval hd;refine⟨l,hl,?_⟩;obtain⟨p,c,rfl,_,_⟩:=hl;obtain⟨fuel,hf⟩:=hd;rcases DataW.trod_slice ht hf with⟨hcs,_⟩|⟨a,len,cap,elems,rest,n,_,hcs,_,hb,hlc,hcm,_,_,_,_⟩
 ·simp only[Value.cells,pV,Value.slice.injEq,and_true] at hcs;rw[hcs.2.1];exact eh _
 ·simp only[Value.cells,pV,Value.slice.injEq,and_true] at hcs;rw[hcs.2.1];omega
end Go.Sac
