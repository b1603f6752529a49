/- All pairs put, all taken away, in whatever order: an empty tree of one page; each on the way is one. It holds for every input; there are no conditions. -/
import Derived.Test.YtpbfapbajmdlkaaGreatSac1
import Derived.Lib.SlKeysI
import Derived.RangeFuncGives
import Derived.Maps.RangeWalk
import Derived.Maps.Keyed
import Derived.Laws.Concat
import Derived.Test.YtpbfapbajmdlkaaGreatSac0
section
namespace Go.Sac
open Go
theorem Seps.keys_lo{k:Bs}:∀{ks:List Bs} {ms:List (List Pr)},Seps ks ms→(∀m∈ms,m≠[])→Below ms.flatten k→∀c∈ks,ltB c k=true
 | [], _, _, _, _ => fun c hc => by simp at hc
 | _ :: _, [], h, _, _ => h.elim
 | c :: ks, m :: ms, h, hn, hb => fun x hx => by
  rw[List.flatten_cons,Below.app] at hb
  have hn':∀m∈ms,m≠[]:=fun m hm=>hn m (List.mem_cons_of_mem _ hm)
  rcases List.mem_cons.1 hx with rfl | hx
  ·cases ms with
   | nil => exact absurd h.2.2.len (by simp)
   | cons m' ms =>
    obtain⟨p,hp⟩:=List.exists_mem_of_ne_nil _ (hn' m' List.mem_cons_self)
    have hp':p∈(m'::ms).flatten:=by rw[List.flatten_cons]; exact List.mem_append_left _ hp
    exact kL (h.2.1 p hp') (hb.2 p hp')
  ·exact Seps.keys_lo h.2.2 hn' hb.2 x hx
theorem Seps.keys_hi{k:Bs}:∀{ks:List Bs} {ms:List (List Pr)},Seps ks ms→(∀m∈ms,m≠[])→Above ms.flatten k→∀c∈ks,ltB k c=true
 | [], _, _, _, _ => fun c hc => by simp at hc
 | _ :: _, [], h, _, _ => h.elim
 | c :: ks, m :: ms, h, hn, hb => fun x hx => by
  rw[List.flatten_cons,Above.app] at hb
  rcases List.mem_cons.1 hx with rfl | hx
  ·obtain⟨p,hp⟩:=List.exists_mem_of_ne_nil _ (hn m List.mem_cons_self)
   exact kL (hb.1 p hp) (h.1 p hp)
  ·exact Seps.keys_hi h.2.2 (fun m hm=>hn m (List.mem_cons_of_mem _ hm)) hb.2 x hx
theorem KidsT.some{V:UInt32→Bs}{d:Nat}{ts:List Kd}(h:KidsT V d ts):∀m∈msT ts,m≠[]:=fun m hm=>by
 obtain⟨t,ht,rfl⟩:=List.mem_map.1 hm
 exact(h t ht).2
theorem CT.join{V:UInt32→Bs}{d:Nat}{k1 k2:List Bs}{i1 i2 p1 p2:List UInt32}{m1 m2:List Pr}{k:Bs}(h1:CT V (d+1) (.br k1 i1) p1 m1)(h2:CT V (d+1) (.br k2 i2) p2 m2)(hb:Below m1 k)(ha:Above m2 k)(hk:jv k) :
  CT V (d+1) (.br (k1++k::k2) (i1++i2)) (p1++p2) (m1++m2):=by
 obtain⟨t1,rfl,o1,rfl,rfl,s1,q1⟩:=h1
 obtain⟨t2,rfl,o2,rfl,rfl,s2,q2⟩:=h2
 have hb':Below (msT t1).flatten k:=by rw[gY]; exact hb
 have ha':Above (msT t2).flatten k:=by rw[gY]; exact ha
 have hlo:=s1.keys_lo q1.some hb'
 have hhi:=s2.keys_hi q2.some ha'
 refine⟨t1++t2,(fA _ _).symm,⟨fun c hc=>?_,?_⟩,(dy _ _).symm,(eF _ _).symm,by rw[fa]; exact Seps.join s2 ha' s1 hb' hlo,KidsT.app.2 ⟨q1,q2⟩⟩
 ·rcases List.mem_append.1 hc with hc | hc
  ·exact o1.1 c hc
  ·rcases List.mem_cons.1 hc with rfl | hc
   ·exact hk
   ·exact o2.1 c hc
 ·unfold il
  rw[List.pairwise_append]
  refine⟨o1.2,List.pairwise_cons.2 ⟨hhi,o2.2⟩,fun a hA b hB=>?_⟩
  rcases List.mem_cons.1 hB with rfl | hB
  ·exact hlo a hA
  ·exact dA (hlo a hA) (hhi b hB)
theorem Hole.nbr{V:UInt32→Bs}{d:Nat}{K1 K2:List Bs}{A B:List Kd}{m:List Pr}(h:Hole V (d+1) K1 K2 A B m)(hne:K1++K2≠[]) :
  ∃(z:Bool) (L1:List Bs) (k:Bs) (L2:List Bs) (C D:List Kd) (t:Kd),K1++K2=L1++k::L2∧C.length=L1.length∧jv k∧isT V (d+1) t.1 t.2.1 t.2.2∧t.2.2≠[]∧(∀x∈t.2.1,x∈pgT A++pgT B)∧(A.length=0↔z=true)∧A.length=C.length+(!z).toNat ∧
   (∀i0:UInt32,∃l r,aT A++i0::aT B=aT C++l::r::aT D∧(bif z then r else l)=t.1) ∧
   ∀(kk:List Bs) (ik pk:List UInt32) (ky:List Bs) (iy py:List UInt32),CT V (d+1) (.br kk ik) pk m→CT V (d+1) (.br ky iy) py t.2.2→t.2.1=t.1::py→∃mm pp,
    CT V (d+1) (.br ((bif z then kk else ky)++k::(bif z then ky else kk)) ((bif z then ik else iy)++(bif z then iy else ik))) pp mm∧Hole V (d+1) L1 L2 C D mm∧prT C++(mm++prT D)=prT A++(m++prT B)∧(pgT C++(pp++pgT D)++[t.1]).Perm (pgT A++(pk++pgT B)):=by
 have hA:A=[]∨∃C t,A=C++[t]:=by
  cases hA:A with
  | nil => exact .inl rfl
  | cons a l => exact .inr ⟨_, _, (List.dropLast_concat_getLast (List.cons_ne_nil a l)).symm⟩
 rcases hA with rfl | ⟨C,t,rfl⟩
 ·have hl:=h.la
  cases K1 with
  | cons => simp at hl
  | nil =>
   cases K2 with
   | nil => exact absurd rfl hne
   | cons k L2 =>
    have hb:=h.lb
    cases B with
    | nil => simp at hb
    | cons t D =>
     have hs:Seps (k::L2) (m::t.2.2::msT D):=h.seps
     have hk:=h.keys.1 k (by simp)
     have hq:=KidsT.cons.1 h.kb
     have hab:Above t.2.2 k:=fun p hp=>hs.2.1 p (by rw[List.flatten_cons]; exact List.mem_append_left _ hp)
     refine⟨true,[],k,L2,[],D,t,rfl,rfl,hk,hq.1.1,hq.1.2,fun x hx=>by rw[dO]; simp[hx],by simp,rfl,fun i0=>⟨i0,t.1,rfl,rfl⟩,fun kk ik pk ky iy py h1 h2 hp=>⟨m++t.2.2,pk++py,h1.join h2 hs.1 hab hk,h.mergeR,by rw[eB]; simp,?_⟩⟩
     rw[dO,hp,List.perm_iff_count]
     intro x
     simp only[List.count_append,List.count_cons,List.count_nil]
     omega
 ·have hl:=h.la
  rw[List.length_append,List.length_singleton] at hl
  have hn1:K1≠[]:=fun e=>by rw[e] at hl; simp at hl
  obtain⟨L1,k,rfl⟩:∃L1 k,K1=L1++[k]:=⟨K1.dropLast,K1.getLast hn1,(List.dropLast_concat_getLast hn1).symm⟩
  rw[List.length_append,List.length_singleton] at hl
  have hs:=h.seps
  rw[fa,List.append_assoc,List.append_assoc,List.singleton_append] at hs
  have hs2:Seps (k::K2) (t.2.2::m::msT B):=Seps.drop (by rw[msT,List.length_map]; omega) hs
  have hk:=h.keys.1 k (by simp)
  have hq:=KidsT.cons.1 (KidsT.app.1 h.ka).2
  have hab:Above m k:=fun p hp=>hs2.2.1 p (by rw[List.flatten_cons]; exact List.mem_append_left _ hp)
  refine⟨false,L1,k,K2,C,B,t,by simp,by omega,hk,hq.1.1,hq.1.2,fun x hx=>by rw[dy,dO]; simp[hx],by simp,by simp,fun i0=>⟨t.1,i0,by rw[fA]; simp[aT],rfl⟩,fun kk ik pk ky iy py h1 h2 hp=>⟨t.2.2++m,py++pk,h2.join h1 hs2.1 hab hk,h.mergeL,by rw[eF,eB]; simp[prT],?_⟩⟩
  rw[dy,dO,hp,List.perm_iff_count]
  intro x
  simp only[List.count_append,List.count_cons,List.count_nil,pgT,List.flatMap_nil]
  omega
end Go.Sac

end
section
namespace Go.Sac
open Go Go.Maps Go.Proofs
abbrev jA(q:IntKind):Int→Value:=Value.int q
theorem Cj{q:IntKind}{x y:Int}(h:jA q x=jA q y):x=y:=by simpa [jA] using h
theorem xd{H:Type}(q:IntKind){es:List (Lit×DataW H)}(hp:es.Pairwise (fun p q=>p.1≠q.1))(hk:∀p∈es,∃x,p.1 = .int q x){ss:List Int}(hnd:ss.Nodup)
  (hm:∀x,x∈ss↔has (.map es) (.int q x)=true):ss.Perm (intKeys (.map es)):=by
 refine(List.perm_ext_iff_of_nodup hnd ?_).2 fun x=>?_
 ·show(es.map fun p=>intOf p.1).Nodup
  refine List.pairwise_map.2 (hp.imp_of_mem fun {p q} hp' hq' hne e=>hne ?_)
  obtain⟨a,ha⟩:=hk p hp'
  obtain⟨b,hb⟩:=hk q hq'
  rw[ha,hb] at e ⊢
  exact congrArg _ e
 ·rw[hm x,has_eq,List.any_eq_true]
  show _↔x∈es.map fun p=>intOf p.1
  rw[List.mem_map]
  constructor
  ·rintro⟨p,hp',hs⟩
   obtain⟨a,ha⟩:=hk p hp'
   rw[ha] at hs
   exact⟨p,hp',by rw[ha]; simpa [Lit.sameKey,intOf] using hs⟩
  ·rintro⟨p,hp',rfl⟩
   obtain⟨a,ha⟩:=hk p hp'
   exact⟨p,hp',by rw[ha]; simp[Lit.sameKey,intOf]⟩
def Came{H:Type}(q:IntKind)(D0:DataW H)(left:Lit→Bool)(ss:List Int):Prop:=ss.Nodup∧∀x,x∈ss↔(has D0 (.int q x)=true∧left (.int q x)=false)
section
variable {H:Type}{q:IntKind}{D0:DataW H}{left:Lit→Bool}{ss:List Int}
theorem Came.start(q:IntKind)(D0:DataW H):Came q D0 (has D0) []:=⟨List.nodup_nil,fun x=>by cases has D0 (.int q x) <;> simp⟩
theorem Came.step(h:Came q D0 left ss){x:Int}{y:DataW H}(hlk:left (.int q x)=true)(hat:∀zd,D0.atKey (.int q x) zd=y):Came q D0 (fun z=>left z && !z.sameKey (.int q x)) (ss++[x]):=by
 have hhas:has D0 (.int q x)=true:=has_true_of_atKey hat
 have hnew:x∉ss:=fun hx=>by have:=((h.2 x).1 hx).2; rw[hlk] at this; cases this
 refine⟨List.nodup_append.2 ⟨h.1,by simp,fun a ha b hb=>by simp at hb; subst hb; exact fun e=>hnew (e▸ha)⟩,fun y=>?_⟩
 by_cases hy:y=x
 ·subst hy; simp[hhas,Lit.sameKey]
 ·simp[h.2 y,hy,Lit.sameKey]
variable {P:Program}{k:TypeId}{R:Value→Option (DataW H×List MemPlace)}{w:World}{b n:Nat}
theorem Came.perm(h:Came q D0 left ss)(hown:w.ownsMap P k R b n D0)(K:Keyed P k)(hk:P.underlying k=some (.int q))(hl:∀kl,left kl=false):ss.Perm (intKeys D0):=by
 obtain⟨es,hD,hpw,_⟩:=hown.entries K
 obtain⟨es',hD',hko⟩:=hown.keysOf
 obtain rfl:es=es':=by rw[hD] at hD'; simpa using hD'
 subst hD
 exact xd q hpw (fun p hp=>by obtain⟨v,hv⟩:=hko p hp; obtain⟨x,_,hx,_⟩:=Maps.keyOf_int_inv hk hv; exact⟨x,hx⟩) h.1 (fun x=>by rw[h.2 x,hl]; simp)
end
theorem rL{P:Program}{kt:TypeId}{w:World}{r:Nat}{m:List (UInt32×Value)}(hk:P.underlying kt=some (.int .u32))(hm:MapAt w r m)(hl:m.length≤maxLen) :
  ∃D0:DataW Unit,w.ownsMap P kt (fun _=>some (.lit (.bool true),[])) r m.length D0∧(intKeys D0).Perm (m.map fun p=>(p.1.toNat:Int))∧Maps.size D0=m.length:=by
 obtain⟨es,cl,hb,he,hn,hbn,hlt⟩:=hm
 have hlen:es.size=m.length:=by have:=congrArg List.length he; simpa using this
 have hkey:∀a:UInt32,keyOf P kt (.int .u32 a.toNat)=some (.int .u32 a.toNat):=fun a=>by
  unfold keyOf
  rw[hk]
  simp only[mapKey,hk]
  have h1:IntKind.u32.min=0:=by decide
  have h2:IntKind.u32.max=4294967295:=by decide
  have h3:=a.toNat_lt
  have hw:(Lit.int .u32 (a.toNat:Int)).wf=true:=by
   simp only[Lit.wf,Bool.and_eq_true,decide_eq_true_eq,h1,h2]; omega
  simp[hw]
 have hes:∀x∈es.toList,∃a:UInt32,x.key = .int .u32 a.toNat:=fun x hx=>by
  have h1:(x.key,x.val)∈es.toList.map (fun e=>(e.key,e.val)):=List.mem_map.2 ⟨x,hx,rfl⟩
  rw[he] at h1
  obtain⟨p,hp,h2⟩:=List.mem_map.1 h1
  simp only[Prod.mk.injEq] at h2
  exact⟨p.1,h2.1.symm⟩
 have hF:WideElems.Fit P kt (fun _=>some ((.lit (.bool true):DataW Unit),[])) es cl:=by
  refine⟨by omega,⟨hlt,hbn,?_⟩,fun x hx=>?_⟩
  ·rw[nk he]
   unfold List.Nodup at hn ⊢
   rw[List.pairwise_map]
   exact hn.imp (fun h e=>h (Key.inj _ _ e))
  ·obtain⟨a,ha⟩:=hes x hx
   exact⟨(.int .u32 a.toNat,.lit (.bool true)),by simp[WideElems.rd,ha,hkey a]⟩
 refine⟨_,⟨es,cl,hb,hF,by omega,rfl⟩,?_,?_⟩
 ·have hp:=(Go.WideShapes.sorted_perm (es.toList.map (WideElems.rg P kt (fun _=>some ((.lit (.bool true):DataW Unit),[]))))).map (fun p=>intOf p.1)
  refine hp.trans (List.Perm.of_eq ?_)
  rw[List.map_map]
  have h3:es.toList.map ((fun p:Lit×DataW Unit=>intOf p.1) ∘ WideElems.rg P kt (fun _=>some ((.lit (.bool true):DataW Unit),[])))=es.toList.map (fun e=>match e.key with | .int _ a=>a | _=>0):=by
   apply List.map_congr_left
   intro x hx
   obtain⟨a,ha⟩:=hes x hx
   simp[WideElems.rg,WideElems.rd,ha,hkey a,intOf]
  rw[h3]
  have h4:es.toList.map (fun e=>match e.key with | .int _ a=>a | _=>0)=(es.toList.map (fun e=>(e.key,e.val))).map (fun p=>match p.1 with | .int _ a=>a | _=>0):=by
   rw[List.map_map]; rfl
  rw[h4,he,List.map_map]
  apply List.map_congr_left
  intro p _
  rfl
 ·simp[Maps.size,length_sorted,hlen]
theorem tX{ss:List Int}{ks:List UInt32}(h:ss.Perm (ks.map fun p=>(p.toNat:Int))):∃l:List UInt32,l.Perm ks∧ss=l.map fun p=>(p.toNat:Int):=by
 have hi:∀k:UInt32,UInt32.ofNat ((k.toNat:Int).toNat)=k:=fun k=>by simp
 refine⟨ss.map fun z=>UInt32.ofNat z.toNat,?_,?_⟩
 ·have:=h.map fun z=>UInt32.ofNat z.toNat
  rw[List.map_map] at this
  refine this.trans (List.Perm.of_eq ?_)
  conv=>rhs; rw[←List.map_id ks]
  exact List.map_congr_left fun k _=>hi k
 ·rw[List.map_map]
  conv=>lhs; rw[←List.map_id ss]
  refine List.map_congr_left fun z hz=>?_
  obtain⟨k,_,rfl⟩:=List.mem_map.1 (h.mem_iff.1 hz)
  show(k.toNat:Int)=((UInt32.ofNat ((k.toNat:Int).toNat)).toNat:Int)
  rw[hi]
theorem vq{w:World}{base:Nat}{e:TypeId}{v:Value}{l:List UInt32}(h:w.ownsRow base e 1 v l.length (l.map fun x=>Value.int .u32 x.toNat)) :
  Own w v l∧In v [] base:=by
 obtain⟨_,h⟩:=h
 have he:aV l=l.map fun(x:UInt32)=>Value.int .u32 (x.toNat:Int):=Cl (fun(x:UInt32)=>Value.int .u32 (x.toNat:Int)) (fun _=>rfl) l
 rcases h with⟨rfl,h0⟩ | ⟨g,cap,cur,rfl,hb,hblk,hn,hcap,hcs,hx⟩
 ·have:l=[]:=List.eq_nil_of_length_eq_zero h0
  subst this
  exact⟨Own.nil w,In.nil⟩
 ·refine⟨⟨some ⟨g,0,none⟩,cap,rfl,hn,rfl,cur,e,(0,0),hblk,gE _,?_,fun i x hi=>?_⟩,In.of_ge hb⟩
  ·show 0+cap*1≤cur.size
   omega
  ·rw[he,←hx] at hi
   have h1:=List.getElem?_take (l:=cur.toList) (i:=l.length*1) (j:=i)
   rw[h1] at hi
   split at hi
   ·simp only[Nat.zero_add]
    simpa using hi
   ·cases hi
end Go.Sac

end
section
namespace Go.Sac
open Go
def ko(l:List UInt32):List UInt32:=l.mergeSort fun x y=>decide (x≤y)
theorem qn(l:List UInt32):(ko l).Perm l:=List.mergeSort_perm l _
theorem mK(l:List UInt32):(ko l).length=l.length:=(qn l).length_eq
theorem wV(l:List UInt32):(ko l).Pairwise (fun a b=>decide (a≤b)=true) :=
 List.pairwise_mergeSort (fun a b c h1 h2=>by simp only[decide_eq_true_eq] at *; exact UInt32.le_trans h1 h2)
  (fun a b=>by simp only[Bool.or_eq_true,decide_eq_true_eq]; exact UInt32.le_total a b) l
theorem uQ{l l':List UInt32}(hp:l'.Perm l)(hs:l'.Pairwise (fun a b=>decide (a≤b)=true)):l'=ko l:=by
 refine List.Perm.eq_of_pairwise (le:=fun a b=>decide (a≤b)=true) (fun a b _ _ h1 h2=>?_) hs (wV l) (hp.trans (qn l).symm)
 simp only[decide_eq_true_eq] at h1 h2
 exact UInt32.le_antisymm h1 h2
def oA(l:List UInt32)(j:Nat):List UInt32:=(l.set j (l.getD (j-1) 0)).set (j-1) (l.getD j 0)
theorem sF(l:List UInt32)(j a:Nat)(hj:0<j)(hl:j<l.length):(oA l j).getD a 0=if a=j-1 then l.getD j 0 else if a=j then l.getD (j-1) 0 else l.getD a 0:=by
 unfold oA
 simp only[List.getD_eq_getElem?_getD,List.getElem?_set,List.length_set]
 by_cases h1:a=j-1
 ·subst h1
  rw[if_pos rfl,if_pos (by omega),if_pos rfl,Option.getD_some]
 ·have h1':¬j-1=a:=fun e=>h1 e.symm
  rw[if_neg h1',if_neg h1]
  by_cases h2:a=j
  ·subst h2
   rw[if_pos rfl,if_pos rfl,if_pos hl,Option.getD_some]
  ·have h2':¬j=a:=fun e=>h2 e.symm
   rw[if_neg h2',if_neg h2]
theorem tW{α:Type}(l:List α)(i j:Nat)(hi:i<l.length)(hj:j<l.length):((l.set i l[j]).set j l[i]).Perm l:=List.set_set_perm hi hj
theorem wU(l:List UInt32)(j:Nat)(hl:j<l.length):(oA l j).Perm l:=by
 unfold oA
 have h1:l.getD (j-1) 0=l[j-1]:=by rw[List.getD_eq_getElem?_getD,List.getElem?_eq_getElem (by omega)]; rfl
 have h2:l.getD j 0=l[j]:=by rw[List.getD_eq_getElem?_getD,List.getElem?_eq_getElem hl]; rfl
 rw[h1,h2]
 exact tW l j (j-1) hl (by omega)
def MidU(l0 l:List UInt32)(i j:Nat):Prop:=l.Perm l0∧∀a b,a<b→b≤i→b≠j→l.getD a 0≤l.getD b 0
def SrtU(l0 l:List UInt32)(i:Nat):Prop:=l.Perm l0∧∀a b,a<b→b<i→l.getD a 0≤l.getD b 0
theorem SrtU.mid{l0 l:List UInt32}{i:Nat}(h:SrtU l0 l i):MidU l0 l i i:=⟨h.1,fun a b h1 h2 h3=>h.2 a b h1 (by omega)⟩
theorem MidU.swap{l0 l:List UInt32}{i j:Nat}(h:MidU l0 l i j)(hj:0<j)(hji:j≤i)(hl:i<l.length)(hlt:l.getD j 0<l.getD (j-1) 0):MidU l0 (oA l j) i (j-1):=by
 refine⟨(wU l j (by omega)).trans h.1,fun a b h1 h2 h3=>?_⟩
 rw[sF l j a hj (by omega),sF l j b hj (by omega)]
 rw[if_neg h3]
 by_cases hb:b=j
 ·subst hb
  rw[if_pos rfl]
  by_cases ha:a=b-1
  ·rw[if_pos ha]; exact UInt32.le_of_lt hlt
  ·rw[if_neg ha,if_neg (by omega)]
   exact h.2 a (b-1) (by omega) (by omega) (by omega)
 ·rw[if_neg hb]
  by_cases ha:a=j-1
  ·rw[if_pos ha]
   exact h.2 j b (by omega) h2 hb
  ·rw[if_neg ha]
   by_cases ha':a=j
   ·rw[if_pos ha']
    exact h.2 (j-1) b (by omega) h2 hb
   ·rw[if_neg ha']
    exact h.2 a b h1 h2 hb
theorem MidU.done{l0 l:List UInt32}{i j:Nat}(h:MidU l0 l i j)(hji:j≤i)(hs:j=0∨¬l.getD j 0<l.getD (j-1) 0):SrtU l0 l (i+1):=by
 refine⟨h.1,fun a b h1 h2=>?_⟩
 by_cases hb:b=j
 ·subst hb
  have hs:¬l.getD b 0<l.getD (b-1) 0:=hs.resolve_left (by omega)
  have hle:l.getD (b-1) 0≤l.getD b 0:=UInt32.not_lt.1 hs
  by_cases ha:a=b-1
  ·rw[ha]; exact hle
  ·exact UInt32.le_trans (h.2 a (b-1) (by omega) (by omega) (by omega)) hle
 ·exact h.2 a b h1 (by omega) hb
theorem SrtU.sort{l0 l:List UInt32}{i:Nat}(h:SrtU l0 l i)(hi:l.length≤i):l=ko l0:=by
 refine uQ h.1 (List.pairwise_iff_getElem.2 fun a b ha hb hab=>?_)
 have:=h.2 a b hab (by omega)
 rw[List.getD_eq_getElem?_getD,List.getD_eq_getElem?_getD,List.getElem?_eq_getElem ha,List.getElem?_eq_getElem hb] at this
 simpa using this
theorem SrtU.start(l:List UInt32):SrtU l l 1:=⟨.refl l,fun a b h1 h2=>by omega⟩
theorem SrtU.length{l0 l:List UInt32}{i:Nat}(h:SrtU l0 l i):l.length=l0.length:=h.1.length_eq
theorem MidU.length{l0 l:List UInt32}{i j:Nat}(h:MidU l0 l i j):l.length=l0.length:=h.1.length_eq
def oZ(f:UInt32→Bool)(n:Nat):List UInt32:=((List.range n).filter fun i=>f (UInt32.ofNat i)).map UInt32.ofNat
theorem vf(f:UInt32→Bool)(n:Nat):(oZ f n).length≤n:=by
 unfold oZ
 rw[List.length_map]
 exact Nat.le_trans (List.length_filter_le _ _) (by simp)
theorem BO{f:UInt32→Bool}{n:Nat}{x:UInt32}(hn:n≤4294967296):x∈oZ f n↔f x=true∧x.toNat<n:=by
 unfold oZ
 simp only[List.mem_map,List.mem_filter,List.mem_range]
 constructor
 ·rintro⟨i,⟨hi,hf⟩,rfl⟩
  exact⟨hf,by rw[UInt32.toNat_ofNat_of_lt' (show i<4294967296 by omega)]; exact hi⟩
 ·rintro⟨h1,h2⟩
  exact⟨x.toNat,⟨h2,by simpa using h1⟩,by simp⟩
theorem oC(f:UInt32→Bool)(n:Nat)(hn:n≤4294967296):(oZ f n).Pairwise (fun a b=>a<b):=by
 unfold oZ
 rw[List.pairwise_map]
 have h:(List.range n).Pairwise (·<·):=List.pairwise_lt_range
 refine(h.filter _).imp_of_mem fun {a b} ha hb hab=>?_
 have ha:=List.mem_range.1 (List.mem_filter.1 ha).1
 have hb:=List.mem_range.1 (List.mem_filter.1 hb).1
 rw[UInt32.lt_iff_toNat_lt,UInt32.toNat_ofNat_of_lt' (show a<4294967296 by omega),UInt32.toNat_ofNat_of_lt' (show b<4294967296 by omega)]
 exact hab
theorem uP{f:UInt32→Bool}{n:Nat}{l:List UInt32}(hn:n≤4294967296)(hd:l.Nodup)(hm:∀x,x∈l↔f x=true)(hf:∀x,f x=true→x.toNat<n):ko l=oZ f n:=by
 symm
 refine uQ ((List.perm_ext_iff_of_nodup ((oC f n hn).imp fun {a b} h e=>by subst e; exact absurd h (UInt32.lt_irrefl _)) hd).2 fun x=>?_) ((oC f n hn).imp fun {a b} h=>by simpa using UInt32.le_of_lt h)
 rw[BO hn,hm x]
 exact⟨fun h=>h.1,fun h=>⟨h,hf x h⟩⟩
end Go.Sac

end
section
namespace Go.Sac
set_option maxRecDepth 100000
def kA:List UInt8:=0::1::List.replicate 30 0
def kB:List UInt8:=0::2::List.replicate 30 0
def Ay:PgF:=cO fW 0
def supK(c:UInt64)(e:UInt32):Sup:=⟨7,[109],Ay,Ay,c,e⟩
def BQ:List UInt8:=1::List.replicate 49 0
def bytK(c e:Nat):List UInt8:=be 8 c++be 4 e++be 4 7++(be 2 1++[109])++BQ++BQ
end Go.Sac

end
section
namespace Go.Sac
open Go
theorem Ext.count{n:Nat}{P P':Pg}{V V':UInt32→Bs}{made:List UInt32}(h:Ext n P P' V V' made)(hn:n≤400):dN P n≤dN P' n+made.length:=by
 have hsub:∀i∈(List.range n).filter (fun i=>P.free (UInt32.ofNat i)),i∈(List.range n).filter (fun i=>P'.free (UInt32.ofNat i))++made.map (·.toNat):=fun i hi=>by
  rw[List.mem_filter,List.mem_range] at hi
  rw[List.mem_append,List.mem_filter,List.mem_range]
  by_cases hm:UInt32.ofNat i∈made
  ·refine .inr (List.mem_map.2 ⟨_,hm,?_⟩)
   rw[UInt32.toNat_ofNat']; omega
  ·exact .inl ⟨hi.1,h.free.2 ⟨hi.2,hm⟩⟩
 have hnd:((List.range n).filter fun i=>P.free (UInt32.ofNat i)).Nodup:=List.nodup_range.filter _
 have:=nT _ _ hnd hsub
 rwa [List.length_append,List.length_map] at this
end Go.Sac

end
section
namespace Go.Sac
open Go
theorem putP_in{l:List Pr}{p q:Pr}(h:q∈l)(hne:q.1≠p.1):q∈eh l p:=by
 unfold eh
 cases h1:ltB q.1 p.1 with
 | true => exact List.mem_append_left _ (List.mem_filter.2 ⟨h, h1⟩)
 | false =>
  cases h2:ltB p.1 q.1 with
  | true => exact List.mem_append_right _ (List.mem_cons_of_mem _ (List.mem_filter.2 ⟨h, h2⟩))
  | false => exact absurd (ld h1 h2) hne
def kv(x:Bs):Pr:=(x,118::x)
theorem vd{l:List Pr}(p:Pr)(hs:df l):(eh l p).length=l.length+(!dh l p.1).toNat:=by
 cases h:dh l p.1 with
 | true => rw [qE hs h, List.length_set]; rfl
 | false =>
  have:=pH l p.1
  rw[kD hs h,List.length_append,List.length_cons,List.length_take,List.length_drop]
  show _=l.length+1
  omega
theorem zI{l:List Pr}(p:Pr)(hs:df l):(eh l p).length≤l.length+1:=by
 have h:=vd p hs
 have:(!dh l p.1).toNat≤1:=Bool.toNat_le _
 omega
theorem Cr{l:List Pr}{k:Bs}(hs:df l)(h:dh l k=true):(fO l k).length+1=l.length:=by
 have:=fq h
 rw[wk hs h,List.length_append,List.length_take,List.length_drop]; omega
theorem sU:∀{l:List Pr},(∀p∈l,p.1.length+p.2.length≤7)→bM l≤3+11*l.length
 | [], _ => by simp [bM]
 | p :: l, h => by
  have h1:=sU (l:=l) (fun q hq=>h q (List.mem_cons_of_mem _ hq))
  have h2:=h p List.mem_cons_self
  have h3:=dt [p] l
  rw[gh,List.singleton_append] at h3
  rw[List.length_cons]; omega
def scanL(m:List Pr)(lo hi:Bs)(most:Nat):List Pr:=(ey ⟨lo,hi,decide (hi≠[])⟩ m).take most
end Go.Sac

end
section
namespace Go.Sac
open Go
section
variable {P:Program}{E:Env}{w:World}{ty t u:TypeId}{x y:Operand}{a b:Pr}
end
end Go.Sac

end
section
namespace Go.Sac
open Go
instance:Flat UInt16:=⟨1,fun b=>[.int .u16 b.toNat],fun _=>rfl,fun _ v h=>by simp at h; subst h; rfl⟩
theorem AW(n:Int):IntKind.u16.wrap n=n % 65536:=by
 unfold IntKind.wrap
 have h1:IntKind.u16.bits=16:=rfl
 have h2:IntKind.u16.signed=false:=rfl
 rw[h1,h2]
 simp
section
variable {P:Program}{E:Env}{w:World}{ty t u:TypeId}{x y:Operand}{k:IntKind}{a b:UInt16}
theorem uE{d:TypeDesc}{n:Nat}(hx:ev E x = .int k n)(ht:P.underlying t=some d)(hu:P.underlying u=some (.int .u16))(hn:n<65536):exec P E (.convert t u x) ty w = .ok (.value (.int .u16 (UInt16.ofNat n).toNat)) w:=by
 rw[pW hx ht hu,AW,UInt16.toNat_ofNat']
 congr 3
end
end Go.Sac

end
