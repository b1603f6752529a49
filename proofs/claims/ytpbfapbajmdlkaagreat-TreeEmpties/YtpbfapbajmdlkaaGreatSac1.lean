/- All pairs put, all taken away, in whatever order: an empty tree of one page; each on the way is one. It holds for every input; there are no conditions. -/
import Derived.Test.YtpbfapbajmdlkaaGreatSac0
import Derived.Shelf.SlIterI.Nil
import Derived.Shelf.SortM.Plain
import Derived.Shelf.SortM.SortNone
import Derived.Shelf.SlMaps.Clone
import Derived.Laws.Externs
import Derived.Lib.Bytealg
import Derived.ProofKit
import Derived.OpenShut
section
namespace Go.Sac
open Go
def Blk(w:World)(b:Nat)(cs:List Value):Prop:=∃e,w.heap[b]?=some (.cells cs.toArray e (0,0))
section
variable {w w':World}{b:Nat}{cs:List Value}{S:List Nat}
theorem Blk.chg(h:Blk w b cs)(hm:Chg S w w')(hn:b∉S):Blk w' b cs:=by
 obtain⟨e,h⟩:=h; exact⟨e,hm.blk h hn⟩
theorem Blk.chg0(h:Blk w b cs)(hm:Chg [] w w'):Blk w' b cs:=h.chg hm (by simp)
theorem Blk.nb{c:Nat}(h:Blk w b cs)(hm:Chg [c] w w')(hn:b≠c):Blk w' b cs:=h.chg hm (by simpa using hn)
theorem Blk.heap(h:Blk w b cs)(hh:Hp w' w):Blk w' b cs:=h.chg0 (Chg.heap hh)
theorem Blk.lt(h:Blk w b cs):b<w.heap.size:=by
 obtain⟨e,h⟩:=h; exact bH h
theorem Blk.c(h:Blk w b cs){off:Nat}{v:Value}(hv:cs[off]?=some v):w.cell? ⟨b,off,none⟩=some v:=by
 obtain⟨e,h⟩:=h
 exact cell_of h (by simpa using hv)
theorem Blk.at(h:Blk w b cs){off:Nat}{l:List Value}(hl:(cs.drop off).take l.length=l):At w b off l:=by
 obtain⟨e,h⟩:=h
 exact At.of_blk' h (by simpa using hl)
theorem Arr.blk{α:Type}[Flat α]{l:List α}(h:Arr w b l):Blk w b (aV l):=h
variable {P:Program}{E:Env}{ty t:TypeId}{x y:Operand}
theorem sL(c:List Value)(off:Nat)(vs:List Value)(h:off+vs.length≤c.length):eP c.toArray off vs=(spl c off vs).toArray:=by
 apply Array.ext_getElem?
 intro j
 rw[fU _ _ _ _ (by simpa using h)]
 simp only[spl,List.getElem?_toArray]
 by_cases h1:j<off
 ·rw[if_neg (by omega),List.append_assoc,List.getElem?_append_left (by rw[List.length_take]; omega),List.getElem?_take,if_pos h1]
 ·by_cases h2:j<off+vs.length
  ·rw[if_pos (by omega),List.getElem?_append_left (by rw[List.length_append,List.length_take]; omega),List.getElem?_append_right (by rw[List.length_take]; omega),List.length_take,Nat.min_eq_left (by omega)]
  ·rw[if_neg (by omega),List.getElem?_append_right (by rw[List.length_append,List.length_take]; omega),List.length_append,List.length_take,List.getElem?_drop,Nat.min_eq_left (by omega)]
   congr 1; omega
theorem cz{i:TypeInfo}{off:Nat}{v:Value}{l cs':List Value}(hi:P.info? t=some i)(hx:ev E x = .pointer (some ⟨b,off,none⟩))(hy:ev E y=v)(hb:Blk w b cs)(hv:v.cells.toList=l)(hs:i.size=l.length)(ho:off+l.length≤cs.length)(hc:∀q∈l,ei q=true)(hr:spl cs off l=cs') :
  ∃w1,exec P E (.store t x y) ty w = .ok .skip w1∧Blk w1 b cs'∧Chg [b] w w1∧w1.heap.size=w.heap.size:=by
 obtain⟨e,hb⟩:=hb
 subst hv hr
 have hsz:v.cells.size=v.cells.toList.length:=by simp
 have h1:=pD (ty:=ty) hi hx hy (by rw[hsz,hs]) hb (by rw[hsz,List.size_toArray]; exact ho) (gE _) hc
 refine⟨_,h1,⟨e,?_⟩,Chg.set _ _ _,cU _ _ _⟩
 rw[dq (bH hb),sL _ _ _ ho]
theorem bD{i:TypeInfo}{off:Nat}{v:Value}{cs':List Value}(hi:P.info? t=some i)(hx:ev E x = .pointer (some ⟨b,off,none⟩))(hy:ev E y=v)(hb:Blk w b cs)(hv:v.cells.toList=[v])(hs:i.size=1)(ho:off<cs.length)(hc:ei v=true)(hr:spl cs off [v]=cs') :
  ∃w1,exec P E (.store t x y) ty w = .ok .skip w1∧Blk w1 b cs'∧Chg [b] w w1∧w1.heap.size=w.heap.size :=
 cz hi hx hy hb hv hs (by simp only[List.length_singleton]; omega) (by simpa using hc) hr
theorem dn{i:TypeInfo}{z:Value}{l:List Value}(hi:P.info? t=some i)(hz:i.zero=some z)(hl:z.cells=l.toArray) :
  ∃v w1,exec P E (.alloc t) ty w = .ok (.value v) w1∧∃b,v = .pointer (some ⟨b,0,none⟩)∧w.heap.size≤b∧Blk w1 b l∧Chg [] w w1∧b<w1.heap.size :=
 ⟨_,_,tD hi hz,_,rfl,Nat.le_refl _,⟨t,by rw[←hl]; exact eA _ _⟩,Chg.push _ _,by rw[eE]; omega⟩
theorem cg{v:Value}{l:List Value}(hx:ev E x=v)(hl:v.cells=l.toArray) :
  ∃v w1,exec P E (.box t x) ty w = .ok (.value v) w1∧∃b,v = .pointer (some ⟨b,0,none⟩)∧w.heap.size≤b∧Blk w1 b l∧Chg [] w w1∧b<w1.heap.size :=
 ⟨_,_,x_box hx,_,rfl,Nat.le_refl _,⟨t,by rw[←hl]; exact eA _ _⟩,Chg.push _ _,by rw[eE]; omega⟩
theorem ej{place:Nat→Option (Nat×Nat)}{cs cs':List Value}(h:cs=cs'):Instr.fill place cs.toArray []=some cs'.toArray:=by subst h; rfl
theorem bZ{place:Nat→Option (Nat×Nat)}{cs l:List Value}{i off size:Nat}{v:Value}{rest:List (Nat×Value)}{r:Option (Array Value)}(hp:place i=some (off,size))(hv:v.cells.toList=l)(hl:l.length=size)(ho:off+size≤cs.length)
  (h:Instr.fill place (spl cs off l).toArray rest=r):Instr.fill place cs.toArray ((i,v)::rest)=r:=by
 subst hv
 have hsz:v.cells.size=size:=by rw[←hl]; simp
 rw[te hp hsz (by simpa using ho),sL _ _ _ (by rw[hl]; exact ho),h]
theorem bN{fs:List Field}{i:TypeInfo}{z:Value}{ps:List (Nat×Operand)}{cs zs:List Value}(ht:P.underlying t=some (.struct fs.toArray))(hi:P.info? t=some i)(hz:i.zero=some z)(hzs:z.cells=zs.toArray)(hfs:fs.all (fun f=>(P.info? f.type).isSome)=true)
  (hf:Instr.fill ((fs.map fun f=>(f.offset,P.cellsOf f.type)).toArray[·]?) zs.toArray (ps.map fun p=>(p.1,ev E p.2))=some cs.toArray):exec P E (.build t ps.toArray) ty w = .ok (.value (.agg cs.toArray)) w:=by
 refine AN ht hi hz hfs ?_
 rw[List.map_toArray,List.toList_toArray,hzs]
 exact hf
theorem In.nil{S:List Nat}{n l c:Nat}:In (.slice none l c) S n:=fun b hb=>by simp[ar] at hb
theorem tB{α:Type}[Flat α](vs:List Value)(l:List α){e:TypeId}{i:TypeInfo}{z:Value}{n:Nat}{ps:List (Nat×Operand)}(ht:P.underlying t=some (.slice e))(hi:P.info? e=some i)(hz:i.zero=some z)(hsz:i.size=Flat.sz α)(hzs:z.cells.size=Flat.sz α)
  (hps:(ps.map fun p=>(p.1,ev E p.2))=vs.zipIdx.map fun x=>(x.2,x.1)) (hv:vs.map (fun v=>v.cells.toList)=l.map Flat.enc) (hn:l.length=n) (hb:n*Flat.sz α≤16777216) :
  ∃v' w',exec P E (.buildSlice t n ps.toArray) ty w = .ok (.value v') w'∧Own w' v' l∧Chg [] w w'∧In v' [] w.heap.size:=by
 obtain⟨v',h1,h2,h3⟩:=my (ty:=ty) (w:=w) (ps:=ps.toArray) vs l ht hi hz hsz hzs (by rw[List.map_toArray,List.toList_toArray]; exact hps) hv hn hb
 exact⟨v',_,h1,h2,Chg.push _ _,h3⟩
theorem Own.form{α:Type}[Flat α]{w:World}{v:Value}{l:List α}(h:Own w v l){n:Nat}(hn:l.length=n):∃p c,v = .slice p n c:=by
 obtain⟨p,c,rfl,_⟩:=h; exact⟨p,c,by rw[hn]⟩
theorem Sl.form{α:Type}[Flat α]{w:World}{v:Value}{l:List α}(h:Sl w v l){n:Nat}(hn:l.length=n):∃p c,v = .slice p n c:=by
 obtain⟨p,c,rfl,_⟩:=h; exact⟨p,c,by rw[hn]⟩
theorem Sl.srcH{α:Type}[Flat α]{P:Program}{w w':World}{v:Value}{l:List α}(h:Sl w v l)(hh:Hp w' w):Src α P w' v l:=(h.heap hh).src
theorem nblk{b a off l c:Nat}{sp:Option Nat}(h:b≠a):b∉ar (.slice (some ⟨a,off,sp⟩) l c):=by
 simpa [ar] using h
theorem In.of_ge{a off l c n:Nat}{sp:Option Nat}{S:List Nat}(h:n≤a):In (.slice (some ⟨a,off,sp⟩) l c) S n:=fun b hb=>by
 simp only[ar,List.mem_singleton] at hb; subst hb; exact .inr h
theorem bs{P:Program}{n:Nat}{Q:gl}{E:Env}{w:World}{c:Operand}{x y:Code}{p:Prop}[d:Decidable p](hc:ev E c = .bool (decide p))(hp:p)(h:wpE P n x Q E w):wpE P n (.cond c x y) Q E w :=
 aC hc (fun _=>h) (fun h'=>absurd hp h')
theorem aF{P:Program}{n:Nat}{Q:gl}{E:Env}{w:World}{c:Operand}{x y:Code}{p:Prop}[d:Decidable p](hc:ev E c = .bool (decide p))(hp:¬p)(h:wpE P n y Q E w):wpE P n (.cond c x y) Q E w :=
 aC hc (fun h'=>absurd h' hp) (fun _=>h)
theorem Appended.step{α:Type}[Flat α]{vx v':Value}{l m:List α}{w w1 w2:World}(h:Appended vx l m w1 v' w2)(hc:Chg [] w w1)(hi:In vx [] w.heap.size):Own w2 v' (l++m)∧Chg [] w w2∧In v' [] w.heap.size :=
 ⟨h.own,hc.t0 h.mod hi.ge,h.inn.mono (fun b hb => .inr (hi.ge b hb)) hc.1⟩
theorem Own.some{α:Type}[Flat α]{w:World}{v:Value}{l:List α}(h:Own w v l){n:Nat}(hn:l.length=n)(hp:0<n):∃b off c,v = .slice (.some ⟨b,off,none⟩) n c:=by
 obtain⟨p,c,rfl,_,h⟩:=h
 cases p with
 | none => obtain ⟨rfl, _⟩ := h; simp at hn; omega
 | some a =>
  obtain⟨b,off,sp⟩:=a
  obtain⟨h1,_⟩:=h
  simp only at h1; subst h1
  exact⟨b,off,c,by rw[hn]⟩
theorem bR{P:Program}{E:Env}{op:Op}{ty:TypeId}{w:World}{v v':Value}(h:exec P E op ty w = .ok (.value v) w)(hv:v=v'):exec P E op ty w = .ok (.value v') w:=by rw[h,hv]
theorem nb1{l:List Nat}{b:Nat}(h:b∉l):∀x∈l,x∉[b]:=fun x hx he=>by
 simp only[List.mem_singleton] at he; subst he; exact h hx
theorem yo{a m m' r:List Value}{k:Nat}(h:m'.length=m.length)(hk:k=a.length):spl (a++m++r) k m'=a++m'++r:=by
 subst hk
 unfold spl
 rw[List.append_assoc a m r,List.take_left',h,←List.append_assoc,←List.length_append,List.drop_left']
 ·rfl
 ·rfl
end
theorem zz{m m' r:List Value}(h:m'.length=m.length):spl (m++r) 0 m'=m'++r:=by
 have:=yo (a:=[]) (r:=r) h rfl
 simpa using this
theorem Be{a r:List Value}{x x':Value}{k:Nat}(hk:k=a.length):spl (a++x::r) k [x']=a++x'::r:=by
 have:=yo (a:=a) (m:=[x]) (m':=[x']) (r:=r) rfl hk
 simpa using this
theorem im{α:Type}{a r m:List α}{k j:Nat}(hk:k=a.length)(hj:j=m.length):spl (a++r) k m=a++m++r.drop j:=by
 subst hk hj
 unfold spl
 rw[List.take_left',List.drop_append]
 ·congr 1; simp
 ·rfl
theorem CA{a r:List Value}{k i:Nat}{v:Value}(hk:k=a.length+i)(h:r[i]?=some v):(a++r)[k]?=some v:=by
 subst hk
 rw[List.getElem?_append_right (by omega),Nat.add_sub_cancel_left]; exact h
theorem jz{a r:List Value}:((a++r).drop 0).take a.length=a:=by simp
theorem Own.clip{α:Type}[Flat α]{w:World}{p:Option Addr}{n c:Nat}{l:List α}(h:Own w (.slice p n c) l):Own w (.slice p n n) l:=by
 obtain⟨p',cap,he,hlc,h⟩:=h
 simp only[Value.slice.injEq] at he
 obtain⟨rfl,rfl,rfl⟩:=he
 refine⟨p,l.length,rfl,Nat.le_refl _,?_⟩
 cases p with
 | none => exact ⟨h.1, by rw [h.1]; rfl⟩
 | some a =>
  obtain⟨h1,cs,e,fr,h2,h3,h4,h5⟩:=h
  refine⟨h1,cs,e,fr,h2,h3,?_,h5⟩
  have:l.length*Flat.sz α≤c*Flat.sz α:=Nat.mul_le_mul_right _ hlc
  omega
section
variable {α:Type}[Flat α]{P:Program}{E:Env}{w:World}{ty t t' u:TypeId}{x lo hi mx:Operand}
theorem x_clip{e:TypeId}{i:TypeInfo}{p:Option Addr}{c:Nat}{l:List α}{k k':IntKind}(ht:P.underlying t=some (.slice e))(hi':P.info? e=some i)(hx:ev E x = .slice p l.length c)(hs:Own w (.slice p l.length c) l)(hl:ev E hi = .int k l.length)(hm:ev E mx = .int k' l.length)(hc:l.length≤c) :
  ∃v',(∀w',exec P E (.slice t x none (some hi) (some mx)) ty w' = .ok (.value v') w')∧Own w v' l∧ar v'=ar (.slice p l.length c):=by
 refine⟨_,fun w'=>sn ht hi' hx hl hm (by omega) (by omega),?_,?_⟩
 ·have:=hs.clip
  cases p with
  | none => simpa using this
  | some a =>
   obtain⟨ab,ao,asp⟩:=a
   have h1:asp=none:=by
    obtain⟨p',cap,he,hlc,h⟩:=id this
    simp only[Value.slice.injEq] at he
    obtain⟨rfl,-,-⟩:=he
    exact h.1
   subst h1
   have hadd:(⟨ab,ao,none⟩:Addr).add 0=⟨ab,ao,none⟩:=by rw[dQ,Nat.add_zero]
   simpa [hadd] using this
 ·cases p with
  | none => simp [ar]
  | some a => rw [lg (p := some a) (l := l.length) (c := c) add_blk.symm]
theorem x_fromO(n:Nat){e:TypeId}{i:TypeInfo}{v:Value}{l:List α}{k:IntKind}{j:Int}(ht:P.underlying t=some (.slice e))(hi:P.info? e=some i)(hsz:i.size=Flat.sz α)(hs:Own w v l)(hx:ev E x=v)(hl:ev E lo = .int k j)(hn:j=n)(hj:n≤l.length) :
  ∃v',(∀w',exec P E (.slice t x (some lo) none none) ty w' = .ok (.value v') w')∧(∃p c,v' = .slice p (l.length-n) c)∧Own w v' (l.drop n)∧ar v'=ar v:=by
 subst hn
 obtain⟨p,cap,rfl,hlc,h⟩:=id hs
 refine⟨_,fun w'=>mq ht hi hx hl (by omega),⟨_,_,rfl⟩,?_,?_⟩
 ·have:=hs.cut_lo (lo:=n) hj
  rw[hsz]; simpa using this
 ·rw[lg (p:=p) (l:=l.length) (c:=cap) add_blk.symm]
theorem qa{i:TypeInfo}{z:Value}(l0:List α)(hi:P.info? t=some i)(hz:i.zero=some z)(hl:z.cells=(aV l0).toArray) :
  ∃v w1,exec P E (.alloc t) ty w = .ok (.value v) w1∧∃b,v = .pointer (some ⟨b,0,none⟩)∧w.heap.size≤b∧Arr w1 b l0∧Chg [] w w1∧b<w1.heap.size :=
 ⟨_,_,tD hi hz,_,rfl,Nat.le_refl _,⟨t,by rw[←hl]; exact eA _ _⟩,Chg.push _ _,by rw[eE]; omega⟩
theorem yf{y:Operand}{e:TypeId}{i:TypeInfo}{z:Value}{d:TypeDesc}{vx vy:Value}{l m:List α}(ht:P.underlying t=some (.slice e))(ht':P.underlying t'=some d)(hi:P.info? e=some i)(hd:d = .string∨∃e',d = .slice e')
  (hz:i.zero=some z) (hsz:i.size=Flat.sz α) (hzs:z.cells.size=Flat.sz α) (hby:i.bytes≤1024) (hl:Own w vx l) (hm:Src α P w vy m) (hx:ev E x=vx) (hy:ev E y=vy) (hb:l.length+m.length≤1073741824) :
  ∃v' w',exec P E (.call { callee := .builtin .append,args:=#[x,y],argTypes:=#[t,t'] }) ty w = .ok (.value v') w'∧Appended vx l m w v' w':=pZ ht ht' hd hi hz hsz hzs hby hx hy hl hm hb
theorem fD{a:Addr}{n c:Nat}{l:List UInt8}{e:TypeId}(ht:P.underlying t=some (.slice e))(he:P.underlying e=some (.int .u8))(hx:ev E x = .slice (some a) n c)(hs:Sl w (.slice (some a) n c) l) :
  ∃w',exec P E (.convert t t x) ty w = .ok (.value (.slice (some a) n c)) w'∧Sl w' (.slice (some a) n c) l∧Chg [a.block] w w'∧w'.heap.size=w.heap.size:=by
 obtain⟨p,cap,heq,hlc,hp⟩:=hs
 simp only[Value.slice.injEq] at heq
 obtain⟨rfl,rfl,rfl⟩:=heq
 obtain⟨h1,cs,ee,fr,hb,hc⟩:=hp
 obtain⟨ab,ao,asp⟩:=a
 simp only at h1 hb hc; subst h1
 have hsh:(shape ab).run P w = .ok (some (ee,cs.size)) w:=by
  show Result.ok (w.shape? ab) _=_
  unfold World.shape?; rw[hb]
 have hmk:(markStringish ⟨ab,ao,none⟩).run P w = .ok () (w.freeze ⟨ab,cs.size,none⟩ 1):=by
  unfold markStringish; rw[an hsh]; rfl
 refine⟨w.freeze ⟨ab,cs.size,none⟩ 1,?_,?_,?_,?_⟩
 ·rw[ue,hx]
  refine aU ?_
  unfold convert
  rw[an (run_underlying ht w),an (run_underlying ht w)]
  simp only[beq_self_eq_true]
  rw[an (run_underlying he w)]
  simp only[]
  rw[an hmk]; rfl
 ·refine⟨_,_,rfl,hlc,rfl,cs,ee,if fr.1==fr.2 then (cs.size,cs.size+1) else (min fr.1 cs.size,max fr.2 (cs.size+1)),?_,hc⟩
  unfold World.freeze
  simp only[Nat.one_ne_zero,if_false]
  rw[Array.getElem?_modify,if_pos rfl,hb]
  obtain⟨lo,hi⟩:=fr
  rfl
 ·refine⟨?_,fun b' _ hn=>?_,rfl,rfl⟩
  ·simp[World.freeze]
  ·simp only[World.freeze,Nat.one_ne_zero,if_false]
   rw[Array.getElem?_modify,if_neg (by simpa [eq_comm] using hn)]
 ·simp[World.freeze]
theorem lr(κ:Type)[Key κ]:∃v w',exec P E (.makeMap t none) ty w = .ok (.value v) w'∧∃r,v = .map (some r)∧w.heap.size≤r∧MapAt w' r ([]:List (κ×Value))∧Chg [] w w'∧r<w'.heap.size :=
 ⟨_,_,zh,_,rfl,Nat.le_refl _,MapAt.new w,Chg.push _ _,by rw[eE]; omega⟩
theorem jE(k:Nat){e:TypeId}{n b:Nat}{i:TypeInfo}{kd:IntKind}{j:Int}(ht:P.underlying t=some (.array n e))(hi':P.info? e=some i)(hx:ev E x = .pointer (some ⟨b,0,none⟩))(hl:ev E lo = .int kd j)(hj:j=k)(hk:k<n) :
  exec P E (.slice t x (some lo) none none) ty w = .ok (.value (.slice (some ⟨b,k*i.size,none⟩) (n-k) (n-k))) w:=by
 subst hj
 have:=AP (ty:=ty) (w:=w) ht hi' hx hl (by omega)
 rw[Int.toNat_natCast,if_neg (by omega),Nat.zero_add] at this
 exact this
theorem jD{y:Operand}{e:TypeId}{i:TypeInfo}{vx vy:Value}{l m:List α}(ht:P.underlying t=some (.slice e))(hi:P.info? e=some i)(hsz:i.size=Flat.sz α)(ho:Own w vx l)(hm:Src α P w vy m)(hl:0<l.length)(hx:ev E x=vx)(hy:ev E y=vy) :
  ∃w1,exec P E (.call { callee := .builtin .copy,args:=#[x,y],argTypes:=#[t,t'] }) ty w = .ok (.value (.int .i64 (min m.length l.length:Nat))) w1∧Own w1 vx (spl l 0 (m.take (min m.length l.length)))∧Chg (ar vx) w w1∧w1.heap.size=w.heap.size:=by
 obtain⟨p,cap,rfl,hlc,hp⟩:=ho
 cases p with
 | none => obtain ⟨rfl, _⟩ := hp; simp at hl
 | some a =>
  obtain⟨b,off,sp⟩:=a
  obtain⟨h1,c,ee,fr,h2,h3,h4,h5⟩:=hp
  simp only at h1 h2 h4 h5; subst h1
  have hroom:off+l.length*Flat.sz α≤c.size:=by
   have:l.length*Flat.sz α≤cap*Flat.sz α:=Nat.mul_le_mul_right _ hlc
   omega
  have hx':=wM (t':=t') (ty:=ty) ht hi hsz hx hy hm h2 h3 hroom
  have hml:(m.take (min m.length l.length)).length=min m.length l.length:=by rw[List.length_take]; omega
  have hsl:(spl l 0 (m.take (min m.length l.length))).length=l.length:=spl_len (by rw[hml]; omega)
  have hel:(aV (m.take (min m.length l.length))).length≤l.length*Flat.sz α:=by
   rw[aK,hml]; exact Nat.mul_le_mul_right _ (by omega)
  refine⟨_,hx',⟨some ⟨b,off,none⟩,cap,by rw[hsl],by rw[hsl]; exact hlc,rfl,_,ee,fr,dq (bH h2),h3.size (bU _ _ _),by rw[bU]; exact h4,?_⟩,(Chg.set _ _ _).mono (fun x hx _=>by simpa [ar] using hx),cU _ _ _⟩
  intro j z hj
  show(eP c off (aV (m.take (min m.length l.length))))[off+j]?=some z
  rw[fU _ _ _ _ (by omega)]
  have hsp:aV (spl l 0 (m.take (min m.length l.length)))=aV (m.take (min m.length l.length))++(aV l).drop ((aV (m.take (min m.length l.length))).length):=by
   rw[spl,List.take_zero,List.nil_append,cS,←dK,aK,Nat.zero_add]
  rw[hsp] at hj
  by_cases hlt:j<(aV (m.take (min m.length l.length))).length
  ·rw[List.getElem?_append_left hlt] at hj
   rw[if_pos (by omega),show off+j-off=j from by omega]; exact hj
  ·rw[List.getElem?_append_right (by omega),List.getElem?_drop] at hj
   rw[if_neg (by omega)]
   exact h5 j z (by rw[←hj]; congr 1; omega)
theorem AH{f:FuncId}{c:Operand}{v:Value}(hc:ev E c=v):exec P E (.makeFunc (.func f) #[] #[c]) ty w = .ok (.value (.func (.func f) #[] #[v])) w:=by
 subst hc
 have h:exec P E (.makeFunc (.func f) #[] #[c]) ty w=(gW (Instr.makeFunc (.func f) ((#[]:Array Operand).map (ev E)) (#[c].map (ev E)))).run P w:=rfl
 rw[h]
 simp only[List.map_toArray,List.map_cons,List.map_nil]
 rfl
theorem pR{b off:Nat}{l:List α}(n:Nat){dd:TypeDesc}{i:TypeInfo}(ht:P.underlying t=some dd)(hd:fM dd=true)(hi:P.info? t=some i)(hs:i.size=n*Flat.sz α)(h:At w b off (aV l))(hn:l.length=n)(hx:ev E x = .pointer (some ⟨b,off,none⟩)) :
  exec P E (.load t x) ty w = .ok (.value (bT l)) w:=bX ht hd hi hx h (by rw[hs,aK,hn])
end
section
variable {κ:Type}[Key κ]{P:Program}{n:Nat}{ops:Array Oper}{Q:gl}{E:Env}{w:World}{rest:List Oper}{d:Option Nat}{ty:TypeId}{x:Operand}{pos:String}{af:Array Edge}
theorem uG{q r:Nat}{m left:List (κ×Value)}(hd:dU d n=true)(h:IterAt w q r m left)(hx:ev E x = .pointer (some ⟨q,0,none⟩))
  (h0:left=[]→wpL P n ops Q rest (dC d (.tuple #[.bool false]) E) w)
  (h1:∀a k v b w',left=a++(k,v)::b→IterAt w' q r m (a++b)→CurAt w' q r k v→Chg [q] w w'→w'.heap.size=w.heap.size→wpL P n ops Q rest (dC d (.tuple #[.bool true,Key.enc k,v]) E) w') :
  wpL P n ops Q (⟨d,.next x false,ty,pos,af,none⟩::rest) E w:=by
 rcases x_next (P:=P) (ty:=ty) hx h with⟨k1,k2⟩ | ⟨a,k,v,b,w',k1,k2,k3,k4,k5,k6⟩
 ·exact a6 hd k2 (h0 k1)
 ·exact a6 hd k2 (h1 a k v b w' k1 k3 k4 k5 k6)
end
section
variable {α:Type}[Flat α]{P:Program}{n:Nat}{ops:Array Oper}{Q:gl}{E:Env}{w:World}{T:gD}{i:Nat}{p:Plan}{d:Option Nat}{ty t:TypeId}{x:Operand}{pos:String}{af:Array Edge}{g:Option (Nat×Bool)}
theorem mD{dd:TypeDesc}{nf:TypeInfo}{b off:Nat}{l:List α}(k:Nat)(ho:ops[i]?=some ⟨d,.load t x,ty,pos,af,g⟩)(hd:dU d n=true)(hw:cx ops E ⟨d,.load t x,ty,pos,af,g⟩=true)(ht:P.underlying t=some dd)(ha:fM dd=true)(hi:P.info? t=some nf)
  (hs:nf.size=k*Flat.sz α) (hc:At w b off (aV l)) (hn:l.length=k) (hx:ev E x = .pointer (some ⟨b,off,none⟩)) (h:wpP P n ops Q p ((i,fun w'=>At w' b off (aV l))::T) (dC d (bT l) E) w):wpP P n ops Q (.read i p) T E w :=
 dM ho hd hw (fun w'=>At w' b off (aV l)) hc (fun _ h1=>pR k ht ha hi hs h1 hn hx) h
end
end Go.Sac

end
section
namespace Go.Sac
open Go
abbrev Sec:={ l:List UInt8 // l.length=64 }
instance:Flat Sec:=⟨64,fun s=>aV s.1,fun s=>by rw[aK,s.2]; rfl,fun s=>eT s.1⟩
def sec0:Sec:=⟨List.replicate 64 0,rfl⟩
instance:Inhabited Sec:=⟨sec0⟩
structure DSt where
 steps:Nat
 offAt:Nat
 kept:List Sec
 pend:List (Int×Sec)
def fQ(m:List (Int×Sec)):List (Int×Value):=m.map fun p=>(p.1,bT p.2.1)
def DiskAt(w:World)(b:Nat)(kv:Value)(r:Nat)(s:DSt):Prop :=
 Blk w b [.int .i64 s.steps,.int .i64 s.offAt,kv,.map (some r)]∧Own w kv s.kept∧MapAt w r (fQ s.pend)∧b≠r∧b∉ar kv∧r∉ar kv
def DF(b:Nat)(kv:Value)(r:Nat):List Nat:=b::r::ar kv
theorem DiskAt.chg{w w':World}{b r:Nat}{kv:Value}{s:DSt}{S:List Nat}(h:DiskAt w b kv r s)(hm:Chg S w w')(hn:∀x∈DF b kv r,x∉S):DiskAt w' b kv r s:=by
 obtain⟨h1,h2,h3,h4⟩:=h
 exact⟨h1.chg hm (hn b (by simp[DF])),h2.mod hm (fun x hx=>hn x (by simp[DF,hx])),h3.mod hm (hn r (by simp[DF])),h4⟩
theorem DiskAt.chg0{w w':World}{b r:Nat}{kv:Value}{s:DSt}(h:DiskAt w b kv r s)(hm:Chg [] w w'):DiskAt w' b kv r s:=h.chg hm (by simp)
theorem DiskAt.lt{w:World}{b r:Nat}{kv:Value}{s:DSt}(h:DiskAt w b kv r s):∀x∈DF b kv r,x<w.heap.size:=by
 obtain⟨h1,h2,h3,h4⟩:=h
 intro x hx
 simp only[DF,List.mem_cons] at hx
 rcases hx with rfl | rfl | hx
 ·exact h1.lt
 ·exact h3.lt
 ·exact h2.sl.lt x hx
namespace DSt
def off(s:DSt):Bool:=decide (0<s.offAt)&&decide (s.offAt≤s.steps)
def step(s:DSt):DSt:={ s with steps:=s.steps+1 }
def is(s:DSt)(i:Int):Bool:=decide (0≤i)&&decide (i<s.kept.length)
def now(s:DSt)(i:Int):Sec:=(bV i s.pend).getD (s.kept.getD i.toNat sec0)
def putS(c:Sec)(b:List UInt8):Sec:=⟨(b++c.1.drop b.length).take 64,by
 have:=c.2
 rw[List.length_take,List.length_append,List.length_drop]; omega⟩
def write(s:DSt)(i:Int)(b:List UInt8):DSt×Int :=
 if s.step.off then (s.step,61)
 else if !s.is i||decide (64<b.length) then (s.step,60)
 else ({ s.step with pend:=dj i (putS (s.now i) b) s.pend },0)
def apply(k:List Sec)(m:List (Int×Sec)):List Sec:=k.mapIdx fun i c=>(bV (i:Int) m).getD c
def flush(s:DSt):DSt×Int :=
 if s.step.off then (s.step,61) else ({ s.step with kept:=apply s.kept s.pend,pend:=[] },0)
def power(s:DSt)(n:Int):DSt :=
 if s.off then s else if n≤0 then { s with offAt:=0 } else { s with offAt:=s.steps+(min n 1099511627776).toNat }
structure Fine(s:DSt):Prop where
 steps:s.steps≤1000000000000
 offAt:s.offAt≤4000000000000
 keys:∀p∈s.pend,0≤p.1∧p.1<s.kept.length
 size:s.kept.length≤4000
end DSt
theorem xo(i:Int)(m:List (Int×Sec)):bV i (fQ m)=(bV i m).map fun c=>bT c.1:=by
 induction m with
 | nil => rfl
 | cons p m ih =>
  obtain⟨k,c⟩:=p
  simp only[fQ,List.map_cons,bV]
  by_cases h:i=k
  ·simp[h]
  ·simp only[h,if_false]; exact ih
theorem vB(i:Int)(c:Sec)(m:List (Int×Sec)):dj i (bT c.1) (fQ m)=fQ (dj i c m):=by
 induction m with
 | nil => rfl
 | cons p m ih =>
  obtain⟨k,c'⟩:=p
  simp only[fQ,List.map_cons,dj]
  by_cases h:i=k
  ·simp[h]
  ·simp only[h,if_false,List.map_cons]; exact congrArg _ ih
theorem lookP(i:Int)(m:List (Int×Sec)):(Value.tuple #[(bV i (fQ m)).getD (bT sec0.1),.bool (bV i (fQ m)).isSome]) = .tuple #[bT ((bV i m).getD sec0).1,.bool (bV i m).isSome]:=by
 rw[xo]
 cases bV i m <;> rfl
theorem uO{α:Type}(l m:List α):spl l 0 m=m++l.drop m.length:=by simp[spl]
theorem l7(c:Sec)(b:List UInt8)(h:b.length≤64):(DSt.putS c b).1=b++c.1.drop b.length:=by
 have:=c.2
 exact List.take_of_length_le (by rw[List.length_append,List.length_drop]; omega)
theorem uI(m:List (Int×Sec))(a b:List (Int×Value))(k:Int)(v:Value)(h:fQ m=a++(k,v)::b):∃a' c b',m=a'++(k,c)::b'∧v=bT c.1∧a=fQ a'∧b=fQ b':=by
 unfold fQ at h
 obtain⟨a',m',rfl,ha,hm⟩:=List.map_eq_append_iff.1 h
 obtain⟨p,b',rfl,hp,hb⟩:=List.map_eq_cons_iff.1 hm
 obtain⟨k',c⟩:=p
 simp only[Prod.mk.injEq] at hp
 obtain⟨rfl,rfl⟩:=hp
 exact⟨a',c,b',rfl,rfl,ha.symm,hb.symm⟩
theorem tE(a b:List (Int×Sec)):fQ (a++b)=fQ a++fQ b:=by simp[fQ]
theorem wQ(m:List (Int×Sec)):(fQ m).map (·.1)=m.map (·.1):=by simp[fQ]
theorem nU{κ ν:Type}[DecidableEq κ]{k:κ}{m:List (κ×ν)}(h:k∉m.map (·.1)):bV k m=none:=by
 induction m with
 | nil => rfl
 | cons p m ih =>
  obtain⟨x,u⟩:=p
  simp only[List.map_cons,List.mem_cons,not_or] at h
  simp only[bV,h.1,if_false]; exact ih h.2
theorem hE{κ ν:Type}[DecidableEq κ]{k:κ}{v:ν}{m:List (κ×ν)}(hn:(m.map (·.1)).Nodup):bV k m=some v↔(k,v)∈m:=by
 induction m with
 | nil => simp [bV]
 | cons p m ih =>
  obtain⟨x,u⟩:=p
  simp only[List.map_cons,List.nodup_cons] at hn
  simp only[bV,List.mem_cons,Prod.mk.injEq]
  by_cases h:k=x
  ·subst h
   simp only[if_true,Option.some.injEq,true_and]
   constructor
   ·intro h; exact .inl h.symm
   ·rintro(h | h)
    ·exact h.symm
    ·exact absurd (List.mem_map.2 ⟨_,h,rfl⟩) hn.1
  ·simp only[h,if_false,false_and,false_or]; exact ih hn.2
theorem zU{κ ν:Type}[DecidableEq κ]{m m':List (κ×ν)}(hp:m.Perm m')(hn:(m.map (·.1)).Nodup)(k:κ):bV k m=bV k m':=by
 have hn':(m'.map (·.1)).Nodup:=(hp.map _).nodup_iff.1 hn
 cases h:bV k m with
 | none =>
  cases h':bV k m' with
  | none => rfl
  | some v =>
   have:=(hE hn').1 h'
   rw[(hE hn).2 (hp.mem_iff.2 this)] at h; cases h
 | some v =>
  have:=(hE hn).1 h
  rw[(hE hn').2 (hp.mem_iff.1 this)]
theorem oJ{κ ν:Type}[DecidableEq κ](k:κ)(a b:List (κ×ν)):bV k (a++b)=(bV k a).or (bV k b):=by
 induction a with
 | nil => rfl
 | cons p a ih =>
  obtain⟨x,u⟩:=p
  simp only[List.cons_append,bV]
  by_cases h:k=x
  ·simp[h]
  ·simp only[h,if_false]; exact ih
theorem xQ{m m':List (Int×Sec)}(hp:m.Perm m')(hn:(m.map (·.1)).Nodup)(k:List Sec):DSt.apply k m=DSt.apply k m':=by
 unfold DSt.apply; congr 1; funext i c; rw[zU hp hn]
theorem tq(k:List Sec):DSt.apply k []=k:=by
 unfold DSt.apply
 apply List.ext_getElem?
 intro i
 rw[List.getElem?_mapIdx]
 cases k[i]? <;> rfl
theorem jT(k:List Sec)(m:List (Int×Sec)):(DSt.apply k m).length=k.length:=by simp[DSt.apply]
theorem rp(k:List Sec)(m:List (Int×Sec))(i:Int)(c:Sec)(hi:0≤i)(hn:i∉m.map (·.1)):DSt.apply k (m++[(i,c)])=(DSt.apply k m).set i.toNat c:=by
 apply List.ext_getElem?
 intro j
 unfold DSt.apply
 rw[List.getElem?_mapIdx,List.getElem?_set]
 by_cases hj:i.toNat=j
 ·subst hj
  rw[if_pos rfl,show((i.toNat:Nat):Int)=i from by omega]
  rw[oJ,nU hn,List.length_mapIdx]
  by_cases hl:i.toNat<k.length
  ·rw[if_pos hl,List.getElem?_eq_getElem hl]; simp[bV]
  ·rw[if_neg hl,List.getElem?_eq_none (by omega)]; rfl
 ·rw[if_neg hj,List.getElem?_mapIdx]
  have:bV (j:Int) (m++[(i,c)])=bV (j:Int) m:=by
   rw[oJ]
   have h2:¬((j:Int)=i):=by omega
   simp[bV,h2]
  rw[this]
def yj(c:UInt8):Nat:=if c=255 then 64 else c.toNat % 64
theorem B8(c:UInt8):yj c≤64:=by unfold yj; split <;> omega
def tornS(was now:Sec)(c:UInt8):Sec:=⟨now.1.take (yj c)++was.1.drop (yj c),by
 have h1:=was.2
 have h2:=now.2
 have:=B8 c
 rw[List.length_append,List.length_take,List.length_drop]; omega⟩
def imageOf(k:List Sec):List UInt8:=k.flatMap (·.1)
theorem xm{ν:Type}(k:Int)(v:ν)(m:List (Int×ν)):∀p∈dj k v m,p.1=k∨∃q∈m,q.1=p.1:=by
 induction m with
 | nil => intro p hp; simp [dj] at hp; subst hp; exact .inl rfl
 | cons q m ih =>
  obtain⟨x,u⟩:=q
  intro p hp
  simp only[dj] at hp
  by_cases h:k=x
  ·rw[if_pos h] at hp
   rcases List.mem_cons.1 hp with rfl | hp
   ·exact .inl h.symm
   ·exact .inr ⟨p,by simp[hp],rfl⟩
  ·rw[if_neg h] at hp
   rcases List.mem_cons.1 hp with rfl | hp
   ·exact .inr ⟨_,by simp,rfl⟩
   ·rcases ih p hp with h1 | ⟨q,hq,h1⟩
    ·exact .inl h1
    ·exact .inr ⟨q,by simp[hq],h1⟩
theorem DSt.Fine.write{s:DSt}(h:s.Fine)(hs:s.steps+1≤1000000000000)(i:Int)(l:List UInt8):(s.write i l).1.Fine:=by
 obtain⟨h1,h2,h3,h4⟩:=h
 have h0:s.step.Fine:=⟨hs,h2,h3,h4⟩
 unfold DSt.write
 split
 ·exact h0
 ·split
  ·exact h0
  ·rename_i hi
   have his:s.is i=true:=by simp at hi; exact hi.1
   have:0≤i∧i<s.kept.length:=by simpa [DSt.is] using his
   refine⟨hs,h2,fun p hp=>?_,h4⟩
   rcases xm _ _ _ p hp with h | ⟨q,hq,h⟩
   ·rw[h]; exact this
   ·rw[←h]; exact h3 q hq
theorem DSt.Fine.flush{s:DSt}(h:s.Fine)(hs:s.steps+1≤1000000000000):s.flush.1.Fine:=by
 obtain⟨h1,h2,h3,h4⟩:=h
 unfold DSt.flush
 split
 ·exact⟨hs,h2,h3,h4⟩
 ·exact⟨hs,h2,fun p hp=>by simp at hp,by show(DSt.apply _ _).length≤4000; rw[jT]; exact h4⟩
theorem DSt.write_steps(s:DSt)(i:Int)(l:List UInt8):(s.write i l).1.steps=s.steps+1:=by
 unfold DSt.write; split
 ·rfl
 ·split <;> rfl
theorem DSt.flush_steps(s:DSt):s.flush.1.steps=s.steps+1:=by unfold DSt.flush; split <;> rfl
theorem DSt.write_kept(s:DSt)(i:Int)(l:List UInt8):(s.write i l).1.kept=s.kept:=by
 unfold DSt.write; split
 ·rfl
 ·split <;> rfl
theorem DSt.flush_len(s:DSt):s.flush.1.kept.length=s.kept.length:=by
 unfold DSt.flush; split
 ·rfl
 ·exact jT _ _
theorem DSt.is_iff{s:DSt}{i:Int}:s.is i=true↔0≤i∧i<s.kept.length:=by simp[DSt.is]
theorem DiskAt.turn{w w':World}{b r:Nat}{kv:Value}{s s':DSt}(h:DiskAt w b kv r s)(hb:Blk w' b [.int .i64 s'.steps,.int .i64 s'.offAt,kv,.map (some r)])(hm:Chg [b] w w')(hk:s'.kept=s.kept)(hp:s'.pend=s.pend):DiskAt w' b kv r s':=by
 obtain⟨h1,h2,h3,h4,h5,h6⟩:=h
 exact⟨hb,by rw[hk]; exact h2.mod hm (nb1 h5),by rw[hp]; exact h3.mod hm (by simpa using Ne.symm h4),h4,h5,h6⟩
theorem ot{b r:Nat}{kv:Value}{w w':World}(h:Chg [b] w w'):Chg (DF b kv r) w w':=h.mono (fun x hx _=>by simp at hx; subst hx; simp[DF])
def Bf(l:List Int):List Int:=l.mergeSort (fun x y=>decide (x≤y))
def kQ(m:List (Int×Sec)):List Int→List UInt8→List Sec→List Sec
 | [], _, k => k
 | i :: is, ch, k => kQ m is (ch.drop 1) (k.set i.toNat (tornS (k.getD i.toNat sec0) ((bV i m).getD sec0) (ch.headD 0)))
def DSt.crash(s:DSt)(ch:List UInt8):DSt:=⟨s.steps,0,kQ s.pend (Bf (s.pend.map (·.1))) ch s.kept,[]⟩
theorem lG(m:List (Int×Sec))(is:List Int)(ch:List UInt8)(k:List Sec):(kQ m is ch k).length=k.length:=by
 induction is generalizing ch k with
 | nil => rfl
 | cons i is ih => rw [kQ, ih, List.length_set]
end Go.Sac

end
section
namespace Go.Sac
open Go Go.Maps Go.Proofs Go.Shelf
end Go.Sac

end
section
namespace Go.Sac
open Go
theorem drw(w:World):Chg [] w { w with drawn:=w.drawn+1 }:=Chg.heap rfl
theorem rD(z:Value)(n:Nat):Builtin.zeroCells #[z] n=(List.replicate n z).toArray:=by
 unfold Builtin.zeroCells
 apply Array.ext
 ·simp
 ·intro i h1 h2
  simp[Nat.mod_one]
section
variable {P:Program}{E:Env}{w:World}{ty t t':TypeId}{x y:Operand}
theorem ye{α:Type}[Flat α](vs:List Value)(l:List α){e:TypeId}{i:TypeInfo}{z:Value}{n:Nat}{ps:List (Nat×Operand)}(ht:P.underlying t=some (.slice e))(hi:P.info? e=some i)(hz:i.zero=some z)(hsz:i.size=Flat.sz α)(hzs:z.cells.size=Flat.sz α)
  (hps:(ps.map fun p=>(p.1,ev E p.2))=vs.zipIdx.map fun x=>(x.2,x.1)) (hv:vs.map (fun v=>v.cells.toList)=l.map Flat.enc) (hn:l.length=n) (hb:n*Flat.sz α≤16777216) :
  ∃v' w',exec P E (.buildSlice t n ps.toArray) ty w = .ok (.value v') w'∧(∃p c,v' = .slice p n c)∧Own w' v' l∧Chg [] w w'∧In v' [] w.heap.size:=by
 obtain⟨v',w',h1,h2,h3,h4⟩:=tB (ty:=ty) (w:=w) vs l ht hi hz hsz hzs hps hv hn hb
 exact⟨v',w',h1,h2.form hn,h2,h3,h4⟩
def SubOf(α:Type)[Flat α](v v':Value)(k n:Nat):Prop:=∃b off c,v = .slice (some ⟨b,off,none⟩) n c∧v' = .slice (some ⟨b,off+k*Flat.sz α,none⟩) (n-k) (c-k)
theorem fk{α:Type}[Flat α](k:Nat){lo:Operand}{e:TypeId}{i:TypeInfo}{v:Value}{l:List α}{kd:IntKind}{j:Int}(ht:P.underlying t=some (.slice e))(hi:P.info? e=some i)(hsz:i.size=Flat.sz α)(ho:Own w v l)(hx:ev E x=v)(hl:ev E lo = .int kd j)(hj:j=k)(hk:k<l.length) :
  ∃v',(∀w',exec P E (.slice t x (some lo) none none) ty w' = .ok (.value v') w')∧SubOf α v v' k l.length:=by
 subst hj
 obtain⟨p,c,rfl,hlc,hp⟩:=ho
 cases p with
 | none => obtain ⟨rfl, _⟩ := hp; simp at hk
 | some a =>
  obtain⟨b,off,sp⟩:=a
  obtain⟨h1,_⟩:=hp
  simp only at h1; subst h1
  refine⟨_,fun w'=>mq ht hi hx hl (by omega),b,off,c,rfl,?_⟩
  rw[Int.toNat_natCast,if_neg (by omega),hsz]
  simp only[Option.map_some,dQ]
theorem cT{α:Type}[Flat α]{e:TypeId}{i:TypeInfo}{v v' vy:Value}{l m:List α}{k:Nat}(ht:P.underlying t=some (.slice e))(hi:P.info? e=some i)(hsz:i.size=Flat.sz α)(ho:Own w v l)(hs:SubOf α v v' k l.length)(hk:k<l.length)(hm:Src α P w vy m)(hx:ev E x=v')(hy:ev E y=vy) :
  ∃w1,exec P E (.call { callee := .builtin .copy,args:=#[x,y],argTypes:=#[t,t'] }) ty w = .ok (.value (.int .i64 (min m.length (l.length-k):Nat))) w1∧Own w1 v (spl l k (m.take (min m.length (l.length-k))))∧Chg (ar v) w w1∧w1.heap.size=w.heap.size:=by
 obtain⟨b,off,c,rfl,rfl⟩:=hs
 obtain⟨p,cap,hpe,hlc,hp⟩:=ho
 simp only[Value.slice.injEq] at hpe
 obtain⟨rfl,_,rfl⟩:=hpe
 obtain⟨h1,cc,ee,fr,h2,h3,h4,h5⟩:=hp
 simp only at h1 h2 h4 h5
 have hlm:l.length*Flat.sz α≤c*Flat.sz α:=Nat.mul_le_mul_right _ hlc
 have hkm:k*Flat.sz α+(l.length-k)*Flat.sz α=l.length*Flat.sz α:=by rw[←Nat.add_mul]; congr 1; omega
 have hroom:off+k*Flat.sz α+(l.length-k)*Flat.sz α≤cc.size:=by omega
 have hx':=wM (t':=t') (ty:=ty) ht hi hsz hx hy hm h2 h3 hroom
 have hml:(m.take (min m.length (l.length-k))).length=min m.length (l.length-k):=by rw[List.length_take]; omega
 have hsl:(spl l k (m.take (min m.length (l.length-k)))).length=l.length:=by
  unfold spl; simp only[List.length_append,List.length_take,List.length_drop]; omega
 have hel:(aV (m.take (min m.length (l.length-k)))).length≤(l.length-k)*Flat.sz α:=by
  rw[aK,hml]; exact Nat.mul_le_mul_right _ (by omega)
 refine⟨_,hx',⟨some ⟨b,off,none⟩,c,by rw[hsl],by rw[hsl]; exact hlc,rfl,_,ee,fr,dq (bH h2),h3.size (bU _ _ _),by rw[bU]; exact h4,?_⟩,(Chg.set _ _ _).mono (fun x hx _=>by simpa [ar] using hx),cU _ _ _⟩
 intro j z hj
 show(eP cc (off+k*Flat.sz α) (aV (m.take (min m.length (l.length-k)))))[off+j]?=some z
 rw[fU _ _ _ _ (by omega)]
 have hsp:aV (spl l k (m.take (min m.length (l.length-k))))=(aV l).take (k*Flat.sz α)++(aV (m.take (min m.length (l.length-k)))++(aV l).drop ((k+(m.take (min m.length (l.length-k))).length)*Flat.sz α)):=by
  rw[spl,cS,cS,←fi,←dK,List.append_assoc]
 have hkl:((aV l).take (k*Flat.sz α)).length=k*Flat.sz α:=by rw[List.length_take,aK]; exact Nat.min_eq_left (Nat.mul_le_mul_right _ (by omega))
 rw[hsp] at hj
 by_cases hlt:j<k*Flat.sz α
 ·rw[List.getElem?_append_left (by omega),List.getElem?_take,if_pos hlt] at hj
  rw[if_neg (by omega)]; exact h5 j z hj
 ·rw[List.getElem?_append_right (by omega),hkl] at hj
  by_cases hlt2:j-k*Flat.sz α<(aV (m.take (min m.length (l.length-k)))).length
  ·rw[List.getElem?_append_left hlt2] at hj
   rw[if_pos (by omega),show off+j-(off+k*Flat.sz α)=j-k*Flat.sz α by omega]; exact hj
  ·rw[List.getElem?_append_right (by omega),List.getElem?_drop,aK] at hj
   rw[aK] at hlt2
   rw[if_neg (by rw[aK]; omega)]
   refine h5 j z ?_
   rw[←hj,Nat.add_mul]
   congr 1; omega
theorem mz{α:Type}[Flat α](vs:List Value)(l:List α){e:TypeId}{i:TypeInfo}{z:Value}{n:Nat}{ps:List (Nat×Operand)}(ht:P.underlying t=some (.slice e))(hi:P.info? e=some i)(hz:i.zero=some z)(hsz:i.size=Flat.sz α)(hzs:z.cells.size=Flat.sz α)
  (hps:(ps.map fun p=>(p.1,ev E p.2))=vs.zipIdx.map fun x=>(x.2,x.1)) (hv:vs.map (fun v=>v.cells.toList)=l.map Flat.enc) (hn:l.length=n) (hb:n*Flat.sz α≤16777216) (h0:0<n) :
  ∃v' w',exec P E (.buildSlice t n ps.toArray) ty w = .ok (.value v') w'∧(∃b o c,v' = .slice (some ⟨b,o,none⟩) n c)∧Own w' v' l∧Chg [] w w'∧In v' [] w.heap.size:=by
 obtain⟨v',w',h1,h2,h3,h4⟩:=tB (ty:=ty) (w:=w) vs l ht hi hz hsz hzs hps hv hn hb
 exact⟨v',w',h1,h2.some hn h0,h2,h3,h4⟩
theorem jf{d:TypeId}{a:List UInt8}(hx:ev E x=str a)(ht:P.underlying d=some .string):exec P E (.call { callee := .builtin .len,args:=#[x],argTypes:=#[d] }) ty w = .ok (.value (.int .i64 a.length)) w:=by
 rw[zk hx ht]; simp[ByteArray.size]
theorem sm{u:TypeId}{a b:List UInt8}(hx:ev E x=str a)(hy:ev E y=str b):exec P E (.binOp .eql t x y u) ty w = .ok (.value (.bool (decide (a=b)))) w:=by
 rw[x_streq hx hy]
 congr 3
 simp only[ByteArray.toList_eq]
 rw[Bool.eq_iff_iff]; simp
theorem uy{u:TypeId}{a b:List UInt8}(hx:ev E x=str a)(hy:ev E y=str b):exec P E (.binOp .neq t x y u) ty w = .ok (.value (.bool (decide (a≠b)))) w:=by
 rw[x_strne hx hy]
 congr 3
 simp only[ByteArray.toList_eq]
 rw[Bool.eq_iff_iff]; simp
theorem AQ{e:TypeId}{i:TypeInfo}{k:IntKind}{vx:Value}{l:List UInt8}{j:Int}(m:Nat)(ht:P.underlying t=some (.slice e))(ht':P.underlying t'=some (.int k))(hi:P.info? e=some i)(hz:i.zero=some (.int .u8 0))(hsz:i.size=1)
  (hby:i.bytes≤1024) (hl:Own w vx l) (hx:ev E x=vx) (hy:ev E y = .int .i64 j) (hj:j=m) (hb:l.length+m≤1073741824) :
  ∃v' w',exec P E (.call { callee := .builtin .append,args:=#[x,y],argTypes:=#[t,t'] }) ty w = .ok (.value v') w'∧Appended vx l (List.replicate m (0:UInt8)) w v' w':=by
 subst hj
 obtain⟨p,cap,rfl,hlc,hp⟩:=hl
 have hown:Own w (.slice p l.length cap) l:=⟨p,cap,rfl,hlc,hp⟩
 have hzc:(Value.int .u8 0).cells=#[Value.int .u8 0]:=rfl
 have henc:∀n,aV (List.replicate n (0:UInt8))=List.replicate n (.int .u8 0):=fun n=>by
  rw[nx,List.map_replicate]; rfl
 have key:∃v' w',(Builtin.append_ #[t,t'] ty #[.slice p l.length cap,.int .i64 m]).run P w = .ok v' w'∧Appended (.slice p l.length cap) l (List.replicate m (0:UInt8)) w v' w':=by
  unfold Builtin.append_
  simp only[List.getElem?_toArray,List.getElem?_cons_zero,List.getElem?_cons_succ]
  rw[an (run_underlying ht w)]
  simp only[]
  rw[an (bE hi w)]
  rw[an (run_underlying ht' w)]
  have happ:∀w':World,(if m*i.size=0 then (pure #[]:Sem (Array Value)) else do pure (Builtin.zeroCells (←zeroValue e).cells m)).run P w' = .ok (aV (List.replicate m (0:UInt8))).toArray w':=fun w'=>by
   rw[hsz,Nat.mul_one]
   by_cases h0:m=0
   ·rw[if_pos h0,h0]; rfl
   ·rw[if_neg h0,an (cD hi hz w'),hzc,rD,henc]; rfl
  simp only[pure_bind,bind_assoc,if_true,Bool.not_true,Bool.false_eq_true,if_false]
  have ha:(asInt (.int .i64 (m:Int))).run P w = .ok (m:Int) w:=rfl
  rw[an ha,gU (by omega)]
  rw[if_neg (by omega)]
  rw[an (cJ hi w)]
  have hnb0:¬((m:Int)*(i.bytes:Int) > 2 ^ 48):=by
   have:m*i.bytes≤1073741824*1024:=Nat.mul_le_mul (by omega) hby
   have h2:((m*i.bytes:Nat):Int)≤1073741824*1024:=by omega
   rw[Int.natCast_mul] at h2
   omega
  rw[if_neg hnb0]
  simp only[pure_bind,Int.toNat_natCast]
  by_cases hc:l.length+m≤cap
  ·rw[if_pos hc]
   rw[an (happ w)]
   cases p with
   | none =>
    obtain⟨rfl,rfl⟩:=hp
    have hm0:m=0:=by simpa using hc
    subst hm0
    exact⟨_,w,rfl,⟨none,0,rfl,Nat.zero_le _,rfl,rfl⟩,Chg.refl' _ _,by intro b hb; simp[ar] at hb⟩
   | some a =>
    obtain⟨b,off,sp⟩:=a
    obtain⟨h1,c,ee,fr,h2,h3,h4,h5⟩:=hp
    simp only at h1 h2 h4 h5; subst h1
    have hz1:Flat.sz UInt8=1:=rfl
    rw[hz1,Nat.mul_one] at h4
    have hlen:(aV (List.replicate m (0:UInt8))).length=m:=by rw[henc,List.length_replicate]
    have hll:(aV l).length=l.length:=by rw[aK,hz1,Nat.mul_one]
    have hroom:off+l.length+(aV (List.replicate m (0:UInt8))).length≤c.size:=by omega
    simp only[dQ,hsz,Nat.mul_one]
    rw[an (dL _ h2 (by simpa using hroom) h3 (by simpa using eT _))]
    refine⟨_,_,rfl,⟨some ⟨b,off,none⟩,cap,by rw[List.length_append,List.length_replicate],by simpa using hc,rfl,_,ee,fr,dq (bH h2),h3.size (bU _ _ _),by rw[bU,hz1,Nat.mul_one]; exact h4,?_⟩,?_,?_⟩
    ·intro k q hk
     rw[cS] at hk
     simp only at hk ⊢
     by_cases hkl:k<(aV l).length
     ·rw[List.getElem?_append_left hkl] at hk
      exact mS (by simpa using hroom) (h5 k q hk) (by omega)
     ·rw[List.getElem?_append_right (by omega)] at hk
      have:=qF (c:=c) (off:=off+l.length) (vs:=(aV (List.replicate m (0:UInt8))).toArray.toList) (by simpa using hroom) (by simpa using hk)
      rw[show off+l.length+(k-(aV l).length)=off+k from by omega] at this
      exact this
    ·exact(Chg.set _ _ _).mono (fun b hb _=>by simpa [ar] using hb)
    ·intro b hb; left; simpa [ar] using hb
  ·rw[if_neg hc]
   have hov:¬((l.length+m:Nat):Int) > IntKind.i64.max:=by
    have:IntKind.i64.max=9223372036854775807:=by decide
    omega
   rw[an (cJ hi w),if_neg (by intro h; exact absurd h.1 hov),an (cJ hi w)]
   have hnc:=lR (l.length+m) cap (by omega)
   have hnb:¬Builtin.nextslicecap (l.length+m) cap*i.bytes > 2 ^ 48:=by
    have:Builtin.nextslicecap (l.length+m) cap*i.bytes≤(4*1073741824+2000)*1024:=Nat.mul_le_mul (by omega) hby
    omega
   rw[if_neg hnb]
   obtain⟨nc,hnc1,hch⟩:=jG (P:=P) (w:=w) (need:=l.length+m) (cap:=cap) (e:=e)
   rw[an hch]
   rw[an (cJ hi _),an j9]
   have hf1:=((hown.sl.heap (w':={ w with drawn:=w.drawn+1 }) rfl).first (P:=P) l.length (Nat.le_refl _))
   rw[List.take_length] at hf1
   rw[hsz]
   have h1:Flat.sz UInt8=1:=rfl
   rw[h1] at hf1
   rw[an hf1]
   have happ':=happ { w with drawn:=w.drawn+1 }
   rw[hsz] at happ'
   rw[an happ',an (cD hi hz _)]
   refine⟨.slice (some ⟨w.heap.size,0,none⟩) (l++List.replicate m (0:UInt8)).length nc,_,?_,mX (w:={ w with drawn:=w.drawn+1 }) (l:=l++List.replicate m (0:UInt8)) (e:=e) (rest:=Builtin.zeroCells (Value.int .u8 0).cells (nc-(l.length+m))) (cap:=nc) (by simpa using hnc1) ?_,?_,?_⟩
   ·rw[List.length_append,List.length_replicate,cS]
    simp only[←List.append_toArray]
    rfl
   ·rw[iE,List.length_append,List.length_replicate]; rfl
   ·exact(Chg.push { w with drawn:=w.drawn+1 } _).mono (by simp)
   ·intro b hb; right; simp only[ar,List.mem_singleton] at hb; omega
 obtain⟨v',w',h1,h2⟩:=key
 refine⟨v',w',?_,h2⟩
 rw[nA,hx,hy]
 exact aU h1
end
end Go.Sac

end
section
namespace Go.Sac
open Go
abbrev W48:={ l:List UInt8 // l.length=48 }
def w48z:W48:=⟨List.replicate 48 0,rfl⟩
structure Slt where
 w:W48
 gen:UInt64
def slt0:Slt:=⟨w48z,0⟩
def vSlt(x:Slt):Value := .agg (aV x.w.1++[Value.int .u64 x.gen.toNat]).toArray
structure SSt where
 full:List (Int×Slt)
 puts:UInt64
 dead:Bool
def vFull(m:List (Int×Slt)):List (Int×Value):=m.map fun p=>(p.1,vSlt p.2)
def SlotAt(w:World)(sb fr b:Nat)(s:SSt):Prop :=
 Blk w sb [.pointer (some ⟨b,0,none⟩),.map (some fr),.int .u64 s.puts.toNat,.bool s.dead]∧MapAt w fr (vFull s.full)∧sb≠fr
theorem SlotAt.chg{w w':World}{sb fr b:Nat}{s:SSt}{S:List Nat}(h:SlotAt w sb fr b s)(hm:Chg S w w')(h1:sb∉S)(h2:fr∉S):SlotAt w' sb fr b s :=
 ⟨h.1.chg hm h1,h.2.1.mod hm h2,h.2.2⟩
theorem SlotAt.chg0{w w':World}{sb fr b:Nat}{s:SSt}(h:SlotAt w sb fr b s)(hm:Chg [] w w'):SlotAt w' sb fr b s:=h.chg hm (by simp) (by simp)
def dE(n:Nat)(w:List UInt8):List UInt8:=be 8 n++w++be 8 n
def wR(l:List UInt8):UInt64:=UInt64.ofNat (cL (l.take 8))
def B2(l:List UInt8):UInt64:=UInt64.ofNat (cL (((l.drop 8).drop 48).take 8))
def zq(l:List UInt8):W48:=⟨((l.drop 8).take 48++List.replicate 48 0).take 48,by simp⟩
def da(l:List UInt8):UInt64×W48:=if B2 l=wR l then (wR l,zq l) else (0,w48z)
def jr(l:List UInt8):List UInt8:=l++List.replicate (64-l.length) 0
theorem fB(n:Nat)(w:List UInt8):(dE n w).length=16+w.length:=by simp[dE,aI]; omega
theorem jK(l:List UInt8)(h:l.length≤64):(jr l).length=64:=by simp[jr]; omega
theorem unfW_eq(l:List UInt8)(h:l.length=64):(zq l).1=(l.drop 8).take 48:=by
 unfold zq
 exact List.take_left' (by rw[List.length_take,List.length_drop]; omega)
def wrD(ds:DSt)(i:Int)(l:List UInt8):DSt×Int:=if (ds.write i (jr l)).2=0 then (ds.write i (jr l)).1.flush else ds.write i (jr l)
def SSt.died(s:SSt)(e:Int):SSt:={ s with dead:=s.dead||decide (e=61) }
def cntD(ds:DSt)(n:UInt64):DSt×Int:=wrD ds (24+((n % 2).toNat:Int)) (dE n.toNat w48z.1)
def lY(i:Int):Bool:=decide (0≤i)&&decide (i<24)
def mkW:Nat→Nat→DSt→DSt×Int
 | 0, _, ds => (ds, 0)
 | k + 1, i, ds => if (ds.write i (List.replicate 64 0)).2 = 0 then mkW k (i + 1) (ds.write i (List.replicate 64 0)).1 else ds.write i (List.replicate 64 0)
def makeD(ds:DSt):DSt×Int :=
 if ds.kept.length<64 then (ds,70)
 else if (mkW 26 0 ds).2=0 then (mkW 26 0 ds).1.flush else mkW 26 0 ds
def ss0:SSt:=⟨[],0,false⟩
def wS(a b:UInt64):UInt64:=if a.toNat≤b.toNat then b else a
def SSt.reads(s:SSt)(i:Int)(l:List UInt8):SSt :=
 { s with puts:=wS s.puts (da l).1,full:=if i<24∧0<(da l).1 then dj i ⟨(da l).2,(da l).1⟩ s.full else s.full }
def kf(ds:DSt)(n:Nat):SSt:=(List.range n).foldl (fun(s:SSt) (i:Nat)=>s.reads (i:Int) (ds.now (i:Int)).1) ss0
def Bw(ds:DSt)(s:SSt)(i:Int)(kek key:List UInt8)(hk:key.length=32):DSt×SSt×Int :=
 if s.dead then (ds,s,260)
 else if lY i then
  let c:=cntD ds (s.puts+1)
  if c.2=0 then
   let s1:SSt:={ s.died c.2 with puts:=s.puts+1 }
   let x:Slt:=⟨⟨mC kek i.toNat (s.puts+1).toNat key,fF _ _ _ _ hk⟩,s.puts+1⟩
   let d:=wrD c.1 i (dE x.gen.toNat x.w.1)
   if d.2=0 then (d.1,{ s1.died d.2 with full:=dj i x s1.full },0) else (d.1,s1.died d.2,d.2)
  else (c.1,s.died c.2,c.2)
 else (ds,s,70)
def rf(ds:DSt)(s:SSt)(i:Int):DSt×SSt×Int :=
 if s.dead then (ds,s,260)
 else if lY i then
  let d:=wrD ds i []
  if d.2=0 then (d.1,{ s.died d.2 with full:=iS i s.full },0) else (d.1,s.died d.2,d.2)
 else (ds,s,70)
def getS(s:SSt)(i:Int)(kek:List UInt8):List UInt8×Int :=
 if lY i then
  match bV i s.full with
  | none => (List.replicate 32 0, 120)
  | some x => if lA kek (bY i.toNat x.gen.toNat) tWrap x.w.1 then (fb kek (bY i.toNat x.gen.toNat) (x.w.1.take 32), 0) else (List.replicate 32 0, 50)
 else (List.replicate 32 0,70)
def usedS(s:SSt)(n:Nat):List Int:=((List.range n).map fun(i:Nat)=>(i:Int)).filter fun i=>(bV i s.full).isSome
def freeS(s:SSt):Nat→Nat→Int
 | 0, _ => -1
 | k + 1, i => if (bV (i : Int) s.full).isSome then freeS s k (i + 1) else i
theorem max_u64(a b:UInt64):max (a.toNat:Int) (b.toNat:Int)=((wS a b).toNat:Int):=by
 unfold wS; split <;> omega
def sltC(x:Slt):List Value:=aV x.w.1++[Value.int .u64 x.gen.toNat]
theorem wrD_pos{ds:DSt}{i:Int}{l:List UInt8}(h:(ds.write i (jr l)).2=0):wrD ds i l=(ds.write i (jr l)).1.flush:=by unfold wrD; rw[if_pos h]
theorem lO(ds:DSt)(n:Nat):kf ds (n+1)=(kf ds n).reads n (ds.now n).1:=by
 unfold kf; rw[List.range_succ,List.foldl_append]; rfl
theorem lN(ds:DSt):kf ds 0=ss0:=rfl
def RunD(w0 w:World)(b:Nat)(kv:Value)(r:Nat)(ds:DSt):Prop:=DiskAt w b kv r ds∧Chg [] w0 w∧∀x∈DF b kv r,w0.heap.size≤x
def RunS(w0 w:World)(sb fr b:Nat)(kv:Value)(r:Nat)(s:SSt):Prop:=SlotAt w sb fr b s∧(sb∉DF b kv r∧fr∉DF b kv r)∧w0.heap.size≤sb∧w0.heap.size≤fr
theorem RunD.chg0{w0 w w':World}{b r:Nat}{kv:Value}{ds:DSt}(h:RunD w0 w b kv r ds)(hm:Chg [] w w'):RunD w0 w' b kv r ds:=⟨h.1.chg0 hm,h.2.1.tr hm,h.2.2⟩
theorem RunS.chg0{w0 w w':World}{sb fr b r:Nat}{kv:Value}{s:SSt}(h:RunS w0 w sb fr b kv r s)(hm:Chg [] w w'):RunS w0 w' sb fr b kv r s:=⟨h.1.chg0 hm,h.2⟩
attribute [irreducible] da kf wrD mkW makeD
end Go.Sac

end
section
namespace Go.Sac
open Go
abbrev PgF:=UInt32→Bool
def fW:PgF:=fun _=>false
def uj(g:Nat→Bool):UInt8:=UInt8.ofNat ((List.range 8).foldl (fun n k=>n ||| (g k).toNat <<< k) 0)
theorem xL(g:Nat→Bool)(k:Nat)(hk:k<8):(uj g).toNat.testBit k=g k:=by
 have h:∀b0 b1 b2 b3 b4 b5 b6 b7:Bool,∀k:Fin 8,(UInt8.ofNat (0 ||| b0.toNat <<< 0 ||| b1.toNat <<< 1 ||| b2.toNat <<< 2 ||| b3.toNat <<< 3 ||| b4.toNat <<< 4 ||| b5.toNat <<< 5 ||| b6.toNat <<< 6 ||| b7.toNat <<< 7)).toNat.testBit k=[b0,b1,b2,b3,b4,b5,b6,b7].getD k false:=by decide +kernel
 have:=h (g 0) (g 1) (g 2) (g 3) (g 4) (g 5) (g 6) (g 7) ⟨k,hk⟩
 unfold uj
 simp only[List.range,List.range.loop,List.foldl]
 rw[this]
 rcases k with _ | _ | _ | _ | _ | _ | _ | _ | k <;> first | rfl | omega
theorem Cx{a b:UInt8}(h:∀k,k<8→a.toNat.testBit k=b.toNat.testBit k):a=b:=by
 apply UInt8.toNat_inj.1
 apply Nat.eq_of_testBit_eq
 intro k
 by_cases hk:k<8
 ·exact h k hk
 ·have ha:=a.toNat_lt
  have hb:=b.toNat_lt
  have h2:2 ^ 8≤2 ^ k:=Nat.pow_le_pow_right (by omega) (by omega)
  rw[Nat.testBit_lt_two_pow (by omega),Nat.testBit_lt_two_pow (by omega)]
def dz(f:PgF):List UInt8:=(List.range 50).map fun i=>uj fun k=>f (UInt32.ofNat (8*i+k))
def gz(l:List UInt8)(k:Nat):Bool:=(l.getD (k / 8) 0).toNat.testBit (k % 8)
def qM(l:List UInt8):PgF:=fun k=>decide (k.toNat<400)&&gz l k.toNat
theorem dW(f:PgF):(dz f).length=50:=by simp[dz]
theorem xq(f:PgF)(i:Nat)(h:i<50):(dz f).getD i 0=uj fun k=>f (UInt32.ofNat (8*i+k)):=by
 unfold dz
 rw[List.getD_eq_getElem?_getD,List.getElem?_map,List.getElem?_range h]; rfl
theorem qR(f:PgF)(k:Nat)(h:k<400):gz (dz f) k=f (UInt32.ofNat k):=by
 unfold gz
 rw[xq f _ (by omega),xL _ _ (by omega)]
 congr 2
 omega
theorem xN{f:PgF}{l:List UInt8}(hl:l.length=50)(h:∀k,k<400→gz l k=f (UInt32.ofNat k)):l=dz f:=by
 apply List.ext_getElem?
 intro i
 by_cases hi:i<50
 ·have h1:l[i]?=some (l.getD i 0):=by rw[List.getD_eq_getElem?_getD,List.getElem?_eq_getElem (by omega)]; rfl
  have h2:(dz f)[i]?=some ((dz f).getD i 0):=by rw[List.getD_eq_getElem?_getD,List.getElem?_eq_getElem (by rw[dW]; exact hi)]; rfl
  rw[h1,h2]
  congr 1
  apply Cx
  intro k hk
  have q1:=h (8*i+k) (by omega)
  have q2:=qR f (8*i+k) (by omega)
  rw[←q2] at q1
  unfold gz at q1
  rw[show(8*i+k) / 8=i by omega,show(8*i+k) % 8=k by omega] at q1
  exact q1
 ·rw[List.getElem?_eq_none (by omega),List.getElem?_eq_none (by rw[dW]; omega)]
theorem oD{f:PgF}(h:∀k,f k=true→k.toNat<400):qM (dz f)=f:=by
 funext k
 unfold qM
 by_cases hk:k.toNat<400
 ·rw[decide_eq_true hk,Bool.true_and,qR f _ hk,UInt32.ofNat_toNat]
 ·rw[decide_eq_false hk,Bool.false_and]
  cases hf:f k with
  | false => rfl
  | true => exact absurd (h k hf) hk
structure Sup where
 root:UInt32
 txt:List UInt8
 used:PgF
 written:PgF
 commit:UInt64
 epoch:UInt32
def wT:List UInt8:=[115,117,112,101,114]
def aY:List UInt8:=[112,97,103,101]
def j8(k b:List UInt8):List UInt8:=lT (aW k wT 0) b
def fL(s:Sup):List UInt8:=be 8 s.commit.toNat++be 4 s.epoch.toNat++be 4 s.root.toNat++(be 2 s.txt.length++s.txt)++dz s.used++dz s.written
def bx(k:List UInt8)(s:Sup):List UInt8:=fL s++j8 k (fL s)
theorem iq(k b:List UInt8):(j8 k b).length=32:=dc _ _
theorem ly(s:Sup):(fL s).length=118+s.txt.length:=by simp[fL,aI,dW]; omega
theorem ff(k:List UInt8)(s:Sup):(bx k s).length=150+s.txt.length:=by
 rw[bx,List.length_append,ly,iq]; omega
def txN(b:List UInt8):Nat:=cL ((b.drop 16).take 2)
def ig(b:List UInt8):Sup :=
 ⟨UInt32.ofNat (cL ((b.drop 12).take 4)),(b.drop 18).take (txN b),qM ((b.drop (18+txN b)).take 50),qM ((b.drop (68+txN b)).take 50),UInt64.ofNat (cL (b.take 8)),UInt32.ofNat (cL ((b.drop 8).take 4))⟩
def dr(k b:List UInt8):Option Sup :=
 if b.length<56∨200<txN b∨b.length<150+txN b then none
 else if (b.drop (118+txN b)).take 32=j8 k (b.take (118+txN b)) then some (ig b) else none
def eo:Nat→List UInt8→List UInt8→List UInt8
 | 0, _, _ => []
 | n + 1, nb, b => (nb ++ b.take 56 ++ List.replicate (56 - (b.take 56).length) 0 ++ nb) ++ eo n nb (b.drop 56)
def cR(b:List UInt8)(n:UInt64):List UInt8:=eo ((b.length+55) / 56) (be 4 n.toNat) b
def jX(nb:List UInt8):Nat→List UInt8→List UInt8
 | 0, _ => []
 | n + 1, b => if b.take 4 = nb ∧ (b.drop 60).take 4 = nb then (b.drop 4).take 56 ++ jX nb n (b.drop 64) else []
def fR(b:List UInt8):List UInt8:=jX (b.take 4) (b.length / 64) b
def js:Nat→List UInt8→List UInt64
 | 0, _ => []
 | n + 1, b => UInt64.ofNat (cL (b.take 4)) :: UInt64.ofNat (cL ((b.drop 60).take 4)) :: js n (b.drop 64)
def eQ(b:List UInt8):List UInt64:=js (b.length / 64) b
def jk(c x:UInt64):UInt64:=cW ((fo ((x-c).toNat:Int)).toNat:Int)
theorem Ak(c x:UInt64):jk c x=(x-c).toUInt32.toUInt64:=by unfold jk; rw[sC,nJ]
def dP(c n x:UInt64):UInt64:=if jk c x<65536 then wS n (c+jk c x) else n
def yB(c:UInt64)(l:List UInt64):UInt64:=l.foldl (dP c) c+1
theorem lz:∀(n:Nat) (nb b:List UInt8),nb.length=4→(eo n nb b).length=64*n
 | 0, _, _, _ => rfl
 | n + 1, nb, b, h => by
  rw[eo,List.length_append,lz n nb _ h]
  simp only[List.length_append,List.length_replicate,List.length_take,h]; omega
theorem ji(b:List UInt8)(n:UInt64):(cR b n).length=64*((b.length+55) / 56):=lz _ _ _ (aI _ _)
theorem sy(nb:List UInt8):∀(n:Nat) (b:List UInt8),b.length=64*n→∃m,(jX nb n b).length=56*m∧m≤n
 | 0, _, _ => ⟨0, rfl, Nat.le_refl _⟩
 | n + 1, b, h => by
  rw[jX]
  split
  ·obtain⟨m,h1,h2⟩:=sy nb n (b.drop 64) (by rw[List.length_drop]; omega)
   exact⟨m+1,by rw[List.length_append,h1,List.length_take,List.length_drop]; omega,by omega⟩
  ·exact⟨0,rfl,by omega⟩
theorem iu:∀(n:Nat) (b:List UInt8),(js n b).length=2*n
 | 0, _ => rfl
 | n + 1, b => by rw [js, List.length_cons, List.length_cons, iu n]; omega
namespace DSt
def wr:Nat→DSt→Int→List UInt8→DSt×Int
 | 0, s, _, _ => (s, 0)
 | n + 1, s, i, l => if (s.write i (l.take 64)).2 = 0 then wr n (s.write i (l.take 64)).1 (i + 1) (l.drop 64) else s.write i (l.take 64)
def writes(s:DSt)(i:Int)(l:List UInt8):DSt×Int:=wr ((l.length+63) / 64) s i l
def reads(s:DSt)(i:Int)(n:Nat):List UInt8:=(List.range n).flatMap fun(k:Nat)=>(s.now (i+(k:Int))).1
theorem reads_succ(s:DSt)(i:Int)(n:Nat):s.reads i (n+1)=s.reads i n++(s.now (i+(n:Int))).1:=by
 unfold reads; rw[List.range_succ,List.flatMap_append]; simp
theorem reads_zero(s:DSt)(i:Int):s.reads i 0=[]:=rfl
theorem reads_length(s:DSt)(i:Int)(n:Nat):(s.reads i n).length=64*n:=by
 induction n with
 | zero => rfl
 | succ n ih => rw [reads_succ, List.length_append, ih, (s.now _).2]; omega
end DSt
def gx(n:Nat):Int:=min ((max ((n:Int)-32) 0) / 8) 400
def dZ(ds:DSt)(i:Nat):List UInt8:=ds.reads ((i:Int)*16) 16
def dg(k:List UInt8)(ds:DSt)(best:Option (Sup×Nat))(i:Nat):Option (Sup×Nat) :=
 match dr k (fR (dZ ds i)) with
 | none => best
 | some s => match best with
  | none => some (s, i)
  | some (b, j) => if b.commit < s.commit then some (s, i) else some (b, j)
def newest(k:List UInt8)(ds:DSt):Option (Sup×Nat):=dg k ds (dg k ds none 0) 1
def ij(best:Option (Sup×Nat)):UInt64:=match best with | none=>0 | some (s,_)=>s.commit
def pf(best:Option (Sup×Nat)):Int:=match best with | none => -1 | some (_,j)=>j
def rU(best:Option (Sup×Nat)):UInt32:=match best with | none=>0 | some (s,_)=>s.epoch
def en(k:List UInt8)(ds:DSt):UInt64:=yB (ij (newest k ds)) (eQ (dZ ds 0)++eQ (dZ ds 1))
def cq(k:List UInt8)(ds:DSt)(at_:Nat)(s:Sup):DSt×Int :=
 if (ds.writes ((at_:Int)*16) (cR (bx k s) s.commit)).2=0 then (ds.writes ((at_:Int)*16) (cR (bx k s) s.commit)).1.flush
 else ds.writes ((at_:Int)*16) (cR (bx k s) s.commit)
namespace DSt
theorem wr_bnd(n:Nat):∀(ds:DSt) (i:Int) (l:List UInt8),ds.Fine→ds.steps+n≤1000000000000→(wr n ds i l).1.Fine∧(wr n ds i l).1.steps≤ds.steps+n∧(wr n ds i l).1.kept=ds.kept:=by
 induction n with
 | zero => intro ds i l hf hs; exact ⟨hf, Nat.le_refl _, rfl⟩
 | succ n ih =>
  intro ds i l hf hs
  have h1:=hf.write (by omega) i (l.take 64)
  have h2:=write_steps ds i (l.take 64)
  have h3:=write_kept ds i (l.take 64)
  rw[wr]
  by_cases h:(ds.write i (l.take 64)).2=0
  ·rw[if_pos h]
   obtain⟨q1,q2,q3⟩:=ih _ (i+1) (l.drop 64) h1 (by omega)
   exact⟨q1,by omega,by rw[q3,h3]⟩
  ·rw[if_neg h]
   exact⟨h1,by omega,h3⟩
end DSt
end Go.Sac

end
section
namespace Go.Sac
open Go
set_option maxRecDepth 100000
def keyN(n:UInt8):List UInt8:=n::(List.replicate 30 0++[200])
def sv(l:List UInt8):Option Slt:=if 0<(da l).1 then some ⟨(da l).2,(da l).1⟩ else none
theorem l8(n:UInt64):UInt64.ofNat (cL (be 8 n.toNat))=n:=by
 rw[jb]
 apply UInt64.toNat_inj.1
 rw[UInt64.toNat_ofNat']
 have:=n.toNat_lt
 have h:(256:Nat) ^ 8=18446744073709551616:=by decide
 rw[h]; omega
theorem vM(n:Nat)(w:List UInt8):(dE n w).take 8=be 8 n:=by
 unfold dE; rw[List.append_assoc,List.take_left' (aI 8 n)]
theorem oL(n:Nat)(w:List UInt8):(dE n w).drop 8=w++be 8 n:=by
 unfold dE; rw[List.append_assoc,List.drop_left' (aI 8 n)]
theorem mI(l:List UInt8):da l=if B2 l=wR l then (wR l,zq l) else (0,w48z):=by unfold da; rfl
theorem ic(n:UInt64)(x:W48):da (dE n.toNat x.1)=(n,x):=by
 have h1:wR (dE n.toNat x.1)=n:=by unfold wR; rw[vM,l8]
 have h2:B2 (dE n.toNat x.1)=n:=by
  unfold B2; rw[oL,List.drop_left' x.2,List.take_of_length_le (by rw[aI]; omega),l8]
 have h3:zq (dE n.toNat x.1)=x:=by
  apply Subtype.ext
  rw[unfW_eq _ (by rw[fB,x.2]),oL,List.take_left' x.2]
 rw[mI,if_pos (by rw[h1,h2]),h1,h3]
theorem lx:da (List.replicate 64 0)=(0,w48z):=by
 have h1:wR (List.replicate 64 0)=0:=by decide
 have h2:B2 (List.replicate 64 0)=0:=by decide
 have h3:zq (List.replicate 64 0)=w48z:=by apply Subtype.ext; decide
 rw[mI,if_pos (by rw[h1,h2]),h1,h3]
theorem yk:sv (List.replicate 64 0)=none:=by unfold sv; rw[lx]; rfl
theorem sG(n:UInt64)(x:W48)(h:0<n):sv (dE n.toNat x.1)=some ⟨x,n⟩:=by
 unfold sv; rw[ic,if_pos h]
def ll(l:List UInt8):Sec:=DSt.putS sec0 (jr l)
theorem tM(l:List UInt8)(h:l.length≤64):(ll l).1=jr l:=by
 have hl:=jK l h
 unfold ll
 rw[l7 _ _ (by omega),hl,List.drop_of_length_le (Nat.le_of_eq sec0.2),List.append_nil]
theorem Bt(c:Sec)(l:List UInt8)(h:l.length≤64):DSt.putS c (jr l)=ll l:=by
 have hl:=jK l h
 apply Subtype.ext
 rw[tM l h,l7 _ _ (by omega),hl,List.drop_of_length_le (Nat.le_of_eq c.2),List.append_nil]
theorem xh(l:List UInt8)(h:l.length=64):jr l=l:=by simp[jr,h]
theorem Ai(k:List Sec)(i:Int)(c:Sec)(hi:0≤i):DSt.apply k [(i,c)]=k.set i.toNat c:=by
 have:=rp k [] i c hi (by simp)
 rwa [List.nil_append,tq] at this
theorem wP{ds:DSt}{i:Int}{l:List UInt8}(h0:ds.offAt=0)(hp:ds.pend=[])(hi:0≤i)(hi2:i<ds.kept.length)(hl:l.length≤64) :
  wrD ds i l=(⟨ds.steps+2,0,ds.kept.set i.toNat (ll l),[]⟩,0):=by
 have hw:ds.write i (jr l)=(⟨ds.steps+1,0,ds.kept,[(i,ll l)]⟩,0):=by
  have ho:ds.step.off=false:=by simp[DSt.off,DSt.step,h0]
  have his:ds.is i=true:=by simp[DSt.is,hi,hi2]
  unfold DSt.write
  rw[if_neg (by rw[ho]; decide),if_neg (by rw[his,decide_eq_false (by rw[jK l hl]; omega)]; decide),hp,Bt _ _ hl]
  simp[dj,DSt.step,h0]
 rw[wrD_pos (by rw[hw]),hw]
 unfold DSt.flush
 rw[if_neg (by simp[DSt.off,DSt.step])]
 simp only[DSt.step,Ai _ _ _ hi]
structure SInv(ds:DSt)(s:SSt):Prop where
 pend:ds.pend=[]
 len:64≤ds.kept.length
 full:∀i:Nat,i<24→bV (i:Int) s.full=sv (ds.kept.getD i sec0).1
 keys:(s.full.map (·.1)).Nodup
 gens:∀i:Nat,i<26→(da (ds.kept.getD i sec0).1).1.toNat≤s.puts.toNat
theorem qQ{ν:Type}(i k:Int)(v:ν)(m:List (Int×ν)):bV i (dj k v m)=if i=k then some v else bV i m:=by
 induction m with
 | nil =>
  simp only[dj,bV]
 | cons p m ih =>
  obtain⟨x,u⟩:=p
  simp only[dj]
  by_cases h:k=x
  ·subst h
   simp only[if_true,bV]
   by_cases hi:i=k <;> simp[hi]
  ·simp only[h,if_false,bV]
   by_cases hi:i=x
   ·subst hi
    have:¬i=k:=fun e=>h e.symm
    simp[this]
   ·simp only[hi,if_false]; exact ih
theorem rP{ν:Type}(k:Int)(v:ν)(m:List (Int×ν)):(dj k v m).map (·.1)=if k∈m.map (·.1) then m.map (·.1) else m.map (·.1)++[k]:=by
 induction m with
 | nil => simp [dj]
 | cons p m ih =>
  obtain⟨x,u⟩:=p
  simp only[dj]
  by_cases h:k=x
  ·subst h; simp
  ·simp only[h,if_false,List.map_cons,List.mem_cons,false_or,ih]
   split <;> simp
theorem oI{ν:Type}(k:Int)(v:ν)(m:List (Int×ν))(h:(m.map (·.1)).Nodup):((dj k v m).map (·.1)).Nodup:=by
 rw[rP]
 split
 ·exact h
 ·rename_i hk
  rw[List.nodup_append]
  exact⟨h,by simp,fun a ha b hb=>by simp at hb; subst hb; exact fun e=>hk (e▸ha)⟩
theorem BP{ν:Type}(k:Int)(m:List (Int×ν)):(iS k m).Sublist m:=by
 induction m with
 | nil => exact List.Sublist.refl _
 | cons p m ih =>
  obtain⟨x,u⟩:=p
  simp only[iS]
  split
  ·exact List.sublist_cons_self _ _
  ·exact ih.cons_cons _
theorem zV{ν:Type}(i k:Int)(m:List (Int×ν))(h:(m.map (·.1)).Nodup):bV i (iS k m)=if i=k then none else bV i m:=by
 induction m with
 | nil => simp [iS, bV]
 | cons p m ih =>
  obtain⟨x,u⟩:=p
  simp only[List.map_cons,List.nodup_cons] at h
  simp only[iS]
  by_cases hk:k=x
  ·subst hk
   simp only[if_true]
   by_cases hi:i=k
   ·subst hi; rw[if_pos rfl,nU h.1]
   ·rw[if_neg hi]; simp[bV,hi]
  ·simp only[hk,if_false,bV]
   by_cases hi:i=x
   ·subst hi
    have:¬i=k:=fun e=>hk e.symm
    simp[this]
   ·simp only[hi,if_false]; exact ih h.2
theorem ns{α:Type}(l:List α)(i j:Nat)(a d:α)(h:i<l.length):(l.set i a).getD j d=if i=j then a else l.getD j d:=by
 rw[List.getD_eq_getElem?_getD,List.getElem?_set,List.getD_eq_getElem?_getD]
 by_cases hij:i=j
 ·subst hij; simp[h]
 ·simp[hij]
def mT(k:List Sec)(n:UInt64)(i:Nat)(w:List UInt8):List Sec :=
 (k.set (24+(n % 2).toNat) (ll (dE n.toNat w48z.1))).set i (ll (dE n.toNat w))
theorem yv{ds:DSt}{s:SSt}{i:Nat}{kek key:List UInt8}(hy:key.length=32)(h0:ds.offAt=0)(hp:ds.pend=[])(hl:64≤ds.kept.length)(hdd:s.dead=false)(hi:i<24) :
  Bw ds s i kek key hy=(⟨ds.steps+4,0,mT ds.kept (s.puts+1) i (mC kek i (s.puts+1).toNat key),[]⟩,
   ⟨dj (i:Int) ⟨⟨mC kek i (s.puts+1).toNat key,fF _ _ _ _ hy⟩,s.puts+1⟩ s.full,s.puts+1,false⟩,0):=by
 have h2:((s.puts+1) % 2).toNat<2:=by rw[UInt64.toNat_mod]; exact Nat.mod_lt _ (by decide)
 have hc:cntD ds (s.puts+1)=(⟨ds.steps+2,0,ds.kept.set (24+((s.puts+1) % 2).toNat) (ll (dE (s.puts+1).toNat w48z.1)),[]⟩,0):=by
  unfold cntD
  rw[wP h0 hp (by omega) (by omega) (by rw[fB,w48z.2]; decide)]
  congr 3
 have hw:∀l:List UInt8,l.length≤64→wrD ⟨ds.steps+2,0,ds.kept.set (24+((s.puts+1) % 2).toNat) (ll (dE (s.puts+1).toNat w48z.1)),[]⟩ (i:Int) l=(⟨ds.steps+2+2,0,(ds.kept.set (24+((s.puts+1) % 2).toNat) (ll (dE (s.puts+1).toNat w48z.1))).set i (ll l),[]⟩,0):=by
  intro l hl'
  rw[wP rfl rfl (by omega) (by simp only[List.length_set]; omega) hl']
  rfl
 have his:lY (i:Int)=true:=by simp[lY]; omega
 unfold Bw
 rw[if_neg (by rw[hdd]; decide),if_pos his]
 simp only[hc,if_true,Int.toNat_natCast]
 rw[hw _ (by rw[fB,fF _ _ _ _ hy]; decide)]
 simp only[if_true,SSt.died,hdd]
 rfl
theorem tf{ds:DSt}{s:SSt}{i:Nat}(h0:ds.offAt=0)(hp:ds.pend=[])(hl:64≤ds.kept.length)(hdd:s.dead=false)(hi:i<24) :
  rf ds s i=(⟨ds.steps+2,0,ds.kept.set i (ll []),[]⟩,⟨iS (i:Int) s.full,s.puts,false⟩,0):=by
 have his:lY (i:Int)=true:=by simp[lY]; omega
 have hw:=wP (i:=(i:Int)) (l:=[]) h0 hp (by omega) (by omega) (by decide)
 unfold rf
 rw[if_neg (by rw[hdd]; decide),if_pos his]
 simp only[hw,if_true,SSt.died,hdd,Int.toNat_natCast]
 rfl
theorem mO(l:List UInt8)(h:l.length=64):(ll l).1=l:=by rw[tM l (by omega),xh l h]
theorem qt:(ll []).1=List.replicate 64 0:=tM [] (by decide)
theorem qH(k:List Sec)(n:UInt64)(i:Nat)(w:List UInt8):(mT k n i w).length=k.length:=by simp[mT]
theorem kE(k:List Sec)(n:UInt64)(i j:Nat)(w:List UInt8)(hl:64≤k.length)(hi:i<24) :
  (mT k n i w).getD j sec0=if i=j then ll (dE n.toNat w) else if 24+(n % 2).toNat=j then ll (dE n.toNat w48z.1) else k.getD j sec0:=by
 have h2:(n % 2).toNat<2:=by rw[UInt64.toNat_mod]; exact Nat.mod_lt _ (by decide)
 unfold mT
 rw[ns _ _ _ _ _ (by rw[List.length_set]; omega),ns _ _ _ _ _ (by omega)]
theorem SInv.put{ds:DSt}{s:SSt}{i:Nat}{kek key:List UInt8}(h:SInv ds s)(hy:key.length=32)(h0:ds.offAt=0)(hdd:s.dead=false)(hi:i<24)(hpu:s.puts.toNat<1000000000000) :
  SInv (Bw ds s i kek key hy).1 (Bw ds s i kek key hy).2.1:=by
 obtain⟨h1,h2,h3,h4,h5⟩:=h
 have hn:(s.puts+1).toNat=s.puts.toNat+1:=by
  rw[UInt64.toNat_add]; show(s.puts.toNat+1) % 18446744073709551616=_; omega
 have hpos:0<s.puts+1:=by rw[UInt64.lt_iff_toNat_lt,hn]; exact Nat.succ_pos _
 rw[yv hy h0 h1 h2 hdd hi]
 generalize hx:(⟨mC kek i (s.puts+1).toNat key,fF _ _ _ _ hy⟩:W48)=x
 have hxw:mC kek i (s.puts+1).toNat key=x.1:=by rw[←hx]
 rw[hxw]
 have hfl:∀y:W48,(dE (s.puts+1).toNat y.1).length=64:=fun y=>by rw[fB,y.2]
 refine⟨rfl,by simp only[qH]; exact h2,fun j hj=>?_,oI _ _ _ h4,fun j hj=>?_⟩
 ·simp only
  rw[qQ,kE _ _ _ _ _ h2 hi]
  by_cases hij:i=j
  ·subst hij
   rw[if_pos rfl,if_pos rfl,mO _ (hfl x),sG _ _ hpos]
  ·have:¬(j:Int)=(i:Int):=by omega
   rw[if_neg this,if_neg hij,if_neg (by omega)]; exact h3 j hj
 ·simp only
  rw[kE _ _ _ _ _ h2 hi]
  by_cases hij:i=j
  ·rw[if_pos hij,mO _ (hfl x),ic]; exact Nat.le_refl _
  ·rw[if_neg hij]
   split
   ·rw[mO _ (hfl w48z),ic]; exact Nat.le_refl _
   ·have:=h5 j hj; omega
theorem SInv.erase{ds:DSt}{s:SSt}{i:Nat}(h:SInv ds s)(h0:ds.offAt=0)(hdd:s.dead=false)(hi:i<24) :
  SInv (rf ds s i).1 (rf ds s i).2.1:=by
 obtain⟨h1,h2,h3,h4,h5⟩:=h
 rw[tf h0 h1 h2 hdd hi]
 refine⟨rfl,by simp only[List.length_set]; exact h2,fun j hj=>?_,(((BP _ _).map _).nodup h4),fun j hj=>?_⟩
 ·simp only
  rw[zV _ _ _ h4,ns _ _ _ _ _ (by omega)]
  by_cases hij:i=j
  ·subst hij; rw[if_pos rfl,if_pos rfl,qt,yk]
  ·have:¬(j:Int)=(i:Int):=by omega
   rw[if_neg this,if_neg hij]; exact h3 j hj
 ·simp only
  rw[ns _ _ _ _ _ (by omega)]
  split
  ·rw[qt,lx]; exact Nat.zero_le _
  ·exact h5 j hj
theorem qi(a b:UInt64):(wS a b).toNat=max a.toNat b.toNat:=by unfold wS; split <;> omega
theorem vw{ds:DSt}(h:ds.pend=[])(i:Nat):ds.now i=ds.kept.getD i sec0:=by
 unfold DSt.now; rw[h]; rfl
theorem zO(ds:DSt)(n:Nat)(i:Nat):bV (i:Int) (kf ds n).full=if i<n∧i<24 then sv (ds.now i).1 else none:=by
 induction n with
 | zero => rw [lN]; simp [ss0, bV]
 | succ n ih =>
  rw[lO]
  unfold SSt.reads
  simp only
  by_cases hc:(n:Int)<24∧0<(da (ds.now n).1).1
  ·rw[if_pos hc,qQ]
   by_cases hin:i=n
   ·subst hin
    rw[if_pos rfl,if_pos (by omega)]
    unfold sv; rw[if_pos hc.2]
   ·rw[if_neg (by omega),ih]
    by_cases h1:i<n∧i<24
    ·rw[if_pos h1,if_pos (by omega)]
    ·rw[if_neg h1,if_neg (by omega)]
  ·rw[if_neg hc,ih]
   by_cases hin:i=n
   ·subst hin
    rw[if_neg (by omega)]
    split
    ·rename_i h24
     unfold sv
     rw[if_neg (fun h=>hc ⟨by omega,h⟩)]
    ·rfl
   ·by_cases h1:i<n∧i<24
    ·rw[if_pos h1,if_pos (by omega)]
    ·rw[if_neg h1,if_neg (by omega)]
theorem xj(ds:DSt)(n:Nat):((kf ds n).full.map (·.1)).Nodup:=by
 induction n with
 | zero => rw [lN]; simp [ss0]
 | succ n ih =>
  rw[lO]
  unfold SSt.reads
  simp only
  split
  ·exact oI _ _ _ ih
  ·exact ih
theorem xi(ds:DSt)(n:Nat):(∀i,i<n→(da (ds.now i).1).1.toNat≤(kf ds n).puts.toNat)∧∀B,(∀i:Nat,i<n→(da (ds.now i).1).1.toNat≤B)→(kf ds n).puts.toNat≤B:=by
 induction n with
 | zero => rw [lN]; exact ⟨fun i h => by omega, fun B _ => Nat.zero_le _⟩
 | succ n ih =>
  rw[lO]
  have hp:((kf ds n).reads n (ds.now n).1).puts=wS (kf ds n).puts (da (ds.now n).1).1:=rfl
  rw[hp,qi]
  refine⟨fun i hi=>?_,fun B hB=>?_⟩
  ·by_cases hin:i=n
   ·subst hin; omega
   ·have:=ih.1 i (by omega); omega
  ·have h1:=ih.2 B (fun i hi=>hB i (by omega))
   have h2:=hB n (by omega)
   omega
theorem SInv.open{ds:DSt}(hp:ds.pend=[])(hl:64≤ds.kept.length):SInv ds (kf ds 26):=by
 refine⟨hp,hl,fun i hi=>?_,xj _ _,fun i hi=>?_⟩
 ·rw[zO,if_pos (by omega),vw hp]
 ·have:=(xi ds 26).1 i hi
  rwa [vw hp] at this
def HoldsS(ds:DSt)(C:Nat→Option (List UInt8×List UInt8)):Prop :=
 ∀i,i<24→match C i with
  | none => sv (ds.kept.getD i sec0).1 = none
  | some (k, y) => ∃ (h : y.length = 32) (g : UInt64), 0 < g ∧ sv (ds.kept.getD i sec0).1 = some ⟨⟨mC k i g.toNat y, fF _ _ _ _ h⟩, g⟩
def setC(C:Nat→Option (List UInt8×List UInt8))(i:Nat)(v:Option (List UInt8×List UInt8)):Nat→Option (List UInt8×List UInt8):=fun j=>if j=i then v else C j
theorem HoldsS.is{ds:DSt}{s:SSt}{C:Nat→Option (List UInt8×List UInt8)}(h:SInv ds s)(hC:HoldsS ds C){i:Nat}(hi:i<24):(bV (i:Int) s.full).isSome=(C i).isSome:=by
 have h1:=hC i hi
 rw[h.full i hi]
 cases hc:C i with
 | none => rw [hc] at h1; simp only at h1; rw [h1]; rfl
 | some p =>
  obtain⟨k,y⟩:=p
  rw[hc] at h1
  obtain⟨hy,g,hg,hsv⟩:=h1
  rw[hsv]; rfl
theorem HoldsS.put{ds:DSt}{s:SSt}{C:Nat→Option (List UInt8×List UInt8)}{i:Nat}{kek key:List UInt8}(h:SInv ds s)(hC:HoldsS ds C)(hy:key.length=32)(h0:ds.offAt=0)(hdd:s.dead=false)(hi:i<24)(hpu:s.puts.toNat<1000000000000) :
  HoldsS (Bw ds s i kek key hy).1 (setC C i (some (kek,key))):=by
 have hn:(s.puts+1).toNat=s.puts.toNat+1:=by
  rw[UInt64.toNat_add]; show(s.puts.toNat+1) % 18446744073709551616=_; omega
 have hpos:0<s.puts+1:=by rw[UInt64.lt_iff_toNat_lt,hn]; exact Nat.succ_pos _
 rw[yv hy h0 h.pend h.len hdd hi]
 intro j hj
 simp only
 rw[kE _ _ _ _ _ h.len hi]
 unfold setC
 by_cases hij:j=i
 ·subst hij
  rw[if_pos rfl,if_pos rfl]
  have hwl:=fF kek j (s.puts+1).toNat key hy
  refine⟨hy,s.puts+1,hpos,?_⟩
  have:=sG (s.puts+1) ⟨mC kek j (s.puts+1).toNat key,hwl⟩ hpos
  rw[mO _ (by rw[fB,hwl])]; exact this
 ·rw[if_neg hij,if_neg (fun e=>hij e.symm),if_neg (by omega)]
  exact hC j hj
theorem HoldsS.erase{ds:DSt}{s:SSt}{C:Nat→Option (List UInt8×List UInt8)}{i:Nat}(h:SInv ds s)(hC:HoldsS ds C)(h0:ds.offAt=0)(hdd:s.dead=false)(hi:i<24) :
  HoldsS (rf ds s i).1 (setC C i none):=by
 rw[tf h0 h.pend h.len hdd hi]
 intro j hj
 simp only
 have hlen:=h.len
 rw[ns _ _ _ _ _ (by omega)]
 unfold setC
 by_cases hij:j=i
 ·subst hij
  rw[if_pos rfl,if_pos rfl]
  simp only
  rw[qt,yk]
 ·rw[if_neg hij,if_neg (fun e=>hij e.symm)]
  exact hC j hj
theorem Aj(k:List Sec)(m:List (Int×Sec))(j:Nat)(h:j<k.length):(DSt.apply k m).getD j sec0=(bV (j:Int) m).getD (k.getD j sec0):=by
 unfold DSt.apply
 rw[List.getD_eq_getElem?_getD,List.getElem?_mapIdx,List.getD_eq_getElem?_getD,List.getElem?_eq_getElem h]; rfl
def dsN(n:Nat):DSt:=⟨0,0,List.replicate n sec0,[]⟩
theorem vZ(n:Nat)(h:n≤4000):(dsN n).Fine:=⟨Nat.zero_le _,Nat.zero_le _,fun p hp=>by simp[dsN] at hp,by simpa [dsN] using h⟩
end Go.Sac

end
section
namespace Go.Sac
open Go
theorem lS{κ ν:Type}[DecidableEq κ](i k:κ)(v:ν)(m:List (κ×ν)):bV i (dj k v m)=if i=k then some v else bV i m:=by
 induction m with
 | nil =>
  simp only[dj,bV]
 | cons p m ih =>
  obtain⟨x,u⟩:=p
  simp only[dj]
  by_cases h:k=x
  ·subst h
   simp only[if_true,bV]
   by_cases hi:i=k <;> simp[hi]
  ·simp only[h,if_false,bV]
   by_cases hi:i=x
   ·subst hi
    have:¬i=k:=fun e=>h e.symm
    simp[this]
   ·simp only[hi,if_false]; exact ih
theorem xp{κ ν:Type}[DecidableEq κ](i k:κ)(m:List (κ×ν))(h:(m.map (·.1)).Nodup):bV i (iS k m)=if i=k then none else bV i m:=by
 induction m with
 | nil => simp [iS, bV]
 | cons p m ih =>
  obtain⟨x,u⟩:=p
  simp only[List.map_cons,List.nodup_cons] at h
  simp only[iS]
  by_cases hk:k=x
  ·subst hk
   simp only[if_true]
   by_cases hi:i=k
   ·subst hi; rw[if_pos rfl,nU h.1]
   ·rw[if_neg hi]; simp[bV,hi]
  ·simp only[hk,if_false,bV]
   by_cases hi:i=x
   ·subst hi
    have:¬i=k:=fun e=>hk e.symm
    simp[this]
   ·simp only[hi,if_false]; exact ih h.2
def SetAt(w:World)(r:Nat)(f:PgF):Prop:=∃m:List (UInt32×Value),MapAt w r m∧∀k,bV k m=if f k=true then some (.bool true) else none
def cO(f:PgF)(k:UInt32):PgF:=fun j=>decide (j=k)||f j
def ft(f:PgF)(k:UInt32):PgF:=fun j => !decide (j=k)&&f j
section
variable {w w':World}{r:Nat}{f:PgF}
theorem SetAt.mod{S:List Nat}(h:SetAt w r f)(hm:Chg S w w')(hn:r∉S):SetAt w' r f:=by
 obtain⟨m,h1,h2⟩:=h; exact⟨m,h1.mod hm hn,h2⟩
theorem SetAt.chg0(h:SetAt w r f)(hm:Chg [] w w'):SetAt w' r f:=h.mod hm (by simp)
theorem SetAt.lt(h:SetAt w r f):r<w.heap.size:=by
 obtain⟨m,h1,h2⟩:=h; exact h1.lt
theorem SetAt.nil(h:MapAt w r ([]:List (UInt32×Value))):SetAt w r fW:=⟨[],h,fun k=>by simp[bV,fW]⟩
theorem SetAt.look{k:UInt32}{m:List (UInt32×Value)}(h:∀k,bV k m=if f k=true then some (.bool true) else none):(bV k m).getD (.bool false) = .bool (f k):=by
 rw[h k]
 cases f k <;> rfl
theorem kX{m:List (UInt32×Value)}(h:∀k,bV k m=if f k=true then some (.bool true) else none)(k:UInt32):∀j,bV j (dj k (.bool true) m)=if cO f k j=true then some (.bool true) else none:=by
 intro j
 rw[lS]
 unfold cO
 by_cases hj:j=k
 ·subst hj; simp
 ·rw[if_neg hj,h j,decide_eq_false hj,Bool.false_or]
theorem yX{m:List (UInt32×Value)}(h:∀k,bV k m=if f k=true then some (.bool true) else none)(hn:(m.map (·.1)).Nodup)(k:UInt32):∀j,bV j (iS k m)=if ft f k j=true then some (.bool true) else none:=by
 intro j
 rw[xp _ _ _ hn]
 unfold ft
 by_cases hj:j=k
 ·subst hj; simp
 ·rw[if_neg hj,h j,decide_eq_false hj,Bool.not_false,Bool.true_and]
end
theorem Ag(l:List UInt8)(k j:Nat)(hk:k / 8<l.length):gz (l.set (k / 8) (l.getD (k / 8) 0 ||| wW 1 (k % 8))) j=(decide (j=k)||gz l j):=by
 unfold gz
 by_cases hj:j / 8=k / 8
 ·rw[hj,List.getD_eq_getElem?_getD,List.getElem?_set_self hk,Option.getD_some,UInt8.toNat_or,Nat.testBit_or]
  have h1:(wW 1 (k % 8)).toNat=2 ^ (k % 8):=by
   unfold wW
   rw[UInt8.toNat_ofNat']
   have:∀q:Fin 8,(((1:UInt8).toNat <<< q.1) % 2 ^ 8)=2 ^ q.1:=by decide
   exact this ⟨k % 8,by omega⟩
  rw[h1,Nat.testBit_two_pow,Bool.or_comm]
  congr 1
  by_cases h2:j=k
  ·subst h2; simp
  ·rw[decide_eq_false h2,decide_eq_false (by omega)]
 ·rw[List.getD_eq_getElem?_getD,List.getElem?_set_ne (fun h=>hj h.symm),←List.getD_eq_getElem?_getD,decide_eq_false (fun h=>hj (by rw[h])),Bool.false_or]
def orBit(c:UInt8)(k:Nat):UInt8:=c ||| wW 1 k
theorem bit_one(c:UInt8)(k:Nat)(hk:k<8):(shr8 c k &&& 1=1)↔c.toNat.testBit k=true:=by
 have:∀(c:Fin 256) (k:Fin 8),(shr8 (UInt8.ofNat c.1) k.1 &&& 1=1)↔(UInt8.ofNat c.1).toNat.testBit k.1=true:=by decide +kernel
 have:=this ⟨c.toNat,c.toNat_lt⟩ ⟨k,hk⟩
 rw[UInt8.ofNat_toNat] at this
 exact this
theorem xO(k:Nat):gz (List.replicate 50 0) k=false:=by
 unfold gz
 have:(List.replicate 50 (0:UInt8)).getD (k / 8) 0=0:=by
  rw[List.getD_eq_getElem?_getD,List.getElem?_replicate]; split <;> rfl
 rw[this]; simp
abbrev M50:={ l:List UInt8 // l.length=50 }
instance:Flat M50:=⟨50,fun s=>aV s.1,fun s=>by rw[aK,s.2]; rfl,fun s=>eT s.1⟩
def m50(f:PgF):M50:=⟨dz f,dW f⟩
def eO(s:Sup)(u r:Nat):List Value:=[.int .u32 s.root.toNat,str s.txt,.map (some u),.map (some r),.int .u64 s.commit.toNat,.int .u32 s.epoch.toNat]
def zw(s:Sup)(u r:Nat):Value := .agg (eO s u r).toArray
structure Sup.Ok(s:Sup):Prop where
 txt:s.txt.length≤200
 used:∀k,s.used k=true→k.toNat<400
 written:∀k,s.written k=true→k.toNat<400
theorem fg(s:Sup)(u r:Nat):∀q∈eO s u r,ei q=true:=by
 intro q hq
 simp only[eO,List.mem_cons,List.not_mem_nil,or_false] at hq
 rcases hq with rfl | rfl | rfl | rfl | rfl | rfl <;> rfl
theorem B4(n:Nat):fo ((UInt64.ofNat n).toNat:Int)=UInt32.ofNat n:=by
 rw[sC]
 apply UInt32.toNat_inj.1
 simp
theorem supC_of(b:List UInt8)(u r:Nat):[.int .u32 (fo ((UInt64.ofNat (cL ((b.drop (8+4)).take 4))).toNat:Int)).toNat,str ((b.drop 18).take (txN b)),.map (some u),.map (some r),.int .u64 (UInt64.ofNat (cL (b.take 8))).toNat,.int .u32 (fo ((UInt64.ofNat (cL ((b.drop 8).take 4))).toNat:Int)).toNat]=eO (ig b) u r:=by
 rw[B4,B4]; rfl
theorem vh{k b:List UInt8}(h:150+txN b≤b.length)(h2:txN b≤200):dr k b=if (b.drop (118+txN b)).take 32=j8 k (b.take (118+txN b)) then some (ig b) else none:=by
 unfold dr
 rw[if_neg (by omega)]
end Go.Sac

end
section
namespace Go.Sac
open Go Go.Maps Go.Proofs Go.Shelf
theorem Ad{κ:Type}[Key κ]{P:Program}{ρ:Ren}(L:SlLaysW.n5 P ρ)(w:World)(r:Nat)(m:List (κ×Value))(hm:MapAt w r m) :
  Ret P (ρ.f 5) #[.map (some r)] w fun v w'=>∃q,v = .map (some q)∧MapAt w' q m∧Chg [] w w'∧w.heap.size≤q:=by
 obtain⟨es,cl,hb,h⟩:=hm
 refine Calls.mono (AnyW.maps_Clone L r es cl w hb) ?_
 rintro e w' ⟨rfl,rfl⟩
 refine⟨_,rfl,_,rfl,⟨es,cl,?_,h⟩,Chg.push w (.map es cl),Nat.le_refl _⟩
 exact eA w (.map es cl)
theorem Ac{P:Program}{ρ:Ren}(L:SlLaysW.n5 P ρ)(w:World)(r:Nat)(f:PgF)(hm:SetAt w r f) :
  Ret P (ρ.f 5) #[.map (some r)] w fun v w'=>∃q,v = .map (some q)∧SetAt w' q f∧Chg [] w w'∧w.heap.size≤q:=by
 obtain⟨m,h1,h2⟩:=hm
 refine Calls.mono (Ad L w r m h1) ?_
 rintro e w' ⟨v,rfl,q,rfl,h3,h4,h5⟩
 exact⟨_,rfl,q,rfl,⟨m,h3,h2⟩,h4,h5⟩
end Go.Sac

end
section
namespace Go.Sac
open Go
structure Pst where
 root:UInt32
 txt:List UInt8
 used:PgF
 written:PgF
structure Pg where
 now:Pst
 kept:Sup
 at_:Nat
 count:UInt32
 gens:UInt32→Option UInt64
 broken:Bool
def Pg.free(P:Pg)(i:UInt32):Bool := !P.now.used i && !P.kept.used i
def Pg.fresh(P:Pg)(i:UInt32):Bool:=P.now.used i && !P.kept.used i
structure PR where
 pb:Nat
 u:Nat
 r:Nat
 ku:Nat
 kr:Nat
 g:Nat
def PF(R:PR):List Nat:=[R.pb,R.u,R.r,R.ku,R.kr,R.g]
def stC(s:Pst)(u r:Nat):List Value:=[.int .u32 s.root.toNat,str s.txt,.map (some u),.map (some r)]
def stV(s:Pst)(u r:Nat):Value := .agg (stC s u r).toArray
def Sup.st(s:Sup):Pst:=⟨s.root,s.txt,s.used,s.written⟩
theorem Bc(s:Pst)(u r:Nat):∀q∈stC s u r,ei q=true:=by
 intro q hq
 simp only[stC,List.mem_cons,List.not_mem_nil,or_false] at hq
 rcases hq with rfl | rfl | rfl | rfl <;> rfl
def pgA(P:Pg)(R:PR)(b:Nat):List Value:=[.int .u32 P.now.root.toNat,str P.now.txt,.map (some R.u),.map (some R.r),.pointer (some ⟨b,0,none⟩)]
def pgC(P:Pg)(R:PR):List Value:=[.int .u32 P.kept.root.toNat,str P.kept.txt,.map (some R.ku),.map (some R.kr),.int .u64 P.kept.commit.toNat,.int .u32 P.kept.epoch.toNat,.int .i64 P.at_,.int .u32 P.count.toNat,.map (some R.g),.bool P.broken]
def pgL(k pk:List UInt8)(A C:List Value):List Value:=A++(aV k++(aV pk++C))
def GenAt(w:World)(r:Nat)(f:UInt32→Option UInt64):Prop:=∃m:List (UInt32×Value),MapAt w r m∧∀k,bV k m=(f k).map fun x=>Value.int .u64 x.toNat
def PagerAt(w:World)(R:PR)(b:Nat)(k:List UInt8)(P:Pg):Prop :=
 Blk w R.pb (pgL k (aW k aY 0) (pgA P R b) (pgC P R))∧SetAt w R.u P.now.used∧SetAt w R.r P.now.written∧SetAt w R.ku P.kept.used∧SetAt w R.kr P.kept.written∧GenAt w R.g P.gens∧(PF R).Nodup
section
variable {k pk:List UInt8}{A A' C C':List Value}
theorem ln(k:List UInt8):(aV k).length=k.length:=by rw[aK]; show k.length*1=_; omega
theorem eZ(hk:k.length=32)(hp:pk.length=32)(hA:A.length=5)(hC:C.length=10):(pgL k pk A C).length=79:=by
 unfold pgL
 simp only[List.length_append,ln]; omega
theorem pgL_a(hA:A.length=5)(i:Nat)(hi:i<5){v:Value}(h:A[i]?=some v):(pgL k pk A C)[i]?=some v:=by
 unfold pgL; rw[List.getElem?_append_left (by omega)]; exact h
theorem pgL_c(hk:k.length=32)(hp:pk.length=32)(hA:A.length=5)(i:Nat){v:Value}(h:C[i]?=some v):(pgL k pk A C)[69+i]?=some v:=by
 unfold pgL
 rw[List.getElem?_append_right (by omega),List.getElem?_append_right (by rw[ln]; omega),List.getElem?_append_right (by rw[ln,ln]; omega),ln,ln,←h]
 congr 1; omega
theorem pgL_pk(hk:k.length=32)(hA:A.length=5):((pgL k pk A C).drop 37).take (aV pk).length=aV pk:=by
 unfold pgL
 rw[show 37=5+32 from rfl,←List.drop_drop,List.drop_left' hA,List.drop_left' (by rw[ln]; exact hk),List.take_left' rfl]
theorem vg(hA:A.length=5)(i:Nat)(l:List Value)(hi:i+l.length≤5)(h:spl A i l=A'):spl (pgL k pk A C) i l=pgL k pk A' C:=by
 subst h
 unfold pgL spl
 rw[List.take_append_of_le_length (by omega),List.drop_append_of_le_length (by omega)]
 simp only[List.append_assoc]
theorem iz(X Y l:List Value)(n i:Nat)(hX:X.length=n):spl (X++Y) (n+i) l=X++spl Y i l:=by
 unfold spl
 rw[List.take_append,List.take_of_length_le (by omega),List.drop_append,List.drop_of_length_le (by omega),show n+i-X.length=i by omega,show n+i+l.length-X.length=i+l.length by omega]
 simp only[List.append_assoc,List.nil_append]
theorem kF(hk:k.length=32)(hp:pk.length=32)(hA:A.length=5)(i:Nat)(l:List Value)(h:spl C i l=C'):spl (pgL k pk A C) (69+i) l=pgL k pk A C':=by
 subst h
 unfold pgL
 rw[show 69+i=5+(32+(32+i)) by omega,iz _ _ _ 5 _ hA,iz _ _ _ 32 _ (by rw[ln]; exact hk),iz _ _ _ 32 _ (by rw[ln]; exact hp)]
end
section
variable {w w':World}{R:PR}{b:Nat}{k:List UInt8}{P:Pg}
theorem GenAt.mod{S:List Nat}{r:Nat}{f:UInt32→Option UInt64}(h:GenAt w r f)(hm:Chg S w w')(hn:r∉S):GenAt w' r f:=by
 obtain⟨m,h1,h2⟩:=h; exact⟨m,h1.mod hm hn,h2⟩
theorem PagerAt.chg{S:List Nat}(h:PagerAt w R b k P)(hm:Chg S w w')(hn:∀x∈PF R,x∉S):PagerAt w' R b k P:=by
 obtain⟨h1,h2,h3,h4,h5,h6,h7⟩:=h
 exact⟨h1.chg hm (hn _ (by simp[PF])),h2.mod hm (hn _ (by simp[PF])),h3.mod hm (hn _ (by simp[PF])),h4.mod hm (hn _ (by simp[PF])),h5.mod hm (hn _ (by simp[PF])),h6.mod hm (hn _ (by simp[PF])),h7⟩
theorem PagerAt.chg0(h:PagerAt w R b k P)(hm:Chg [] w w'):PagerAt w' R b k P:=h.chg hm (by simp)
theorem PagerAt.lt(h:PagerAt w R b k P):∀x∈PF R,x<w.heap.size:=by
 obtain⟨h1,h2,h3,h4,h5,h6,h7⟩:=h
 intro x hx
 simp only[PF,List.mem_cons,List.not_mem_nil,or_false] at hx
 obtain⟨m,h6,_⟩:=h6
 rcases hx with rfl | rfl | rfl | rfl | rfl | rfl
 ·exact h1.lt
 ·exact h2.lt
 ·exact h3.lt
 ·exact h4.lt
 ·exact h5.lt
 ·exact h6.lt
theorem PagerAt.a(h:PagerAt w R b k P)(i:Nat)(hi:i<5){v:Value}(hv:(pgA P R b)[i]?=some v):w.cell? ⟨R.pb,i,none⟩=some v:=h.1.c (pgL_a rfl i hi hv)
theorem PagerAt.c(h:PagerAt w R b k P)(hk:k.length=32)(i:Nat){v:Value}(hv:(pgC P R)[i]?=some v):w.cell? ⟨R.pb,69+i,none⟩=some v:=h.1.c (pgL_c hk (du _ _ _) rfl i hv)
theorem PagerAt.atP(h:PagerAt w R b k P)(hk:k.length=32):At w R.pb 37 (aV (aW k aY 0)):=h.1.at (pgL_pk hk rfl)
end
section
variable {w w':World}{R:PR}{b:Nat}{k:List UInt8}{P:Pg}
theorem PR.apart(h:(PF R).Nodup):(R.pb≠R.u∧R.pb≠R.r∧R.pb≠R.ku∧R.pb≠R.kr∧R.pb≠R.g)∧(R.u≠R.r∧R.u≠R.ku∧R.u≠R.kr∧R.u≠R.g)∧(R.r≠R.ku∧R.r≠R.kr∧R.r≠R.g)∧(R.ku≠R.kr∧R.ku≠R.g)∧R.kr≠R.g:=by
 simp only[PF,List.nodup_cons,List.mem_cons,List.not_mem_nil,or_false,not_or] at h
 obtain⟨h1,h2,h3,h4,h5,_⟩:=h
 exact⟨h1,h2,h3,h4,h5⟩
theorem PagerAt.updU{f:PgF}(h:PagerAt w R b k P)(hs:SetAt w' R.u f)(hc:Chg [R.u] w w'):PagerAt w' R b k { P with now:={ P.now with used:=f } }:=by
 obtain⟨h1,h2,h3,h4,h5,h6,h7⟩:=h
 obtain⟨q1,q2,q3,q4,q5⟩:=PR.apart h7
 exact⟨h1.nb hc q1.1,hs,h3.mod hc (by simpa using Ne.symm q2.1),h4.mod hc (by simpa using Ne.symm q2.2.1),h5.mod hc (by simpa using Ne.symm q2.2.2.1),h6.mod hc (by simpa using Ne.symm q2.2.2.2),h7⟩
theorem PagerAt.updW{f:PgF}(h:PagerAt w R b k P)(hs:SetAt w' R.r f)(hc:Chg [R.r] w w'):PagerAt w' R b k { P with now:={ P.now with written:=f } }:=by
 obtain⟨h1,h2,h3,h4,h5,h6,h7⟩:=h
 obtain⟨q1,q2,q3,q4,q5⟩:=PR.apart h7
 exact⟨h1.nb hc q1.2.1,h2.mod hc (by simpa using q2.1),hs,h4.mod hc (by simpa using Ne.symm q3.1),h5.mod hc (by simpa using Ne.symm q3.2.1),h6.mod hc (by simpa using Ne.symm q3.2.2),h7⟩
theorem PagerAt.updG{f:UInt32→Option UInt64}(h:PagerAt w R b k P)(hs:GenAt w' R.g f)(hc:Chg [R.g] w w'):PagerAt w' R b k { P with gens:=f }:=by
 obtain⟨h1,h2,h3,h4,h5,h6,h7⟩:=h
 obtain⟨q1,q2,q3,q4,q5⟩:=PR.apart h7
 exact⟨h1.nb hc q1.2.2.2.2,h2.mod hc (by simpa using q2.2.2.2),h3.mod hc (by simpa using q3.2.2),h4.mod hc (by simpa using q4.2),h5.mod hc (by simpa using q5),hs,h7⟩
theorem PagerAt.updC{P':Pg}(h:PagerAt w R b k P)(hB:Blk w' R.pb (pgL k (aW k aY 0) (pgA P' R b) (pgC P' R)))(hc:Chg [R.pb] w w')(h1:P'.now.used=P.now.used)(h2:P'.now.written=P.now.written)(h3:P'.kept.used=P.kept.used)(h4:P'.kept.written=P.kept.written)(h5:P'.gens=P.gens):PagerAt w' R b k P':=by
 obtain⟨g1,g2,g3,g4,g5,g6,g7⟩:=h
 obtain⟨q1,q2,q3,q4,q5⟩:=PR.apart g7
 refine⟨hB,?_,?_,?_,?_,?_,g7⟩
 ·rw[h1]; exact g2.mod hc (by simpa using Ne.symm q1.1)
 ·rw[h2]; exact g3.mod hc (by simpa using Ne.symm q1.2.1)
 ·rw[h3]; exact g4.mod hc (by simpa using Ne.symm q1.2.2.1)
 ·rw[h4]; exact g5.mod hc (by simpa using Ne.symm q1.2.2.2.1)
 ·rw[h5]; exact g6.mod hc (by simpa using Ne.symm q1.2.2.2.2)
end
def dN(P:Pg)(n:Nat):Nat:=((List.range n).filter fun i=>P.free (UInt32.ofNat i)).length
theorem x5(P:Pg)(n:Nat):dN P (n+1)=dN P n+(if P.free (UInt32.ofNat n)=true then 1 else 0):=by
 unfold dN
 rw[List.range_succ,List.filter_append,List.length_append]
 congr 1
 by_cases h:P.free (UInt32.ofNat n)=true <;> simp[h]
theorem Bp(P:Pg)(n:Nat):dN P n≤n:=by
 unfold dN
 exact Nat.le_trans (List.length_filter_le _ _) (by simp)
def cN(l:List UInt8):List UInt8:=be 2 l.length++l++List.replicate (480-l.length) 0
def fp(pk:List UInt8)(i g:Nat)(l:List UInt8):List UInt8:=be 8 g++eL pk (bY i g) aY (cN l)++List.replicate 6 0
theorem jg(l:List UInt8)(h:l.length≤480):(cN l).length=482:=by simp[cN,aI]; omega
theorem jJ(pk:List UInt8)(i g:Nat)(l:List UInt8)(h:l.length≤480):(fp pk i g l).length=512:=by
 unfold fp
 simp only[List.length_append,fG,aI,jg l h,List.length_replicate]
def Pg.gen(P:Pg):UInt64:=uR (cW (P.kept.epoch.toNat:Int)) 32 ||| cW (P.count.toNat:Int)
def qq(f:UInt32→Option UInt64)(i:UInt32)(g:UInt64):UInt32→Option UInt64:=fun j=>if j=i then some g else f j
theorem gen_law{f:UInt32→Option UInt64}{m:List (UInt32×Value)}(h:∀k,bV k m=(f k).map fun x=>Value.int .u64 x.toNat)(i:UInt32)(g:UInt64):∀k,bV k (dj i (.int .u64 g.toNat) m)=(qq f i g k).map fun x=>Value.int .u64 x.toNat:=by
 intro k
 rw[lS]
 unfold qq
 by_cases hk:k=i
 ·rw[if_pos hk,if_pos hk]; rfl
 ·rw[if_neg hk,if_neg hk]; exact h k
theorem Bd{α:Type}(a b c m:List α)(hb:b.length=m.length){k:Nat}(hk:a.length=k):spl (a++b++c) k m=a++m++c:=by
 subst hk
 unfold spl
 have e:a++b++c=a++(b++c):=List.append_assoc _ _ _
 rw[e,List.take_left' rfl,←List.drop_drop,List.drop_left' rfl,List.drop_left' hb]
theorem zL(l:List UInt8)(h:l.length≤480):spl (be 2 l.length++List.replicate (482-2) (0:UInt8)) 2 l=cN l:=by
 have h2:List.replicate (482-2) (0:UInt8)=List.replicate l.length 0++List.replicate (480-l.length) 0:=by
  rw[List.replicate_append_replicate]; congr 1; omega
 rw[h2,←List.append_assoc]
 exact Bd _ _ _ _ (by simp) (aI _ _)
theorem fV(g:Nat)(s:List UInt8)(h:s.length=498):spl (be 8 g++List.replicate (512-8) (0:UInt8)) 8 s=be 8 g++s++List.replicate 6 0:=by
 have h2:List.replicate (512-8) (0:UInt8)=List.replicate 498 0++List.replicate 6 0:=by
  rw[List.replicate_append_replicate]
 rw[h2,←List.append_assoc]
 exact Bd _ _ _ _ (by rw[h,List.length_replicate]) (aI _ _)
theorem Ce{f:UInt32→Option UInt64}{m:List (UInt32×Value)}(h:∀k,bV k m=(f k).map fun x=>Value.int .u64 x.toNat)(i:UInt32):(bV i m).getD (.int .u64 0) = .int .u64 ((f i).getD 0).toNat:=by
 rw[h i]
 cases f i with
 | none => simp
 | some x => simp
theorem uN(X Y l:List Value)(h:l.length=X.length):spl (X++Y) 0 l=l++Y:=by
 unfold spl
 rw[List.take_zero,List.nil_append,Nat.zero_add,h,List.drop_left' rfl]
theorem BB{z k pk:List UInt8}{A C:List Value}(hz:z.length=32)(hk:k.length=32)(hA:A.length=5):spl (pgL z pk A C) 5 (aV k)=pgL k pk A C:=by
 unfold pgL
 rw[show 5=5+0 from rfl,iz _ _ _ 5 _ hA,uN _ _ _ (by rw[ln,ln,hz,hk])]
theorem BA{z k pk:List UInt8}{A C:List Value}(hk:k.length=32)(hz:z.length=32)(hp:pk.length=32)(hA:A.length=5):spl (pgL k z A C) 37 (aV pk)=pgL k pk A C:=by
 unfold pgL
 rw[show 37=5+(32+0) from rfl,iz _ _ _ 5 _ hA,iz _ _ _ 32 _ (by rw[ln]; exact hk),uN _ _ _ (by rw[ln,ln,hz,hp])]
theorem fill2{place:Nat→Option (Nat×Nat)}{cs cs' l:List Value}{i off size:Nat}{v:Value}{rest:List (Nat×Value)}{r:Option (Array Value)}(hp:place i=some (off,size))(hv:v.cells.toList=l)(hl:l.length=size)(ho:off+size≤cs.length)(hs:spl cs off l=cs')
  (h:Instr.fill place cs'.toArray rest=r):Instr.fill place cs.toArray ((i,v)::rest)=r:=by
 subst hs
 exact bZ hp hv hl ho h
def z32:List UInt8:=List.replicate 32 0
def pgA0:List Value:=[.int .u32 0,str [],.map none,.map none,.pointer none]
def pgC0:List Value:=[.int .u32 0,str [],.map none,.map none,.int .u64 0,.int .u32 0,.int .i64 0,.int .u32 0,.map none,.bool false]
theorem lL{place:Nat→Option (Nat×Nat)}{k pk:List UInt8}(hk:k.length=32)(hpk:pk.length=32)(s:Sup)(st:Pst)(b u' r' u rr g a:Nat)(h0:place 0=some (0,4))(h1:place 1=some (4,1))(h2:place 2=some (5,32))(h3:place 3=some (37,32))(h4:place 4=some (69,6))(h5:place 5=some (75,1))(h7:place 7=some (77,1)) :
  Instr.fill place (pgL z32 z32 pgA0 pgC0).toArray [(0,stV st u' r'),(1,.pointer (some ⟨b,0,none⟩)),(2,bT k),(3,bT pk),(4,zw s u rr),(5,.int .i64 a),(7,.map (some g))] =
   some (pgL k pk (pgA ⟨st,s,a,0,fun _=>none,false⟩ ⟨0,u',r',u,rr,g⟩ b) (pgC ⟨st,s,a,0,fun _=>none,false⟩ ⟨0,u',r',u,rr,g⟩)).toArray:=by
 have hz:z32.length=32:=rfl
 refine fill2 (l:=stC st u' r') h0 rfl rfl (by rw[eZ hz hz rfl rfl]; omega) (vg rfl 0 (stC st u' r') (Nat.le_of_ble_eq_true rfl) rfl) ?_
 refine fill2 (l:=[.pointer (some ⟨b,0,none⟩)]) h1 rfl rfl (by rw[eZ hz hz rfl rfl]; omega) (vg rfl 4 [.pointer (some ⟨b,0,none⟩)] (Nat.le_of_ble_eq_true rfl) rfl) ?_
 refine fill2 (l:=aV k) h2 rfl (by rw[ln]; exact hk) (by rw[eZ hz hz rfl rfl]; omega) (BB hz hk rfl) ?_
 refine fill2 (l:=aV pk) h3 rfl (by rw[ln]; exact hpk) (by rw[eZ hk hz rfl rfl]; omega) (BA hk hz hpk rfl) ?_
 refine fill2 (l:=eO s u rr) h4 rfl rfl (by rw[eZ hk hpk rfl rfl]; omega) (kF hk hpk rfl 0 (eO s u rr) rfl) ?_
 refine fill2 (l:=[.int .i64 a]) h5 rfl rfl (by rw[eZ hk hpk rfl rfl]; omega) (kF hk hpk rfl 6 [.int .i64 a] rfl) ?_
 refine fill2 (l:=[.map (some g)]) h7 rfl rfl (by rw[eZ hk hpk rfl rfl]; omega) (kF hk hpk rfl 8 [.map (some g)] rfl) ?_
 exact ej rfl
end Go.Sac

end
section
namespace Go.Sac
open Go
theorem qd{ds:DSt}(i:Int)(l:List UInt8)(hf:ds.Fine)(h:ds.steps+(l.length+63) / 64≤1000000000000):(ds.writes i l).1.Fine∧(ds.writes i l).1.steps≤ds.steps+(l.length+63) / 64∧(ds.writes i l).1.kept=ds.kept:=DSt.wr_bnd _ ds i l hf h
theorem ju(k:List UInt8)(ds:DSt)(a:Nat)(s:Sup)(hf:ds.Fine)(ht:s.txt.length≤200)(h:ds.steps+20≤1000000000000) :
  (cq k ds a s).1.Fine∧(cq k ds a s).1.steps≤ds.steps+8∧(cq k ds a s).1.kept.length=ds.kept.length:=by
 have hl:(cR (bx k s) s.commit).length=64*((150+s.txt.length+55) / 56):=by rw[ji,ff]
 obtain⟨h1,h2,h3⟩:=qd ((a:Int)*16) (cR (bx k s) s.commit) hf (by omega)
 unfold cq
 split
 ·have h4:=DSt.flush_steps (ds.writes ((a:Int)*16) (cR (bx k s) s.commit)).1
  exact⟨h1.flush (by omega),by omega,by rw[DSt.flush_len,h3]⟩
 ·exact⟨h1,by omega,by rw[h3]⟩
theorem vA{k:List UInt8}{ds:DSt}{s:Sup}{a:Nat}(h:newest k ds=some (s,a)):a≤1∧dr k (fR (dZ ds a))=some s:=by
 have h0:∀(o:Option (Sup×Nat)) (i:Nat),dg k ds o i=o∨∃s,dg k ds o i=some (s,i)∧dr k (fR (dZ ds i))=some s:=by
  intro o i
  unfold dg
  split
  ·exact .inl rfl
  ·rename_i s0 hs0
   split
   ·exact .inr ⟨_,rfl,hs0⟩
   ·split
    ·exact .inr ⟨_,rfl,hs0⟩
    ·exact .inl rfl
 unfold newest at h
 rcases h0 (dg k ds none 0) 1 with h1 | ⟨s1,h1,h2⟩
 ·rw[h1] at h
  rcases h0 none 0 with h3 | ⟨s3,h3,h4⟩
  ·rw[h3] at h; cases h
  ·rw[h3] at h; cases h; exact⟨by omega,h4⟩
 ·rw[h1] at h; cases h; exact⟨by omega,h2⟩
def qP(pk:List UInt8)(i:Nat)(t:List UInt8):Option (List UInt8) :=
 if lA pk (bY i (UInt64.ofNat (cL (t.take 8))).toNat) aY ((t.drop 8).take 498) then
  some (((fb pk (bY i (UInt64.ofNat (cL (t.take 8))).toNat) ((t.drop 8).take 482)).drop 2).take (min (cL ((fb pk (bY i (UInt64.ofNat (cL (t.take 8))).toNat) ((t.drop 8).take 482)).take 2)) 480))
 else none
def genD(ds:DSt)(i:UInt32):UInt64:=UInt64.ofNat (cL ((ds.reads (32+(i.toNat:Int)*8) 1).take 8))
def hU(P:Pg)(root:UInt32)(txt:List UInt8):Sup:=⟨root,txt,P.now.used,P.now.written,P.kept.commit+1,P.kept.epoch⟩
theorem sS(k:List UInt8)(ds:DSt):pf (newest k ds) = -1∨pf (newest k ds)=0∨pf (newest k ds)=1:=by
 have h0:∀(o:Option (Sup×Nat)) (i:Nat),dg k ds o i=o∨∃s,dg k ds o i=some (s,i):=by
  intro o i
  unfold dg
  split
  ·exact .inl rfl
  ·split
   ·exact .inr ⟨_,rfl⟩
   ·split
    ·exact .inr ⟨_,rfl⟩
    ·exact .inl rfl
 unfold newest
 rcases h0 (dg k ds none 0) 1 with h | ⟨s,h⟩
 ·rw[h]
  rcases h0 none 0 with h | ⟨s,h⟩
  ·rw[h]; exact .inl rfl
  ·rw[h]; exact .inr (.inl rfl)
 ·rw[h]; exact .inr (.inr rfl)
def eH(k:List UInt8)(ds:DSt)(i:Nat):Sup:=⟨0,[],fW,fW,en k ds+cW (i:Int),rU (newest k ds)+1⟩
def fN(k:List UInt8)(ds:DSt)(i:Nat):Nat:=((pf (newest k ds)+1+i) % 2).toNat
def g9(k:List UInt8)(ds:DSt):Nat→DSt×Int
 | 0 => (ds, 0)
 | i + 1 => cq k (g9 k ds i).1 (fN k ds i) (eH k ds i)
theorem yO(k:List UInt8)(ds:DSt)(i:Nat):fN k ds i≤1:=by unfold fN; omega
theorem xC(k:List UInt8)(ds:DSt)(u r:Nat){ep:UInt32}(h:ep=rU (newest k ds)):eO (eH k ds 0) u r=[.int .u32 0,str [],.map (some u),.map (some r),.int .u64 (en k ds).toNat,.int .u32 (ep+1).toNat]:=by
 have h0:en k ds+cW ((0:Nat):Int)=en k ds:=by rw[dX]; exact UInt64.add_zero _
 subst h
 show[Value.int .u32 0,str [],.map (some u),.map (some r),.int .u64 (en k ds+cW ((0:Nat):Int)).toNat,.int .u32 (rU (newest k ds)+1).toNat]=_
 rw[h0]
theorem vO(k:List UInt8)(ds:DSt)(hf:ds.Fine)(h:ds.steps+60≤1000000000000):∀i,i≤3→(g9 k ds i).1.Fine∧(g9 k ds i).1.steps≤ds.steps+8*i∧(g9 k ds i).1.kept.length=ds.kept.length
 | 0, _ => ⟨hf, Nat.le_refl _, rfl⟩
 | i + 1, hi => by
  obtain⟨h1,h2,h3⟩:=vO k ds hf h i (by omega)
  obtain⟨q1,q2,q3⟩:=ju k (g9 k ds i).1 (fN k ds i) (eH k ds i) h1 (by show 0≤200; omega) (by omega)
  exact⟨q1,by show(cq k (g9 k ds i).1 (fN k ds i) (eH k ds i)).1.steps≤_; omega,by show(cq k (g9 k ds i).1 (fN k ds i) (eH k ds i)).1.kept.length=_; rw[q3,h3]⟩
theorem fmtS_ok(k:List UInt8)(ds:DSt)(i:Nat):(eH k ds i).Ok:=⟨by show 0≤200; omega,fun _ h=>Bool.noConfusion h,fun _ h=>Bool.noConfusion h⟩
def opS(k:List UInt8)(ds:DSt)(s:Sup):Sup:={ s with commit:=en k ds,epoch:=s.epoch+1 }
end Go.Sac

end
section
namespace Go.Sac
open Go
section
variable {κ:Type}[Key κ][DecidableEq κ]
def EntAt(w:World)(r:Nat)(m:List (κ×Value))(k:κ)(born:Nat):Prop :=
 ∃es cl i,w.heap[r]?=some (.map es cl)∧es.findIdx? (fun e=>(e.born:Int)==(born:Int))=some i ∧
  ∀v,∀w2:World,w2.heap[r]?=some (.map (es.modify i fun e=>{ e with val:=v }) cl)→MapAt w2 r (dj k v m)
theorem EntAt.mod{S:List Nat}{w w':World}{r:Nat}{m:List (κ×Value)}{k:κ}{born:Nat}(h:EntAt w r m k born)(hm:Chg S w w')(hn:r∉S):EntAt w' r m k born:=by
 obtain⟨es,cl,i,h1,h2⟩:=h
 exact⟨es,cl,i,hm.blk h1 hn,h2⟩
variable {P:Program}{E:Env}{w:World}{ty t:TypeId}{x y z:Operand}
theorem xH:exec P E (.mapEntry t x y) ty w=(gW (Instr.mapEntry t (ev E x) (ev E y))).run P w:=rfl
theorem uc:exec P E (.entryStore t x y z) ty w=(B0 (Instr.entryStore t (ev E x) (ev E y) (ev E z))).run P w:=rfl
theorem td{es:List MapEntry}(hn:(es.map (·.born)).Nodup){i:Nat}{e:MapEntry}(he:es[i]?=some e):es.findIdx? (fun x=>(x.born:Int)==(e.born:Int))=some i:=by
 rw[List.findIdx?_eq_some_iff_getElem]
 have hi:=(List.getElem?_eq_some_iff.1 he).1
 have hv:=(List.getElem?_eq_some_iff.1 he).2
 refine⟨hi,by rw[hv]; simp,fun j hj hb=>?_⟩
 have hj':j<es.length:=by omega
 simp only[beq_iff_eq] at hb
 have h1:=(List.pairwise_iff_getElem.1 hn) j i (by simpa using hj') (by simpa using hi) hj
 simp only[List.getElem_map,hv] at h1
 omega
theorem nt(a:Array MapEntry)(p:MapEntry→Bool):a.findIdx? p=a.toList.findIdx? p:=by
 obtain⟨l⟩:=a
 simp
theorem pP{kt vt:TypeId}{nf:TypeInfo}{zv:Value}{r:Nat}{k:κ}{m:List (κ×Value)}(ht:P.underlying t=some (.map kt vt))(hk:KeyOk P kt κ)(hi:P.info? vt=some nf)(hz:nf.zero=some zv)(hx:ev E x = .map (some r))(hy:ev E y=Key.enc k)(hm:MapAt w r m) :
  ∃v w',exec P E (.mapEntry t x y) ty w = .ok (.value v) w'∧∃born u,v = .tuple #[u,.int .i64 (born:Nat)]∧EntAt w' r m k born∧Chg [r] w w'∧w'.heap.size=w.heap.size:=by
 obtain⟨es,cl,hb,he,hn,hbn,hcl⟩:=hm
 have hg:(getObj r).run P w = .ok (.map es cl) w:=by
  show Sem.run P (.getObj r .pure) w=_
  simp only[Sem.run,hb]
 have hset:=fun v=>lZ k v es.toList m 0 he
 have key:∃u born o,(Instr.mapEntry t (.map (some r)) (Key.enc k)).run P w = .ok (.tuple #[u,.int .i64 (born:Nat)]) (w.setB r o)∧EntAt (w.setB r o) r m k born:=by
  unfold Instr.mapEntry
  rw[an (run_underlying ht w)]
  simp only[]
  rw[an hg]
  simp only[]
  rw[an (hk.chk _ k w),an (hk.fnd k es.toList _ w (nk he))]
  cases hf:gy k es.toList (m.map (·.1)) 0 with
  | none =>
   simp only[hf] at hset ⊢
   rw[an (cD hi hz w),an (fy hb)]
   refine⟨zv,cl,_,rfl,?_⟩
   have hnb:(((es.push { key:=Key.enc k,val:=zv,born:=cl }).toList).map (·.born)).Nodup:=by
    simp only[Array.toList_push,List.map_append,List.map_cons,List.map_nil]
    refine List.nodup_append.2 ⟨hbn,by simp,?_⟩
    intro a ha b hb'
    simp only[List.mem_singleton] at hb'
    obtain⟨e,he',rfl⟩:=List.mem_map.1 ha
    have:=hcl e he'
    omega
   refine⟨_,_,es.size,dq (bH hb),?_,fun v w2 hw2=>⟨_,_,hw2,?_,?_,?_,?_⟩⟩
   ·rw[nt]
    exact td hnb (e:={ key:=Key.enc k,val:=zv,born:=cl }) (by simp)
   ·have hl:((es.push { key:=Key.enc k,val:=zv,born:=cl }).modify es.size fun e=>{ e with val:=v }).toList=es.toList++[{ key:=Key.enc k,val:=v,born:=cl }]:=by
     rw[Array.toList_modify,Array.toList_push]
     apply List.ext_getElem?
     intro i
     rw[List.getElem?_modify]
     by_cases hi':es.size=i
     ·subst hi'; simp
     ·simp only[hi',if_false,List.getElem?_append,Array.length_toList]
      by_cases hlt:i<es.size
      ·simp[hlt]
      ·obtain⟨d,hd⟩:∃d,i-es.size=d+1:=⟨i-es.size-1,by omega⟩
       simp[hlt,hd]
    rw[hl,(hset v).2.1]
    simp[he]
   ·rw[(hset v).2.1]; simp only[List.map_append,List.map_cons,List.map_nil]
    exact List.nodup_append.2 ⟨hn,by simp,by simpa using fun a b hab=>by intro hh; subst hh; exact(hset v).1 (List.mem_map.2 ⟨_,hab,rfl⟩)⟩
   ·have:(((es.push { key:=Key.enc k,val:=zv,born:=cl }).modify es.size fun e=>{ e with val:=v }).toList.map (·.born))=((es.push { key:=Key.enc k,val:=zv,born:=cl }).toList).map (·.born):=by
     rw[Array.toList_modify]
     apply List.ext_getElem?
     intro i
     simp only[List.getElem?_map,List.getElem?_modify]
     split
     ·cases (es.push { key:=Key.enc k,val:=zv,born:=cl }).toList[i]? <;> rfl
     ·cases (es.push { key:=Key.enc k,val:=zv,born:=cl }).toList[i]? <;> rfl
    rw[this]; exact hnb
   ·intro e he'
    rw[Array.toList_modify] at he'
    obtain⟨i,hi'⟩:=List.mem_iff_getElem?.1 he'
    rw[List.getElem?_modify] at hi'
    cases hh:(es.push { key:=Key.enc k,val:=zv,born:=cl }).toList[i]? with
    | none => rw [hh] at hi'; simp at hi'
    | some e0 =>
     rw[hh] at hi'
     have h0:e0.born<cl+1:=by
      have hmem:=List.mem_of_getElem? hh
      simp only[Array.toList_push,List.mem_append,List.mem_singleton] at hmem
      rcases hmem with h | rfl
      ·have:=hcl e0 h; omega
      ·simp
     by_cases hij:es.size=i
     ·simp[hij] at hi'; subst hi'; exact h0
     ·simp[hij] at hi'; subst hi'; exact h0
  | some q =>
   obtain⟨j,v'⟩:=q
   simp only[hf,Nat.sub_zero] at hset ⊢
   obtain⟨_,h2,_,_,h5,_⟩:=hset v'
   have hjs:j<es.toList.length:=h2
   have hej:es.toList[j]?=some es.toList[j]:=List.getElem?_eq_getElem hjs
   have hej':es[j]?=some es.toList[j]:=by rw[←hej]; simp
   have hkj:(es.toList[j]).key=Key.enc k:=by rw[hej] at h5; simpa using h5
   have hkey:((es[j]?).map (·.key)).getD (Key.enc k)=Key.enc k:=by rw[hej']; exact hkj
   rw[hkey]
   have hst:(Instr.keyThatStays (Key.enc k) (Key.enc k)).run P w = .ok (Key.enc k) w:=by
    unfold Instr.keyThatStays
    rw[if_pos (Key.bits k)]; rfl
   rw[an hst,an (fy hb)]
   have hbo:((es[j]?).map (fun x=>(x.born:Int))).getD 0=((es.toList[j]).born:Int):=by rw[hej']; rfl
   rw[hbo]
   refine⟨v',(es.toList[j]).born,_,rfl,?_⟩
   have hme:es.modify j (fun e=>{ e with key:=Key.enc k })=es:=by
    apply Array.ext'
    rw[Array.toList_modify]
    apply List.ext_getElem?
    intro i
    rw[List.getElem?_modify]
    by_cases hij:j=i
    ·subst hij; rw[hej]; simp[←hkj]
    ·simp[hij]
   rw[hme]
   refine⟨_,_,j,dq (bH hb),?_,fun v w2 hw2=>⟨_,_,hw2,?_,?_,?_,?_⟩⟩
   ·rw[nt]
    exact td hbn hej
   ·obtain⟨_,_,h3,_,_,_⟩:=hset v
    rw[←h3,Array.toList_modify]
    congr 1
    apply List.ext_getElem?
    intro i
    simp only[List.getElem?_modify]
    by_cases hij:j=i
    ·subst hij; rw[hej]; simp[←hkj]
    ·simp[hij]
   ·obtain⟨_,_,_,h4,_,_⟩:=hset v
    rw[h4]; exact hn
   ·have:((es.modify j fun e=>{ e with val:=v }).toList.map (·.born))=es.toList.map (·.born):=by
     rw[Array.toList_modify]
     apply List.ext_getElem?
     intro i
     simp only[List.getElem?_map,List.getElem?_modify]
     split
     ·cases es.toList[i]? <;> rfl
     ·cases es.toList[i]? <;> rfl
    rw[this]; exact hbn
   ·intro e he'
    rw[Array.toList_modify] at he'
    obtain⟨i,hi'⟩:=List.mem_iff_getElem?.1 he'
    rw[List.getElem?_modify] at hi'
    cases hh:es.toList[i]? with
    | none => rw [hh] at hi'; simp at hi'
    | some e0 =>
     rw[hh] at hi'
     have:=hcl e0 (List.mem_of_getElem? hh)
     by_cases hij:j=i
     ·subst hij; simp at hi'; subst hi'; exact this
     ·simp[hij] at hi'; subst hi'; exact this
 obtain⟨u,born,o,h1,h2⟩:=key
 refine⟨_,_,?_,born,u,rfl,h2,Chg.set _ _ _,cU _ _ _⟩
 rw[xH,hx,hy]
 exact aU h1
theorem mn{r:Nat}{k:κ}{v:Value}{m:List (κ×Value)}{born:Nat}(hx:ev E x = .map (some r))(hy:ev E y = .int .i64 born)(hv:ev E z=v)(hm:EntAt w r m k born) :
  ∃w',exec P E (.entryStore t x y z) ty w = .ok .skip w'∧MapAt w' r (dj k v m)∧Chg [r] w w'∧w'.heap.size=w.heap.size:=by
 obtain⟨es,cl,i,hb,hf,hs⟩:=hm
 have hg:(getObj r).run P w = .ok (.map es cl) w:=by
  show Sem.run P (.getObj r .pure) w=_
  simp only[Sem.run,hb]
 refine⟨w.setB r (.map (es.modify i fun e=>{ e with val:=v }) cl),?_,hs v _ (dq (bH hb)),Chg.set _ _ _,cU _ _ _⟩
 rw[uc,hx,hy,hv]
 have key:(Instr.entryStore t (.map (some r)) (.int .i64 born) v).run P w = .ok () (w.setB r (.map (es.modify i fun e=>{ e with val:=v }) cl)):=by
  unfold Instr.entryStore
  simp only[]
  rw[an hg]
  simp only[]
  have ha:(asInt (.int .i64 (born:Int))).run P w = .ok (born:Int) w:=rfl
  rw[an ha]
  simp only[hf]
  exact fy hb
 exact qv key
end
end Go.Sac

end
section
namespace Go.Sac
open Go
def SlE{α:Type}[Flat α](w:World)(v:Value)(l:List α):Prop:=Sl w v l∨(l=[]∧∃p c,v = .slice p 0 c)
section
variable {α:Type}[Flat α]{P:Program}{E:Env}{w w':World}{v:Value}{l:List α}{S:List Nat}{ty t u:TypeId}{x:Operand}
theorem SlE.form(h:SlE w v l):∃p c,v = .slice p l.length c:=by
 rcases h with h | ⟨rfl,p,c,rfl⟩
 ·exact h.form rfl
 ·exact⟨p,c,rfl⟩
theorem SlE.mod(h:SlE w v l)(hm:Chg S w w')(hn:l≠[]→∀b∈ar v,b∉S):SlE w' v l:=by
 by_cases hl:l=[]
 ·subst hl
  obtain⟨p,c,rfl⟩:=h.form
  exact .inr ⟨rfl,p,c,rfl⟩
 ·rcases h with h | ⟨h,_⟩
  ·exact .inl (h.mod hm (hn hl))
  ·exact absurd h hl
theorem SlE.mod0(h:SlE w v l)(hm:Chg [] w w'):SlE w' v l:=h.mod hm (fun _ _ _=>by simp)
theorem SlE.lt(h:SlE w v l)(hl:l≠[]):∀b∈ar v,b<w.heap.size:=by
 rcases h with h | ⟨h,_⟩
 ·exact h.lt
 ·exact absurd h hl
theorem SlE.src(h:SlE w v l):Src α P w v l:=by
 rcases h with h | ⟨rfl,p,c,rfl⟩
 ·exact h.src
 ·refine⟨rfl,fun w' _ n hn=>?_⟩
  obtain rfl:n=0:=by simpa using hn
  cases p with
  | none => rfl
  | some a =>
   show(loadCells a (0*Flat.sz α)).run P w'=_
   rw[Nat.zero_mul]
   rfl
end
end Go.Sac

end
section
namespace Go.Sac
open Go
def chS(l:List UInt8)(q:Nat):Sec:=DSt.putS sec0 ((l.drop (64*q)).take 64)
theorem Bu(c c':Sec)(l:List UInt8)(h:l.length=64):DSt.putS c l=DSt.putS c' l:=by
 apply Subtype.ext
 rw[l7 _ _ (by omega),l7 _ _ (by omega),List.drop_of_length_le (by rw[c.2]; omega),List.drop_of_length_le (by rw[c'.2]; omega)]
theorem ui(l:List UInt8)(q n:Nat)(h:l.length=64*n)(hq:q<n):(chS l q).1=(l.drop (64*q)).take 64:=by
 have hl:((l.drop (64*q)).take 64).length=64:=by rw[List.length_take,List.length_drop]; omega
 unfold chS
 rw[l7 _ _ (by omega),hl,show sec0.1.drop 64=[] from List.drop_of_length_le (by rw[sec0.2]; omega),List.append_nil]
theorem Cv(l:List UInt8)(q:Nat):chS (l.drop 64) q=chS l (q+1):=by
 unfold chS
 rw[List.drop_drop,show 64+64*q=64*(q+1) by omega]
structure Put(s s':DSt)(i:Int)(l:List UInt8)(m:Nat):Prop where
 kept:s'.kept=s.kept
 offAt:s'.offAt=s.offAt
 pend:∀j,bV j s'.pend=if i≤j∧j<i+m then some (chS l (j-i).toNat) else bV j s.pend
theorem wr_put(n:Nat):∀(s:DSt) (i:Int) (l:List UInt8),l.length=64*n→0≤i→i+n≤s.kept.length →
  ∃m,m≤n∧Put s (DSt.wr n s i l).1 i l m∧(((DSt.wr n s i l).2=0∧m=n)∨((DSt.wr n s i l).2=61∧m<n∧0<s.offAt)):=by
 induction n with
 | zero =>
  intro s i l _ _ _
  refine⟨0,Nat.le_refl _,⟨rfl,rfl,fun j=>?_⟩,.inl ⟨rfl,rfl⟩⟩
  rw[if_neg (by omega)]; rfl
 | succ n ih =>
  intro s i l hl hi hn
  have hl1:(l.take 64).length=64:=by rw[List.length_take]; omega
  by_cases hoff:s.step.off=true
  ·have hw:s.write i (l.take 64)=(s.step,61):=by unfold DSt.write; rw[if_pos hoff]
   have hr:DSt.wr (n+1) s i l=(s.step,61):=by rw[DSt.wr,hw,if_neg (show ¬(61:Int)=0 by decide)]
   refine⟨0,by omega,?_,.inr ⟨by rw[hr],by omega,?_⟩⟩
   ·rw[hr]
    refine⟨rfl,rfl,fun j=>?_⟩
    rw[if_neg (by omega)]; rfl
   ·have:s.step.offAt=s.offAt:=rfl
    unfold DSt.off at hoff
    simp only[Bool.and_eq_true,decide_eq_true_eq] at hoff
    omega
  ·have his:s.is i=true:=DSt.is_iff.2 (by omega)
   have hw:s.write i (l.take 64)=({ s.step with pend:=dj i (DSt.putS (s.now i) (l.take 64)) s.pend },0):=by
    unfold DSt.write
    rw[if_neg hoff,if_neg (by rw[his,hl1]; decide)]
   have hr:DSt.wr (n+1) s i l=DSt.wr n { s.step with pend:=dj i (DSt.putS (s.now i) (l.take 64)) s.pend } (i+1) (l.drop 64):=by rw[DSt.wr,hw,if_pos rfl]
   obtain⟨m,hm,⟨h1,h2,h3⟩,h4⟩:=ih { s.step with pend:=dj i (DSt.putS (s.now i) (l.take 64)) s.pend } (i+1) (l.drop 64) (by rw[List.length_drop]; omega) (by omega) (by show i+1+(n:Int)≤(s.kept.length:Int); omega)
   rw[hr]
   refine⟨m+1,by omega,⟨h1,h2,fun j=>?_⟩,?_⟩
   ·rw[h3 j,lS]
    by_cases hj:j=i
    ·subst hj
     rw[if_neg (by omega),if_pos rfl,if_pos (by omega)]
     congr 1
     rw[Bu _ sec0 _ hl1]
     unfold chS
     rw[show(j-j).toNat=0 by omega,Nat.mul_zero,List.drop_zero]
    ·rw[if_neg hj]
     by_cases hj2:i+1≤j∧j<i+1+m
     ·rw[if_pos hj2,if_pos (by omega),Cv]
      congr 2
      omega
     ·rw[if_neg hj2,if_neg (by omega)]
   ·rcases h4 with⟨q1,q2⟩ | ⟨q1,q2,q3⟩
    ·exact .inl ⟨q1,by omega⟩
    ·exact .inr ⟨q1,by omega,q3⟩
theorem qc(n:Nat)(s:DSt)(i:Int)(l:List UInt8)(hl:l.length=64*n)(hi:0≤i)(hn:i+n≤s.kept.length) :
  ∃m,m≤n∧Put s (s.writes i l).1 i l m∧(((s.writes i l).2=0∧m=n)∨((s.writes i l).2=61∧m<n∧0<s.offAt)):=by
 unfold DSt.writes
 rw[show(l.length+63) / 64=n by omega]
 exact wr_put n s i l hl hi hn
theorem sr(n:Nat)(s:DSt)(i:Int)(l:List UInt8)(ho:s.offAt=0)(hl:l.length=64*n)(hi:0≤i)(hn:i+n≤s.kept.length):(s.writes i l).2=0∧Put s (s.writes i l).1 i l n:=by
 obtain⟨m,_,h1,h2⟩:=qc n s i l hl hi hn
 rcases h2 with⟨q1,rfl⟩ | ⟨_,_,q⟩
 ·exact⟨q1,h1⟩
 ·omega
theorem Put.now{s s':DSt}{i:Int}{l:List UInt8}{m:Nat}(h:Put s s' i l m)(j:Int):s'.now j=if i≤j∧j<i+m then chS l (j-i).toNat else s.now j:=by
 unfold DSt.now
 rw[h.pend j,h.kept]
 by_cases hj:i≤j∧j<i+m
 ·rw[if_pos hj,if_pos hj]; rfl
 ·rw[if_neg hj,if_neg hj]
theorem ja{s s':DSt}{i:Int}{n:Nat}(h:∀q:Nat,q<n→s'.now (i+q)=s.now (i+q)):s'.reads i n=s.reads i n:=by
 induction n with
 | zero => rfl
 | succ n ih => rw [DSt.reads_succ, DSt.reads_succ, ih (fun q hq => h q (by omega)), h n (by omega)]
theorem vc{s:DSt}{i:Int}{l:List UInt8}{n:Nat}(hl:64*n≤l.length)(h:∀q:Nat,q<n→(s.now (i+q)).1=(l.drop (64*q)).take 64):s.reads i n=l.take (64*n):=by
 induction n with
 | zero => rfl
 | succ n ih =>
  rw[DSt.reads_succ,ih (by omega) (fun q hq=>h q (by omega)),h n (by omega),show 64*(n+1)=64*n+64 by omega,List.take_add]
theorem Put.reads{s s':DSt}{i:Int}{l:List UInt8}{n:Nat}(h:Put s s' i l n)(hl:l.length=64*n):s'.reads i n=l:=by
 rw[vc (l:=l) (by omega) (fun q hq=>?_),←hl,List.take_length]
 rw[h.now,if_pos (by omega),show(i+(q:Int)-i).toNat=q by omega,ui l q n hl hq]
theorem Put.other{s s':DSt}{i:Int}{l:List UInt8}{m:Nat}(h:Put s s' i l m){j:Int}{n:Nat}(hd:j+n≤i∨i+m≤j):s'.reads j n=s.reads j n :=
 ja fun q hq=>by rw[h.now,if_neg (by omega)]
theorem o0{s:DSt}(h:s.flush.2=0){j:Int}(h0:0≤j)(h1:j<s.kept.length):s.flush.1.now j=s.now j:=by
 unfold DSt.flush at h ⊢
 by_cases hq:s.step.off=true
 ·rw[if_pos hq] at h; exact absurd h (show ¬(61:Int)=0 by decide)
 ·rw[if_neg hq]
  obtain⟨n,rfl⟩:∃n:Nat,j=n:=⟨j.toNat,by omega⟩
  show(DSt.apply s.kept s.pend).getD (n:Int).toNat sec0=_
  rw[show(n:Int).toNat=n from rfl,Aj _ _ _ (by omega)]
  rfl
theorem xD{s:DSt}(h:s.flush.2=0):s.flush.1.pend=[]:=by
 unfold DSt.flush at h ⊢
 by_cases hq:s.step.off=true
 ·rw[if_pos hq] at h; exact absurd h (show ¬(61:Int)=0 by decide)
 ·rw[if_neg hq]
theorem oM(s:DSt):s.flush.1.offAt=s.offAt:=by unfold DSt.flush; split <;> rfl
theorem tc(s:DSt):s.flush.2=0∨(s.flush.2=61∧s.flush.1=s.step∧0<s.offAt):=by
 unfold DSt.flush
 by_cases hq:s.step.off=true
 ·rw[if_pos hq]
  refine .inr ⟨rfl,rfl,?_⟩
  unfold DSt.off at hq
  simp only[Bool.and_eq_true,decide_eq_true_eq] at hq
  exact hq.1
 ·rw[if_neg hq]; exact .inl rfl
theorem Ch{s:DSt}(h:s.offAt=0):s.flush.2=0:=by
 rcases tc s with h1 | ⟨_,_,h1⟩
 ·exact h1
 ·omega
def g8(s:Sup):Nat:=(150+s.txt.length+55) / 56
theorem iC(k:List UInt8)(s:Sup):(cR (bx k s) s.commit).length=64*g8 s:=by rw[ji,ff]; rfl
theorem kW{s:Sup}(h:s.txt.length≤200):3≤g8 s∧g8 s≤7:=by unfold g8; omega
structure Laid(k:List UInt8)(ds ds':DSt)(a:Nat)(s:Sup):Prop where
 pend:ds'.pend=[]
 offAt:ds'.offAt=ds.offAt
 now:∀j:Int,0≤j→j<ds.kept.length→ds'.now j=if (a:Int)*16≤j∧j<(a:Int)*16+g8 s then chS (cR (bx k s) s.commit) (j-(a:Int)*16).toNat else ds.now j
 len:ds'.kept.length=ds.kept.length
theorem vG(k:List UInt8)(ds:DSt)(a:Nat)(s:Sup)(ha:a≤1)(hl:32≤ds.kept.length)(ht:s.txt.length≤200) :
  ((cq k ds a s).2=0∧Laid k ds (cq k ds a s).1 a s)∨((cq k ds a s).2=61∧0<ds.offAt∧∃m,m≤g8 s∧Put ds (cq k ds a s).1 ((a:Int)*16) (cR (bx k s) s.commit) m):=by
 have hn:=kW ht
 obtain⟨m,hm,hp,hr⟩:=qc (g8 s) ds ((a:Int)*16) (cR (bx k s) s.commit) (iC k s) (by omega) (by omega)
 unfold cq
 rcases hr with⟨h0,rfl⟩ | ⟨h0,_,h2⟩
 ·rw[if_pos h0]
  rcases tc (ds.writes ((a:Int)*16) (cR (bx k s) s.commit)).1 with hf | ⟨hf,hf2,hf3⟩
  ·refine .inl ⟨hf,xD hf,by rw[oM,hp.offAt],fun j hj0 hj1=>?_,by rw[DSt.flush_len,hp.kept]⟩
   rw[o0 hf hj0 (by rw[hp.kept]; exact hj1),hp.now]
  ·refine .inr ⟨hf,by rw[hp.offAt] at hf3; exact hf3,g8 s,Nat.le_refl _,?_⟩
   rw[hf2]
   exact⟨hp.kept,hp.offAt,hp.pend⟩
 ·rw[if_neg (by rw[h0]; decide)]
  exact .inr ⟨h0,h2,m,hm,hp⟩
theorem nj{k:List UInt8}{ds:DSt}{a:Nat}{s:Sup}(ho:ds.offAt=0)(ha:a≤1)(hl:32≤ds.kept.length)(ht:s.txt.length≤200):(cq k ds a s).2=0∧Laid k ds (cq k ds a s).1 a s:=by
 rcases vG k ds a s ha hl ht with h | ⟨_,h,_⟩
 ·exact h
 ·omega
section
variable {k:List UInt8}{ds ds':DSt}{a:Nat}{s:Sup}
theorem Laid.other(h:Laid k ds ds' a s){j:Int}{n:Nat}(h0:0≤j)(h1:j+n≤ds.kept.length)(hd:j+n≤(a:Int)*16∨(a:Int)*16+g8 s≤j):ds'.reads j n=ds.reads j n :=
 ja fun q hq=>by rw[h.now _ (by omega) (by omega),if_neg (by omega)]
theorem l6(ds:DSt)(i:Int)(m n:Nat):ds.reads i (m+n)=ds.reads i m++ds.reads (i+m) n:=by
 induction n with
 | zero => rw [Nat.add_zero, DSt.reads_zero, List.append_nil]
 | succ n ih =>
  rw[←Nat.add_assoc,DSt.reads_succ,ih,DSt.reads_succ,List.append_assoc,show i+((m+n:Nat):Int)=i+(m:Int)+(n:Int) by omega]
theorem Laid.reg(h:Laid k ds ds' a s)(ha:a≤1)(hl:32≤ds.kept.length)(ht:s.txt.length≤200):dZ ds' a=cR (bx k s) s.commit++ds.reads ((a:Int)*16+g8 s) (16-g8 s):=by
 have hn:=kW ht
 unfold dZ
 have hsp:=l6 ds' ((a:Int)*16) (g8 s) (16-g8 s)
 rw[show g8 s+(16-g8 s)=16 by omega] at hsp
 rw[hsp]
 congr 1
 ·rw[vc (l:=cR (bx k s) s.commit) (by rw[iC]; omega) (fun q hq=>?_),←iC k s,List.take_length]
  rw[h.now _ (by omega) (by omega),if_pos (by omega),show((a:Int)*16+(q:Int)-(a:Int)*16).toNat=q by omega,ui _ q _ (iC k s) hq]
 ·exact h.other (n:=16-g8 s) (by omega) (by omega) (.inr (Int.le_refl _))
end
def Stands(ds:DSt)(pk:List UInt8)(i:Nat)(g:UInt64)(l:List UInt8):Prop:=ds.reads (32+(i:Int)*8) 8=fp pk i g.toNat l∧l.length≤480
theorem nQ(pk:List UInt8)(i:Nat)(g:UInt64)(l:List UInt8):UInt64.ofNat (cL ((fp pk i g.toNat l).take 8))=g:=by
 unfold fp
 rw[List.append_assoc,List.take_left' (aI _ _),l8]
theorem vr(pk:List UInt8)(i:Nat)(g:UInt64)(l:List UInt8)(h:l.length≤480):qP pk i (fp pk i g.toNat l)=some l:=by
 have hpl:=jg l h
 have hsl:(eL pk (bY i g.toNat) aY (cN l)).length=498:=by rw[fG,hpl]
 have h8:((fp pk i g.toNat l).drop 8)=eL pk (bY i g.toNat) aY (cN l)++List.replicate 6 0:=by
  unfold fp
  rw[List.append_assoc,List.drop_left' (aI _ _)]
 have h498:((fp pk i g.toNat l).drop 8).take 498=eL pk (bY i g.toNat) aY (cN l):=by rw[h8,List.take_left' hsl]
 have h482:((fp pk i g.toNat l).drop 8).take 482=(eL pk (bY i g.toNat) aY (cN l)).take ((eL pk (bY i g.toNat) aY (cN l)).length-16):=by
  rw[h8,hsl,List.take_append_of_le_length (by omega)]
 unfold qP
 rw[nQ,h498,if_pos (zD _ _ _ _),h482,wY]
 have hd:(cN l).drop 2=l++List.replicate (480-l.length) 0:=by
  unfold cN; rw[List.append_assoc,List.drop_left' (aI _ _)]
 have htk:cL ((cN l).take 2)=l.length:=by
  unfold cN; rw[List.append_assoc,List.take_left' (aI _ _),jb]; exact Nat.mod_eq_of_lt (by omega)
 rw[hd,htk,Nat.min_eq_left h,List.take_left' rfl]
end Go.Sac

end
section
namespace Go.Sac
open Go
theorem eV{α:Type}{a b:List α}{n m:Nat}(h:a.length=m)(hm:m≤n):(a++b).drop n=b.drop (n-m):=by
 rw[List.drop_append,List.drop_of_length_le (by omega),List.nil_append,h]
def BF(n:Nat)(b:List UInt8):List UInt8:=b++List.replicate (56*n-b.length) 0
theorem zM(n:Nat)(b:List UInt8)(h:b.length≤56*(n+1)):(b.take 56++List.replicate (56-(b.take 56).length) 0)++BF n (b.drop 56)=BF (n+1) b:=by
 unfold BF
 by_cases hb:b.length≤56
 ·rw[List.take_of_length_le hb,List.drop_of_length_le hb,List.nil_append,List.append_assoc,List.replicate_append_replicate]
  congr 2
  simp only[List.length_nil]; omega
 ·have h1:(b.take 56).length=56:=by rw[List.length_take]; omega
  rw[h1,Nat.sub_self,List.replicate_zero,List.append_nil,←List.append_assoc,List.take_append_drop,List.length_drop]
  congr 2
  omega
theorem jd(n:Nat)(nb b:List UInt8)(rest:List UInt8)(hn:nb.length=4) :
  ((eo (n+1) nb b++rest).take 4=nb)∧(((eo (n+1) nb b++rest).drop 60).take 4=nb)∧(((eo (n+1) nb b++rest).drop 4).take 56=b.take 56++List.replicate (56-(b.take 56).length) 0)∧((eo (n+1) nb b++rest).drop 64=eo n nb (b.drop 56)++rest):=by
 have hp:(b.take 56++List.replicate (56-(b.take 56).length) (0:UInt8)).length=56:=by
  rw[List.length_append,List.length_replicate,List.length_take]; omega
 generalize hP:b.take 56++List.replicate (56-(b.take 56).length) (0:UInt8)=p at hp
 have hf:eo (n+1) nb b++rest=nb++(p++(nb++(eo n nb (b.drop 56)++rest))):=by
  rw[eo,←hP]
  simp only[List.append_assoc]
 rw[hf]
 refine⟨List.take_left' hn,?_,?_,?_⟩
 ·rw[eV hn (by omega),eV hp (by omega),List.drop_zero,List.take_left' hn]
 ·rw[List.drop_left' hn,List.take_left' hp]
 ·rw[eV hn (by omega),eV hp (by omega),eV hn (by omega)]; rfl
theorem qg(nb:List UInt8)(hn:nb.length=4)(rest:List UInt8):∀(n N:Nat) (b:List UInt8),n≤N→b.length≤56*n →
  jX nb N (eo n nb b++rest)=BF n b++jX nb (N-n) rest
 | 0, N, b, _, hb => by
  have:b=[]:=List.eq_nil_of_length_eq_zero (by omega)
  subst this
  rfl
 | n + 1, N, b, hN, hb => by
  obtain⟨N,rfl⟩:∃q,N=q+1:=⟨N-1,by omega⟩
  obtain⟨h1,h2,h3,h4⟩:=jd n nb b rest hn
  rw[jX,if_pos ⟨h1,h2⟩,h3,h4,qg nb hn rest n N (b.drop 56) (by omega) (by rw[List.length_drop]; omega),←List.append_assoc,zM n b hb,show N+1-(n+1)=N-n by omega]
theorem B1(k:List UInt8)(s:Sup)(rest:List UInt8)(h:g8 s≤16)(hr:rest.length=64*(16-g8 s)):∃z,fR (cR (bx k s) s.commit++rest)=bx k s++z:=by
 have hl:(cR (bx k s) s.commit++rest).length=1024:=by rw[List.length_append,iC,hr]; omega
 have hsl:=ff k s
 have hN:g8 s=((bx k s).length+55) / 56:=by rw[hsl]; rfl
 have h3:2≤g8 s:=by unfold g8; omega
 have hfr:cR (bx k s) s.commit=eo (g8 s) (be 4 s.commit.toNat) (bx k s):=by unfold cR; rw[←hN]
 unfold fR
 rw[hl,hfr]
 obtain⟨m,hm⟩:∃m,g8 s=m+1:=⟨g8 s-1,by omega⟩
 have hh:=(jd m (be 4 s.commit.toNat) (bx k s) rest (aI _ _)).1
 rw[←hm] at hh
 rw[hh,show 1024 / 64=16 from rfl,qg _ (aI _ _) rest (g8 s) 16 (bx k s) h (by rw[hN]; omega)]
 exact⟨_,by unfold BF; rw[List.append_assoc]⟩
theorem eX(k:List UInt8)(s:Sup)(z:List UInt8):bx k s++z=be 8 s.commit.toNat++(be 4 s.epoch.toNat++(be 4 s.root.toNat++(be 2 s.txt.length++(s.txt++(dz s.used++(dz s.written++(j8 k (fL s)++z))))))):=by
 unfold bx
 generalize j8 k (fL s)=t
 unfold fL
 simp only[List.append_assoc]
theorem yi(k:List UInt8)(s:Sup)(z:List UInt8)(h:s.txt.length≤200):txN (bx k s++z)=s.txt.length:=by
 unfold txN
 rw[eX,eV (aI _ _) (by omega),eV (aI _ _) (by omega),eV (aI _ _) (by omega),List.drop_zero,List.take_left' (aI _ _),jb]
 exact Nat.mod_eq_of_lt (by omega)
theorem zy(k:List UInt8)(s:Sup)(z:List UInt8)(h:s.Ok):ig (bx k s++z)=s:=by
 have ht:=yi k s z h.txt
 have h1:=dW s.used
 have h2:=dW s.written
 have hb:UInt32.ofNat (cL (be 4 s.root.toNat))=s.root:=by rw[jb]; apply UInt32.toNat_inj.1; rw[UInt32.toNat_ofNat']; have:=s.root.toNat_lt; omega
 have he:UInt32.ofNat (cL (be 4 s.epoch.toNat))=s.epoch:=by rw[jb]; apply UInt32.toNat_inj.1; rw[UInt32.toNat_ofNat']; have:=s.epoch.toNat_lt; omega
 have e1:((bx k s++z).drop 12).take 4=be 4 s.root.toNat:=by rw[eX,eV (aI _ _) (by omega),eV (aI _ _) (by omega),List.drop_zero,List.take_left' (aI _ _)]
 have e2:((bx k s++z).drop 18).take s.txt.length=s.txt:=by rw[eX,eV (aI _ _) (by omega),eV (aI _ _) (by omega),eV (aI _ _) (by omega),eV (aI _ _) (by omega),List.drop_zero,List.take_left' rfl]
 have e3:((bx k s++z).drop (18+s.txt.length)).take 50=dz s.used:=by rw[eX,eV (aI _ _) (by omega),eV (aI _ _) (by omega),eV (aI _ _) (by omega),eV (aI _ _) (by omega),eV rfl (by omega),show 18+s.txt.length-8-4-4-2-s.txt.length=0 by omega,List.drop_zero,List.take_left' h1]
 have e4:((bx k s++z).drop (68+s.txt.length)).take 50=dz s.written:=by rw[eX,eV (aI _ _) (by omega),eV (aI _ _) (by omega),eV (aI _ _) (by omega),eV (aI _ _) (by omega),eV rfl (by omega),eV h1 (by omega),show 68+s.txt.length-8-4-4-2-s.txt.length-50=0 by omega,List.drop_zero,List.take_left' h2]
 have e5:(bx k s++z).take 8=be 8 s.commit.toNat:=by rw[eX,List.take_left' (aI _ _)]
 have e6:((bx k s++z).drop 8).take 4=be 4 s.epoch.toNat:=by rw[eX,eV (aI _ _) (by omega),List.drop_zero,List.take_left' (aI _ _)]
 unfold ig
 rw[ht,e1,e2,e3,e4,e5,e6,hb,he,l8,oD h.used,oD h.written]
theorem sup_tag(k:List UInt8)(s:Sup)(z:List UInt8):((bx k s++z).drop (118+s.txt.length)).take 32=j8 k (fL s)∧(bx k s++z).take (118+s.txt.length)=fL s:=by
 have hp:=ly s
 have e:bx k s++z=fL s++(j8 k (fL s)++z):=by unfold bx; rw[List.append_assoc]
 rw[e,List.drop_left' hp,List.take_left' hp,List.take_left' (iq _ _)]
 exact⟨rfl,rfl⟩
theorem xf(k k2:List UInt8)(s:Sup)(z:List UInt8)(h:s.Ok):dr k2 (bx k s++z)=if j8 k (fL s)=j8 k2 (fL s) then some s else none:=by
 have ht:=yi k s z h.txt
 have hl:(bx k s++z).length=150+s.txt.length+z.length:=by rw[List.length_append,ff]
 have h3:=h.txt
 obtain⟨h4,h5⟩:=sup_tag k s z
 unfold dr
 rw[ht,if_neg (by omega),h4,h5,zy k s z h]
theorem xe(k:List UInt8)(s:Sup)(z:List UInt8)(h:s.Ok):dr k (bx k s++z)=some s:=by
 rw[xf k k s z h,if_pos rfl]
def tN(c:Sec):Nat:=cL (c.1.take 4)
def tL(c:Sec):Nat:=cL ((c.1.drop 60).take 4)
theorem yu(c:Sec):tN c<4294967296:=by
 have:=l9 (c.1.take 4)
 have h2:(c.1.take 4).length≤4:=by rw[List.length_take]; omega
 have h3:256 ^ (c.1.take 4).length≤256 ^ 4:=Nat.pow_le_pow_right (by omega) h2
 unfold tN
 have:(256:Nat) ^ 4=4294967296:=rfl
 omega
theorem yt(c:Sec):tL c<4294967296:=by
 have:=l9 ((c.1.drop 60).take 4)
 have h2:((c.1.drop 60).take 4).length≤4:=by rw[List.length_take]; omega
 have h3:256 ^ ((c.1.drop 60).take 4).length≤256 ^ 4:=Nat.pow_le_pow_right (by omega) h2
 unfold tL
 have:(256:Nat) ^ 4=4294967296:=rfl
 omega
theorem vv(ds:DSt):∀(n:Nat) (i:Int) (x:UInt64),x∈js n (ds.reads i n)→∃q:Nat,q<n∧(x.toNat=tN (ds.now (i+q))∨x.toNat=tL (ds.now (i+q)))
 | 0, _, _, h => by simp [js] at h
 | n + 1, i, x, h => by
  have hr:ds.reads i (n+1)=(ds.now i).1++ds.reads (i+1) n:=by
   rw[Nat.add_comm n 1,l6]
   congr 1
   rw[DSt.reads_succ,DSt.reads_zero,List.nil_append]; simp
  have hs:=(ds.now i).2
  have e1:(ds.reads i (n+1)).take 4=(ds.now i).1.take 4:=by rw[hr,List.take_append_of_le_length (by omega)]
  have e2:((ds.reads i (n+1)).drop 60).take 4=((ds.now i).1.drop 60).take 4:=by rw[hr,List.drop_append_of_le_length (by omega),List.take_append_of_le_length (by rw[List.length_drop]; omega)]
  have e3:(ds.reads i (n+1)).drop 64=ds.reads (i+1) n:=by rw[hr,List.drop_left' hs]
  rw[js,e1,e2,e3] at h
  have h1:=yu (ds.now i)
  have h2:=yt (ds.now i)
  have hi:i+((0:Nat):Int)=i:=by simp
  rcases List.mem_cons.1 h with rfl | h
  ·refine⟨0,by omega,.inl ?_⟩
   rw[hi,UInt64.toNat_ofNat']
   exact Nat.mod_eq_of_lt (by unfold tN at h1; omega)
  ·rcases List.mem_cons.1 h with rfl | h
   ·refine⟨0,by omega,.inr ?_⟩
    rw[hi,UInt64.toNat_ofNat']
    exact Nat.mod_eq_of_lt (by unfold tL at h2; omega)
   ·obtain⟨q,hq,hx⟩:=vv ds n (i+1) x h
    exact⟨q+1,by omega,by rw[show i+((q+1:Nat):Int)=i+1+(q:Int) by omega]; exact hx⟩
theorem yz(ds:DSt):∀(n:Nat) (i:Int) (q:Nat),q<n→UInt64.ofNat (tN (ds.now (i+q)))∈js n (ds.reads i n)∧UInt64.ofNat (tL (ds.now (i+q)))∈js n (ds.reads i n)
 | 0, _, _, h => by omega
 | n + 1, i, q, h => by
  have hr:ds.reads i (n+1)=(ds.now i).1++ds.reads (i+1) n:=by
   rw[Nat.add_comm n 1,l6]
   congr 1
   rw[DSt.reads_succ,DSt.reads_zero,List.nil_append]; simp
  have hs:=(ds.now i).2
  have e1:(ds.reads i (n+1)).take 4=(ds.now i).1.take 4:=by rw[hr,List.take_append_of_le_length (by omega)]
  have e2:((ds.reads i (n+1)).drop 60).take 4=((ds.now i).1.drop 60).take 4:=by rw[hr,List.drop_append_of_le_length (by omega),List.take_append_of_le_length (by rw[List.length_drop]; omega)]
  have e3:(ds.reads i (n+1)).drop 64=ds.reads (i+1) n:=by rw[hr,List.drop_left' hs]
  rw[js,e1,e2,e3]
  rcases q with _ | q
  ·rw[show i+((0:Nat):Int)=i by simp]
   exact⟨List.mem_cons_self ..,List.mem_cons_of_mem _ (List.mem_cons_self ..)⟩
  ·obtain⟨h1,h2⟩:=yz ds n (i+1) q (by omega)
   rw[show i+((q+1:Nat):Int)=i+1+(q:Int) by omega]
   exact⟨List.mem_cons_of_mem _ (List.mem_cons_of_mem _ h1),List.mem_cons_of_mem _ (List.mem_cons_of_mem _ h2)⟩
def NumLe(ds:DSt)(M:Nat):Prop:=∀j:Int,0≤j→j<32→tN (ds.now j)≤M∧tL (ds.now j)≤M
theorem NumLe.mem{ds:DSt}{M:Nat}(h:NumLe ds M){x:UInt64}(hx:x∈eQ (dZ ds 0)++eQ (dZ ds 1)):x.toNat≤M:=by
 have h0:∀a:Nat,a≤1→x∈eQ (dZ ds a)→x.toNat≤M:=fun a ha hx=>by
  unfold eQ dZ at hx
  rw[DSt.reads_length,show 64*16 / 64=16 from rfl] at hx
  obtain⟨q,hq,h1⟩:=vv ds 16 _ x hx
  have:=h ((a:Int)*16+q) (by omega) (by omega)
  omega
 rcases List.mem_append.1 hx with hx | hx
 ·exact h0 0 (by omega) hx
 ·exact h0 1 (by omega) hx
theorem xT(c x:UInt64)(hc:c.toNat<65536)(hx:x.toNat<65536):(jk c x).toNat=if c.toNat≤x.toNat then x.toNat-c.toNat else 4294967296-(c.toNat-x.toNat):=by
 rw[Ak,UInt32.toNat_toUInt64,UInt64.toNat_toUInt32,UInt64.toNat_sub]
 split <;> omega
theorem u0(c n x:UInt64)(hc:c.toNat<65536)(hx:x.toNat<65536)(hn:c.toNat≤n.toNat):(dP c n x).toNat=max n.toNat x.toNat:=by
 have h:=xT c x hc hx
 unfold dP
 by_cases hcx:c.toNat≤x.toNat
 ·rw[if_pos hcx] at h
  have hlt:jk c x<65536:=by rw[UInt64.lt_iff_toNat_lt,h]; show x.toNat-c.toNat<65536; omega
  rw[if_pos hlt]
  have ha:(c+jk c x).toNat=x.toNat:=by rw[UInt64.toNat_add,h]; omega
  rw[qi,ha]
 ·rw[if_neg hcx] at h
  have hlt:¬jk c x<65536:=by rw[UInt64.lt_iff_toNat_lt,h]; show ¬_<65536; omega
  rw[if_neg hlt]; omega
theorem sR(c:UInt64)(hc:c.toNat<65536):∀(l:List UInt64) (n:UInt64),(∀x∈l,x.toNat<65536)→c.toNat≤n.toNat →
  n.toNat≤(l.foldl (dP c) n).toNat∧(∀x∈l,x.toNat≤(l.foldl (dP c) n).toNat)∧((l.foldl (dP c) n).toNat=n.toNat∨∃x∈l,(l.foldl (dP c) n).toNat=x.toNat)
 | [], n, _, _ => ⟨Nat.le_refl _, by simp, .inl rfl⟩
 | y :: l, n, hl, hn => by
  have hy:=u0 c n y hc (hl y (by simp)) hn
  obtain⟨h1,h2,h3⟩:=sR c hc l (dP c n y) (fun x hx=>hl x (by simp[hx])) (by omega)
  rw[List.foldl_cons]
  refine⟨by omega,fun x hx=>?_,?_⟩
  ·rcases List.mem_cons.1 hx with rfl | hx
   ·omega
   ·exact h2 x hx
  ·rcases h3 with h3 | ⟨x,hx,h3⟩
   ·by_cases hh:n.toNat≤y.toNat
    ·exact .inr ⟨y,by simp,by omega⟩
    ·exact .inl (by omega)
   ·exact .inr ⟨x,by simp[hx],h3⟩
theorem oH{k:List UInt8}{ds:DSt}{M:Nat}(h:NumLe ds M)(hM:M<60000)(hc:(ij (newest k ds)).toNat≤M):(ij (newest k ds)).toNat<(en k ds).toNat∧(en k ds).toNat≤M+1∧NumLe ds ((en k ds).toNat-1):=by
 have hl:∀x∈eQ (dZ ds 0)++eQ (dZ ds 1),x.toNat<65536:=fun x hx=>by have:=h.mem hx; omega
 obtain⟨h1,h2,h3⟩:=sR (ij (newest k ds)) (by omega) _ (ij (newest k ds)) hl (Nat.le_refl _)
 have hr:((eQ (dZ ds 0)++eQ (dZ ds 1)).foldl (dP (ij (newest k ds))) (ij (newest k ds))).toNat≤M:=by
  rcases h3 with h3 | ⟨x,hx,h3⟩
  ·omega
  ·have:=h.mem hx; omega
 have hn:(en k ds).toNat=((eQ (dZ ds 0)++eQ (dZ ds 1)).foldl (dP (ij (newest k ds))) (ij (newest k ds))).toNat+1:=by
  unfold en yB
  rw[UInt64.toNat_add]
  exact Nat.mod_eq_of_lt (by show _+1<_; omega)
 refine⟨by omega,by omega,fun j hj0 hj1=>?_⟩
 rw[hn]
 have hmem:∀a:Nat,a≤1→∀q:Nat,q<16→UInt64.ofNat (tN (ds.now ((a:Int)*16+q)))∈eQ (dZ ds a)∧UInt64.ofNat (tL (ds.now ((a:Int)*16+q)))∈eQ (dZ ds a):=by
  intro a ha q hq
  unfold eQ dZ
  rw[DSt.reads_length,show 64*16 / 64=16 from rfl]
  exact yz ds 16 _ q hq
 have hmem2:∀x:UInt64,(∃a:Nat,a≤1∧x∈eQ (dZ ds a))→x∈eQ (dZ ds 0)++eQ (dZ ds 1):=by
  rintro x ⟨a,ha,hx⟩
  rcases(by omega:a=0∨a=1) with rfl | rfl
  ·exact List.mem_append_left _ hx
  ·exact List.mem_append_right _ hx
 obtain⟨a,ha,q,hq,rfl⟩:∃a:Nat,a≤1∧∃q:Nat,q<16∧j=(a:Int)*16+q:=by
  by_cases hj:j<16
  ·exact⟨0,by omega,j.toNat,by omega,by omega⟩
  ·exact⟨1,by omega,(j-16).toNat,by omega,by omega⟩
 obtain⟨m1,m2⟩:=hmem a ha q hq
 have g1:=h2 _ (hmem2 _ ⟨a,ha,m1⟩)
 have g2:=h2 _ (hmem2 _ ⟨a,ha,m2⟩)
 have b1:=yu (ds.now ((a:Int)*16+q))
 have b2:=yt (ds.now ((a:Int)*16+q))
 rw[UInt64.toNat_ofNat'] at g1 g2
 omega
end Go.Sac

end
section
namespace Go.Sac
open Go
structure POK(n k:Nat)(key:List UInt8)(ds:DSt)(P:Pg)(V:UInt32→List UInt8):Prop where
 off:ds.offAt=0
 fine:ds.Fine
 len:ds.kept.length=32+8*n
 size:4≤n∧n≤400
 steps:ds.steps≤100*k
 few:k≤1000000
 broken:P.broken=false
 at_:P.at_≤1
 used:∀i,P.now.used i=true→i.toNat<n
 kused:∀i,P.kept.used i=true→i.toNat<n
 written:∀i,P.now.written i=true→P.now.used i=true
 kwritten:∀i,P.kept.written i=true→P.kept.used i=true
 wok:∀i,P.now.written i=true→P.kept.used i=false∨P.kept.written i=true
 pages:∀i,P.now.written i=true∨P.kept.written i=true→∃g,P.gens i=some g∧Stands ds (aW key aY 0) i.toNat g (V i)
def rG(V:UInt32→List UInt8)(i:UInt32)(l:List UInt8):UInt32→List UInt8:=fun j=>if j=i then l else V j
theorem vF{n L:Nat}(h:L=32+8*n)(h2:n≤400):gx L=n:=by unfold gx; omega
section
variable {n k:Nat}{key:List UInt8}{ds:DSt}{P:Pg}{V:UInt32→List UInt8}
theorem POK.many(h:POK n k key ds P V):gx ds.kept.length=n:=vF h.len h.size.2
theorem POK.small(h:POK n k key ds P V):ds.kept.length≤4000:=by have:=h.len; have:=h.size; omega
theorem POK.offF(h:POK n k key ds P V):ds.off=false:=by
 unfold DSt.off
 rw[h.off]; rfl
theorem POK.inn(h:POK n k key ds P V){i:UInt32}(hi:P.now.used i=true):40+i.toNat*8≤ds.kept.length:=by
 have:=h.used i hi
 have:=h.len
 omega
theorem fresh_iff{P:Pg}{i:UInt32}:P.fresh i=true↔P.now.used i=true∧P.kept.used i=false:=by
 unfold Pg.fresh; simp
theorem free_iff{P:Pg}{i:UInt32}:P.free i=true↔P.now.used i=false∧P.kept.used i=false:=by
 unfold Pg.free; simp
theorem POK.alloc(h:POK n k key ds P V)(i:UInt32)(hi:i.toNat<n):POK n k key ds { P with now:={ P.now with used:=cO P.now.used i } } V where
 off:=h.off
 fine:=h.fine
 len:=h.len
 size:=h.size
 steps:=h.steps
 few:=h.few
 broken:=h.broken
 at_:=h.at_
 used:=fun j hj=>by
  have hj:cO P.now.used i j=true:=hj
  unfold cO at hj
  simp only[Bool.or_eq_true,decide_eq_true_eq] at hj
  rcases hj with rfl | hj
  ·exact hi
  ·exact h.used j hj
 kused:=h.kused
 written:=fun j hj=>by
  show cO P.now.used i j=true
  unfold cO
  rw[h.written j hj,Bool.or_true]
 kwritten:=h.kwritten
 wok:=h.wok
 pages:=h.pages
theorem POK.free(h:POK n k key ds P V)(i:UInt32):POK n k key ds { P with now:={ P.now with used:=ft P.now.used i,written:=ft P.now.written i } } V where
 off:=h.off
 fine:=h.fine
 len:=h.len
 size:=h.size
 steps:=h.steps
 few:=h.few
 broken:=h.broken
 at_:=h.at_
 used:=fun j hj=>h.used j (by
  have hj:ft P.now.used i j=true:=hj
  unfold ft at hj
  simp only[Bool.and_eq_true] at hj
  exact hj.2)
 kused:=h.kused
 written:=fun j hj=>by
  have hj:ft P.now.written i j=true:=hj
  unfold ft at hj
  simp only[Bool.and_eq_true] at hj
  show ft P.now.used i j=true
  unfold ft
  rw[hj.1,h.written j hj.2]; rfl
 kwritten:=h.kwritten
 wok:=fun j hj=>h.wok j (by
  have hj:ft P.now.written i j=true:=hj
  unfold ft at hj
  simp only[Bool.and_eq_true] at hj
  exact hj.2)
 pages:=fun j hj=>h.pages j (by
  rcases hj with hj | hj
  ·have hj:ft P.now.written i j=true:=hj
   unfold ft at hj
   simp only[Bool.and_eq_true] at hj
   exact .inl hj.2
  ·exact .inr hj)
theorem POK.undo(h:POK n k key ds P V):POK n k key ds { P with now:=P.kept.st } V where
 off:=h.off
 fine:=h.fine
 len:=h.len
 size:=h.size
 steps:=h.steps
 few:=h.few
 broken:=h.broken
 at_:=h.at_
 used:=h.kused
 kused:=h.kused
 written:=h.kwritten
 kwritten:=h.kwritten
 wok:=fun j hj => .inr hj
 pages:=fun j hj=>h.pages j (.inr (by rcases hj with hj | hj <;> exact hj))
theorem Stands.other{ds ds':DSt}{pk:List UInt8}{i:Nat}{g:UInt64}{l:List UInt8}(h:Stands ds pk i g l)(hc:∀q:Nat,q<8→ds'.now (32+(i:Int)*8+q)=ds.now (32+(i:Int)*8+q)):Stands ds' pk i g l:=⟨by rw[ja hc]; exact h.1,h.2⟩
theorem POK.write(h:POK n k key ds P V)(hk:k+1≤1000000)(i:UInt32)(hi:P.fresh i=true)(l:List UInt8)(hl:l.length≤480) :
  (ds.writes (32+(i.toNat:Int)*8) (fp (aW key aY 0) i.toNat P.gen.toNat l)).2=0 ∧
  POK n (k+1) key (ds.writes (32+(i.toNat:Int)*8) (fp (aW key aY 0) i.toNat P.gen.toNat l)).1 { P with count:=P.count+1,now:={ P.now with written:=cO P.now.written i },gens:=qq P.gens i P.gen } (rG V i l):=by
 obtain⟨hu,hku⟩:=fresh_iff.1 hi
 have hin:=h.used i hu
 have hlen:=h.len
 have hpl:=jJ (aW key aY 0) i.toNat P.gen.toNat l hl
 obtain⟨h0,hp⟩:=sr 8 ds (32+(i.toNat:Int)*8) (fp (aW key aY 0) i.toNat P.gen.toNat l) h.off hpl (by omega) (by omega)
 have hsteps:=h.steps
 have hbn:=qd (32+(i.toNat:Int)*8) (fp (aW key aY 0) i.toNat P.gen.toNat l) h.fine (by omega)
 refine⟨h0,by rw[hp.offAt]; exact h.off,hbn.1,by rw[hbn.2.2]; exact hlen,h.size,by omega,hk,h.broken,h.at_,h.used,h.kused,fun j hj=>?_,h.kwritten,fun j hj=>?_,fun j hj=>?_⟩
 ·have hj:cO P.now.written i j=true:=hj
  unfold cO at hj
  simp only[Bool.or_eq_true,decide_eq_true_eq] at hj
  rcases hj with rfl | hj
  ·exact hu
  ·exact h.written j hj
 ·have hj:cO P.now.written i j=true:=hj
  unfold cO at hj
  simp only[Bool.or_eq_true,decide_eq_true_eq] at hj
  rcases hj with rfl | hj
  ·exact .inl hku
  ·exact h.wok j hj
 ·by_cases hji:j=i
  ·subst hji
   refine⟨P.gen,by show qq P.gens j P.gen j=_; unfold qq; rw[if_pos rfl],?_,by unfold rG; rw[if_pos rfl]; exact hl⟩
   rw[hp.reads hpl]
   unfold rG; rw[if_pos rfl]
  ·have hj2:P.now.written j=true∨P.kept.written j=true:=by
    rcases hj with hj | hj
    ·have hj:cO P.now.written i j=true:=hj
     unfold cO at hj
     rw[decide_eq_false hji,Bool.false_or] at hj
     exact .inl hj
    ·exact .inr hj
   obtain⟨g,hg,hs⟩:=h.pages j hj2
   have hjn:j.toNat≠i.toNat:=fun hh=>hji (UInt32.toNat_inj.1 hh)
   refine⟨g,by show qq P.gens i P.gen j=_; unfold qq; rw[if_neg hji]; exact hg,?_⟩
   unfold rG
   rw[if_neg hji]
   exact hs.other fun q hq=>by rw[hp.now,if_neg (by omega)]
theorem POK.read(h:POK n k key ds P V){i:UInt32}(hi:P.now.written i=true) :
  UInt64.ofNat (cL ((ds.reads (32+(i.toNat:Int)*8) 8).take 8))=(P.gens i).getD 0∧qP (aW key aY 0) i.toNat (ds.reads (32+(i.toNat:Int)*8) 8)=some (V i):=by
 obtain⟨g,hg,hs,hl⟩:=h.pages i (.inl hi)
 rw[hs,nQ,hg,vr _ _ _ _ hl]
 exact⟨rfl,rfl⟩
theorem POK.commit(h:POK n k key ds P V)(hk:k+1≤1000000)(root:UInt32)(txt:List UInt8)(ht:txt.length≤200) :
  ds.flush.2=0∧(cq key ds.flush.1 ((P.at_+1) % 2) (hU P root txt)).2=0 ∧
  POK n (k+1) key (cq key ds.flush.1 ((P.at_+1) % 2) (hU P root txt)).1 { P with now:=(hU P root txt).st,kept:=hU P root txt,at_:=(P.at_+1) % 2 } V ∧
  Laid key ds.flush.1 (cq key ds.flush.1 ((P.at_+1) % 2) (hU P root txt)).1 ((P.at_+1) % 2) (hU P root txt):=by
 have hsteps:=h.steps
 have hlen:=h.len
 have hsz:=h.size
 have h0:=Ch h.off
 have hfs:=DSt.flush_steps ds
 have hff:=h.fine.flush (by omega)
 have hfl:=DSt.flush_len ds
 have hfo:ds.flush.1.offAt=0:=by rw[oM]; exact h.off
 have ht2:(hU P root txt).txt.length≤200:=ht
 obtain⟨h1,hL⟩:=nj (k:=key) (a:=(P.at_+1) % 2) (s:=hU P root txt) hfo (by omega) (by omega) ht2
 have hbn:=ju key ds.flush.1 ((P.at_+1) % 2) (hU P root txt) hff ht2 (by omega)
 have hsn:=kW ht2
 refine⟨h0,h1,⟨by rw[hL.offAt]; exact hfo,hbn.1,by rw[hL.len,hfl]; exact hlen,hsz,by omega,hk,h.broken,by show(P.at_+1) % 2≤1; omega,h.used,h.used,h.written,h.written,fun j hj => .inr hj,fun j hj=>?_⟩,hL⟩
 have hj:P.now.written j=true:=by rcases hj with hj | hj <;> exact hj
 obtain⟨g,hg,hs⟩:=h.pages j (.inl hj)
 have hjn:=h.used j (h.written j hj)
 refine⟨g,hg,hs.other fun q hq=>?_⟩
 rw[hL.now _ (by omega) (by rw[hfl]; omega),if_neg (by omega),o0 h0 (by omega) (by omega)]
end
end Go.Sac

end
section
namespace Go.Sac
open Go
theorem sZ(nb:List UInt8)(hn:nb.length=4)(rest:List UInt8):∀(n q:Nat) (b:List UInt8),q<n→(eo n nb b++rest).drop (64*q)=eo (n-q) nb (b.drop (56*q))++rest
 | n, 0, b, _ => by simp
 | 0, q + 1, b, h => by omega
 | n + 1, q + 1, b, h => by
  rw[show 64*(q+1)=64+64*q by omega,←List.drop_drop,(jd n nb b rest hn).2.2.2,sZ nb hn rest n q (b.drop 56) (by omega),List.drop_drop,show n+1-(q+1)=n-q by omega,show 56+56*q=56*(q+1) by omega]
theorem xz(k:List UInt8)(s:Sup)(hc:s.commit.toNat<4294967296)(q:Nat)(hq:q<g8 s):tN (chS (cR (bx k s) s.commit) q)=s.commit.toNat∧tL (chS (cR (bx k s) s.commit) q)=s.commit.toNat:=by
 have hsl:=ff k s
 have hN:g8 s=((bx k s).length+55) / 56:=by rw[hsl]; rfl
 have hfr:cR (bx k s) s.commit=eo (g8 s) (be 4 s.commit.toNat) (bx k s)++[]:=by unfold cR; rw[←hN,List.append_nil]
 obtain⟨m,hm⟩:∃m,g8 s-q=m+1:=⟨g8 s-q-1,by omega⟩
 have hv:=ui (cR (bx k s) s.commit) q _ (iC k s) hq
 have hd:(cR (bx k s) s.commit).drop (64*q)=eo (m+1) (be 4 s.commit.toNat) ((bx k s).drop (56*q))++[]:=by
  rw[hfr,sZ _ (aI _ _) _ _ _ _ hq,hm]
 obtain⟨h1,h2,h3,h4⟩:=jd m (be 4 s.commit.toNat) ((bx k s).drop (56*q)) [] (aI _ _)
 rw[←hd] at h1 h2
 have hb:cL (be 4 s.commit.toNat)=s.commit.toNat:=by rw[jb]; exact Nat.mod_eq_of_lt hc
 unfold tN tL
 rw[hv]
 refine⟨?_,?_⟩
 ·rw[List.take_take,show min 4 64=4 from rfl,h1,hb]
 ·rw[List.drop_take,List.take_take,show min 4 (64-60)=4 from rfl,h2,hb]
structure SupAt(key:List UInt8)(ds:DSt)(a:Nat)(s:Sup):Prop where
 a_:a≤1
 ok:s.Ok
 reg:∃rest,rest.length=64*(16-g8 s)∧dZ ds a=cR (bx key s) s.commit++rest
 oth:∀s',dr key (fR (dZ ds ((a+1) % 2)))=some s'→s'.commit<s.commit
 nums:NumLe ds s.commit.toNat
section
variable {key:List UInt8}{ds ds':DSt}{a:Nat}{s:Sup}
theorem SupAt.par(h:SupAt key ds a s):dr key (fR (dZ ds a))=some s:=by
 obtain⟨rest,hr,he⟩:=h.reg
 have:=kW h.ok.txt
 obtain⟨z,hz⟩:=B1 key s rest (by omega) hr
 rw[he,hz,xe key s z h.ok]
theorem n1{k:List UInt8}{ds:DSt}{best:Option (Sup×Nat)}{i:Nat}(h:dr k (fR (dZ ds i))=none):dg k ds best i=best:=by unfold dg; rw[h]
theorem SupAt.newest(h:SupAt key ds a s):newest key ds=some (s,a):=by
 have hp:=h.par
 have ho:=h.oth
 unfold Go.Sac.newest
 rcases(by have:=h.a_; omega:a=0∨a=1) with rfl | rfl
 ·have h0:dg key ds none 0=some (s,0):=by unfold dg; rw[hp]
  rw[h0]
  cases hq:dr key (fR (dZ ds 1)) with
  | none => exact n1 hq
  | some s' =>
   have:=ho s' hq
   unfold dg
   rw[hq]
   show(if s.commit<s'.commit then some (s',1) else some (s,0))=some (s,0)
   rw[if_neg]
   intro hh
   rw[UInt64.lt_iff_toNat_lt] at this hh
   omega
 ·cases hq:dr key (fR (dZ ds 0)) with
  | none =>
   rw[n1 hq]
   unfold dg; rw[hp]
  | some s' =>
   have:=ho s' hq
   have h0:dg key ds none 0=some (s',0):=by unfold dg; rw[hq]
   rw[h0]
   unfold dg
   rw[hp]
   show(if s'.commit<s.commit then some (s,1) else some (s',0))=some (s,1)
   rw[if_pos this]
theorem NumLe.mono{M M':Nat}(h:NumLe ds M)(hm:M≤M'):NumLe ds M':=fun j h0 h1=>by have:=h j h0 h1; omega
theorem NumLe.congr{M:Nat}(h:NumLe ds M)(hc:∀j:Int,0≤j→j<32→ds'.now j=ds.now j):NumLe ds' M:=fun j h0 h1=>by rw[hc j h0 h1]; exact h j h0 h1
theorem qB(ha:a≤1)(hc:∀j:Int,0≤j→j<32→ds'.now j=ds.now j):dZ ds' a=dZ ds a:=ja fun q hq=>hc _ (by omega) (by omega)
theorem SupAt.congr(h:SupAt key ds a s)(hc:∀j:Int,0≤j→j<32→ds'.now j=ds.now j):SupAt key ds' a s:=by
 refine⟨h.a_,h.ok,?_,?_,h.nums.congr hc⟩
 ·rw[qB h.a_ hc]; exact h.reg
 ·rw[qB (by omega) hc]; exact h.oth
theorem Laid.othReg(h:Laid key ds ds' a s)(ha:a≤1)(hl:32≤ds.kept.length)(ht:s.txt.length≤200):dZ ds' ((a+1) % 2)=dZ ds ((a+1) % 2):=by
 have:=kW ht
 exact h.other (by omega) (by omega) (by omega)
theorem Laid.nums(h:Laid key ds ds' a s)(hl:32≤ds.kept.length){M:Nat}(hn:NumLe ds M)(hM:M≤s.commit.toNat)(hc:s.commit.toNat<4294967296):NumLe ds' s.commit.toNat:=by
 intro j h0 h1
 rw[h.now j h0 (by omega)]
 split
 ·rename_i hj
  obtain⟨q1,q2⟩:=xz key s hc (j-(a:Int)*16).toNat (by omega)
  omega
 ·have:=hn j h0 h1
  omega
theorem Laid.sup(h:Laid key ds ds' a s)(ha:a≤1)(hl:32≤ds.kept.length)(hok:s.Ok){M:Nat}(hn:NumLe ds M)(hM:M≤s.commit.toNat)(hc:s.commit.toNat<4294967296)
  (ho:∀s',dr key (fR (dZ ds ((a+1) % 2)))=some s'→s'.commit<s.commit):SupAt key ds' a s:=by
 refine⟨ha,hok,⟨_,DSt.reads_length _ _ _,h.reg ha hl hok.txt⟩,?_,h.nums hl hn hM hc⟩
 rw[h.othReg ha hl hok.txt]
 exact ho
theorem SupAt.next(h:SupAt key ds a s){s':Sup}(hL:Laid key ds ds' ((a+1) % 2) s')(hl:32≤ds.kept.length)(hok:s'.Ok)(hlt:s.commit.toNat<s'.commit.toNat)(hc:s'.commit.toNat<4294967296):SupAt key ds' ((a+1) % 2) s':=by
 have ha:=h.a_
 refine hL.sup (by omega) hl hok h.nums (by omega) hc ?_
 rw[show((a+1) % 2+1) % 2=a by omega,h.par]
 intro s2 h2
 cases h2
 rw[UInt64.lt_iff_toNat_lt]; exact hlt
end
theorem yW(n:Nat)(j:Int):(dsN n).now j=sec0:=by
 unfold DSt.now dsN
 show(none:Option Sec).getD ((List.replicate n sec0).getD j.toNat sec0)=sec0
 rw[Option.getD_none,List.getD_eq_getElem?_getD,List.getElem?_replicate]
 split <;> rfl
theorem vY(n:Nat):NumLe (dsN n) 0:=fun j _ _=>by rw[yW]; decide
end Go.Sac

end
section
namespace Go.Sac
open Go
theorem mV{k b:List UInt8}{s:Sup}(h:dr k b=some s):s=ig b:=by
 unfold dr at h
 split at h
 ·cases h
 ·split at h
  ·cases h; rfl
  ·cases h
theorem reads_zero(n:Nat)(i:Int):∀m,(dsN n).reads i m=List.replicate (64*m) 0
 | 0 => rfl
 | m + 1 => by
  rw[DSt.reads_succ,reads_zero n i m,yW]
  show List.replicate (64*m) (0:UInt8)++List.replicate 64 0=_
  rw[List.replicate_append_replicate]; rfl
theorem sx:fR (List.replicate (64*16) 0)=List.replicate 896 0:=by decide +kernel
theorem kH(k:List UInt8)(n:Nat):ij (newest k (dsN n))=0∧rU (newest k (dsN n))=0:=by
 cases h:newest k (dsN n) with
 | none => exact ⟨rfl, rfl⟩
 | some p =>
  obtain⟨s,a⟩:=p
  obtain⟨_,h1⟩:=vA h
  have h2:=mV h1
  unfold dZ at h2
  rw[reads_zero,sx] at h2
  subst h2
  have hz:(ig (List.replicate 896 0)).commit=0∧(ig (List.replicate 896 0)).epoch=0:=by decide +kernel
  exact hz
theorem Cg(k:List UInt8)(n:Nat):en k (dsN n)=1:=by
 have h:=oH (k:=k) (vY n) (by omega) (by rw[(kH k n).1]; decide)
 apply UInt64.toNat_inj.1
 show _=1
 omega
theorem ta(k:List UInt8)(n i:Nat)(hi:i≤1):eH k (dsN n) i=⟨0,[],fW,fW,UInt64.ofNat (i+1),1⟩:=by
 unfold eH
 rw[Cg,(kH k n).2]
 rcases(by omega:i=0∨i=1) with rfl | rfl <;> rfl
theorem A2(k:List UInt8)(ds:DSt):fN k ds 1=(fN k ds 0+1) % 2:=by
 have:=sS k ds
 unfold fN
 omega
def pgZ(a:Nat):Pg:=⟨⟨0,[],fW,fW⟩,⟨0,[],fW,fW,2,1⟩,a,0,fun _=>none,false⟩
theorem vN(key:List UInt8)(n:Nat)(hn:4≤n∧n≤400)(V:UInt32→List UInt8) :
  (∀j,j≤2→(g9 key (dsN (32+8*n)) j).2=0)∧(⟨(eH key (dsN (32+8*n)) 1).st,eH key (dsN (32+8*n)) 1,fN key (dsN (32+8*n)) 1,0,fun _=>none,false⟩:Pg)=pgZ (fN key (dsN (32+8*n)) 1) ∧
  POK n 1 key (g9 key (dsN (32+8*n)) 2).1 (pgZ (fN key (dsN (32+8*n)) 1)) V∧SupAt key (g9 key (dsN (32+8*n)) 2).1 (fN key (dsN (32+8*n)) 1) ⟨0,[],fW,fW,2,1⟩∧(g9 key (dsN (32+8*n)) 2).1.pend=[]:=by
 generalize hds:dsN (32+8*n)=ds
 have hz0:=ta key (32+8*n) 0 (by omega)
 have hz1:=ta key (32+8*n) 1 (by omega)
 have hnm:=vY (32+8*n)
 have hf:=vZ (32+8*n) (by omega)
 have hl:ds.kept.length=32+8*n:=by rw[←hds]; exact List.length_replicate
 have hoff:ds.offAt=0:=by rw[←hds]; rfl
 have hst:ds.steps=0:=by rw[←hds]; rfl
 have hnz:=kH key (32+8*n)
 have hpar:∀(a:Nat) (s':Sup),dr key (fR (dZ ds a))=some s'→s'.commit<1:=by
  intro a s' h
  have h2:=mV h
  rw[←hds] at h2
  unfold dZ at h2
  rw[reads_zero,sx] at h2
  subst h2
  decide +kernel
 rw[hds] at hz0 hz1 hnm hf hnz
 have ha0:=yO key ds 0
 have ha1:=A2 key ds
 have ok0:(eH key ds 0).Ok:=by rw[hz0]; exact⟨Nat.zero_le _,fun _ h=>Bool.noConfusion h,fun _ h=>Bool.noConfusion h⟩
 have ok1:(eH key ds 1).Ok:=by rw[hz1]; exact⟨Nat.zero_le _,fun _ h=>Bool.noConfusion h,fun _ h=>Bool.noConfusion h⟩
 have c0:(eH key ds 0).commit.toNat=1:=by rw[hz0]; rfl
 have c1:(eH key ds 1).commit.toNat=2:=by rw[hz1]; rfl
 obtain⟨r0,hL0⟩:=nj (k:=key) (a:=fN key ds 0) (s:=eH key ds 0) hoff ha0 (by omega) ok0.txt
 have b0:=ju key ds (fN key ds 0) (eH key ds 0) hf ok0.txt (by omega)
 have hS0:=hL0.sup ha0 (by omega) ok0 hnm (by omega) (by omega) (fun s' h=>by
  have:=hpar _ s' h
  rw[UInt64.lt_iff_toNat_lt] at this ⊢
  have e:(1:UInt64).toNat=1:=rfl
  omega)
 have hd1:g9 key ds 1=cq key ds (fN key ds 0) (eH key ds 0):=rfl
 obtain⟨r1,hL1⟩:=nj (k:=key) (ds:=(g9 key ds 1).1) (a:=fN key ds 1) (s:=eH key ds 1) (by rw[hd1,hL0.offAt]; exact hoff) (by omega) (by rw[hd1,hL0.len]; omega) ok1.txt
 have b1:=ju key (g9 key ds 1).1 (fN key ds 1) (eH key ds 1) (by rw[hd1]; exact b0.1) ok1.txt (by rw[hd1]; omega)
 have hd2:g9 key ds 2=cq key (g9 key ds 1).1 (fN key ds 1) (eH key ds 1):=rfl
 have hS1:SupAt key (g9 key ds 2).1 (fN key ds 1) (eH key ds 1):=by
  rw[ha1] at hL1 ⊢
  have h:=hS0.next (s':=eH key ds 1) (ds':=(cq key (g9 key ds 1).1 ((fN key ds 0+1) % 2) (eH key ds 1)).1) hL1 (by rw[hL0.len]; omega) ok1 (by omega) (by omega)
  rw[hd2,ha1]; exact h
 refine⟨fun j hj=>?_,?_,⟨?_,?_,?_,hn,?_,by omega,rfl,?_,fun i h=>Bool.noConfusion h,fun i h=>Bool.noConfusion h,fun i h=>Bool.noConfusion h,fun i h=>Bool.noConfusion h,fun i h=>Bool.noConfusion h,fun i h=>by rcases h with h | h <;> exact Bool.noConfusion h⟩,?_,?_⟩
 ·rcases(by omega:j=0∨j=1∨j=2) with rfl | rfl | rfl
  ·rfl
  ·rw[hd1]; exact r0
  ·rw[hd2]; exact r1
 ·rw[hz1]; rfl
 ·rw[hd2,hL1.offAt,hd1,hL0.offAt]; exact hoff
 ·rw[hd2]; exact b1.1
 ·rw[hd2,hL1.len,hd1,hL0.len]; exact hl
 ·rw[hd2]; rw[hd1] at b1 ⊢; omega
 ·show fN key ds 1≤1; omega
 ·rw[hz1] at hS1; exact hS1
 ·rw[hd2]; exact hL1.pend
theorem BH{n k:Nat}{key:List UInt8}{ds:DSt}{a:Nat}{s:Sup}{V:UInt32→List UInt8}(hS:SupAt key ds a s)(hoff:ds.offAt=0)(hf:ds.Fine)(hl:ds.kept.length=32+8*n)(hn:4≤n∧n≤400)(hst:ds.steps≤100*k)(hk:k+1≤1000000)(hc:s.commit.toNat<50000)
  (hu:∀i,s.used i=true→i.toNat<n) (hw:∀i,s.written i=true→s.used i=true) (hp:∀i,s.written i=true→∃g,Stands ds (aW key aY 0) i.toNat g (V i)) :
  (cq key ds ((a+1) % 2) (opS key ds s)).2=0 ∧
  (∀f:UInt32→Option UInt64,(∀i,s.written i=true→f i=some (genD (cq key ds ((a+1) % 2) (opS key ds s)).1 i))→POK n (k+1) key (cq key ds ((a+1) % 2) (opS key ds s)).1 ⟨s.st,opS key ds s,(a+1) % 2,0,f,false⟩ V) ∧
  SupAt key (cq key ds ((a+1) % 2) (opS key ds s)).1 ((a+1) % 2) (opS key ds s)∧Laid key ds (cq key ds ((a+1) % 2) (opS key ds s)).1 ((a+1) % 2) (opS key ds s)∧(opS key ds s).commit.toNat=s.commit.toNat+1:=by
 have ha:=hS.a_
 have hok:=hS.ok
 have hok2:(opS key ds s).Ok:=⟨hok.txt,hok.used,hok.written⟩
 have hnx:=oH (k:=key) hS.nums (by omega) (by rw[hS.newest]; exact Nat.le_refl _)
 have hcm:ij (newest key ds)=s.commit:=by rw[hS.newest]; rfl
 rw[hcm] at hnx
 have hc2:(opS key ds s).commit.toNat=s.commit.toNat+1:=by show(en key ds).toNat=_; omega
 obtain⟨r0,hL⟩:=nj (k:=key) (a:=(a+1) % 2) (s:=opS key ds s) hoff (by omega) (by omega) hok2.txt
 have hb:=ju key ds ((a+1) % 2) (opS key ds s) hf hok2.txt (by omega)
 have hsn:=kW hok2.txt
 have hS2:=hS.next hL (by omega) hok2 (by omega) (by omega)
 refine⟨r0,fun f hff=>⟨by rw[hL.offAt]; exact hoff,hb.1,by rw[hL.len]; exact hl,hn,by omega,hk,rfl,by show(a+1) % 2≤1; omega,hu,hu,hw,hw,fun i hi => .inr hi,fun i hi=>?_⟩,hS2,hL,hc2⟩
 have hi:s.written i=true:=by rcases hi with hi | hi <;> exact hi
 obtain⟨g,hg⟩:=hp i hi
 have hin:=hu i (hw i hi)
 have hg2:Stands (cq key ds ((a+1) % 2) (opS key ds s)).1 (aW key aY 0) i.toNat g (V i):=hg.other fun q hq=>by
  rw[hL.now _ (by omega) (by omega),if_neg (by omega)]
 refine⟨g,?_,hg2⟩
 show f i=some g
 rw[hff i hi]
 unfold genD
 have e8:(cq key ds ((a+1) % 2) (opS key ds s)).1.reads (32+(i.toNat:Int)*8) 8=(cq key ds ((a+1) % 2) (opS key ds s)).1.reads (32+(i.toNat:Int)*8) 1++(cq key ds ((a+1) % 2) (opS key ds s)).1.reads (32+(i.toNat:Int)*8+(1:Nat)) 7:=l6 _ _ 1 7
 have h1:((cq key ds ((a+1) % 2) (opS key ds s)).1.reads (32+(i.toNat:Int)*8) 1).length=64:=DSt.reads_length _ _ _
 rw[hg2.1] at e8
 have e9:(fp (aW key aY 0) i.toNat g.toNat (V i)).take 8=((cq key ds ((a+1) % 2) (opS key ds s)).1.reads (32+(i.toNat:Int)*8) 1).take 8:=by rw[e8,List.take_append_of_le_length (by omega)]
 rw[←e9,nQ]
end Go.Sac

end
section
namespace Go.Sac
open Go
theorem mget_no{κ ν:Type}[DecidableEq κ]{k:κ}{m:List (κ×ν)}(h:bV k m=none):k∉m.map (·.1):=by
 induction m with
 | nil => simp
 | cons p m ih =>
  obtain⟨x,u⟩:=p
  simp only[bV] at h
  by_cases hx:k=x
  ·rw[if_pos hx] at h; cases h
  ·rw[if_neg hx] at h
   simp only[List.map_cons,List.mem_cons,not_or]
   exact⟨hx,ih h⟩
theorem nC(m:List (Int×Sec))(j:Nat):∀(is:List Int) (ch:List UInt8) (k:List Sec),(∀i∈is,i.toNat≠j)→(kQ m is ch k).getD j sec0=k.getD j sec0
 | [], _, _, _ => rfl
 | i :: is, ch, k, h => by
  rw[kQ,nC m j is _ _ (fun x hx=>h x (by simp[hx]))]
  have hi:=h i (by simp)
  rw[List.getD_eq_getElem?_getD,List.getElem?_set_ne hi,←List.getD_eq_getElem?_getD]
theorem ti{ds:DSt}(hf:ds.Fine)(ch:List UInt8){j:Int}(hj:0≤j)(hp:bV j ds.pend=none):(ds.crash ch).now j=ds.now j:=by
 have hno:=mget_no hp
 unfold DSt.now
 rw[hp]
 show((none:Option Sec).getD ((kQ ds.pend (Bf (ds.pend.map (·.1))) ch ds.kept).getD j.toNat sec0))=_
 rw[Option.getD_none,Option.getD_none]
 refine nC _ _ _ _ _ (fun i hi hh=>hno ?_)
 unfold Bf at hi
 rw[List.mem_mergeSort] at hi
 obtain⟨p,hp1,hp2⟩:=List.mem_map.1 hi
 have:=hf.keys p hp1
 rw[show j=i by omega]
 exact hi
theorem xJ{ds:DSt}(hf:ds.Fine)(ch:List UInt8):(ds.crash ch).Fine:=⟨hf.steps,Nat.zero_le _,fun p hp=>by simp[DSt.crash] at hp,by show(kQ _ _ _ _).length≤4000; rw[lG]; exact hf.size⟩
theorem Ab(ds:DSt)(ch:List UInt8):(ds.crash ch).kept.length=ds.kept.length:=lG _ _ _ _
structure PInv(n k:Nat)(key:List UInt8)(ds:DSt)(P:Pg)(V:UInt32→List UInt8):Prop where
 ok:POK n k key ds P V
 sup:SupAt key ds P.at_ P.kept
 com:P.kept.commit.toNat≤k+1
 few:k≤40000
 dur0:∀j:Int,0≤j→j<32→bV j ds.pend=none
 dur1:∀i,P.kept.written i=true→∀q:Nat,q<8→bV (32+(i.toNat:Int)*8+q) ds.pend=none
structure PCra(n k:Nat)(key:List UInt8)(ds:DSt)(a:Nat)(s:Sup)(V:UInt32→List UInt8):Prop where
 off:ds.offAt=0
 fine:ds.Fine
 pend:ds.pend=[]
 len:ds.kept.length=32+8*n
 size:4≤n∧n≤400
 steps:ds.steps≤100*k
 few:k≤40000
 sup:SupAt key ds a s
 com:s.commit.toNat≤k+1
 used:∀i,s.used i=true→i.toNat<n
 written:∀i,s.written i=true→s.used i=true
 pages:∀i,s.written i=true→∃g,Stands ds (aW key aY 0) i.toNat g (V i)
section
variable {n k:Nat}{key:List UInt8}{ds:DSt}{P:Pg}{V:UInt32→List UInt8}
theorem PInv.alloc(h:PInv n k key ds P V)(i:UInt32)(hi:i.toNat<n):PInv n k key ds { P with now:={ P.now with used:=cO P.now.used i } } V :=
 ⟨h.ok.alloc i hi,h.sup,h.com,h.few,h.dur0,h.dur1⟩
theorem PInv.free(h:PInv n k key ds P V)(i:UInt32):PInv n k key ds { P with now:={ P.now with used:=ft P.now.used i,written:=ft P.now.written i } } V :=
 ⟨h.ok.free i,h.sup,h.com,h.few,h.dur0,h.dur1⟩
theorem PInv.undo(h:PInv n k key ds P V):PInv n k key ds { P with now:=P.kept.st } V:=⟨h.ok.undo,h.sup,h.com,h.few,h.dur0,h.dur1⟩
theorem PInv.write(h:PInv n k key ds P V)(hk:k+1≤40000)(i:UInt32)(hi:P.fresh i=true)(l:List UInt8)(hl:l.length≤480) :
  (ds.writes (32+(i.toNat:Int)*8) (fp (aW key aY 0) i.toNat P.gen.toNat l)).2=0 ∧
  PInv n (k+1) key (ds.writes (32+(i.toNat:Int)*8) (fp (aW key aY 0) i.toNat P.gen.toNat l)).1 { P with count:=P.count+1,now:={ P.now with written:=cO P.now.written i },gens:=qq P.gens i P.gen } (rG V i l):=by
 obtain⟨h0,h1⟩:=h.ok.write (by omega) i hi l hl
 have hlen:=h.ok.len
 obtain⟨hu,hku⟩:=fresh_iff.1 hi
 have hin:=h.ok.used i hu
 have hpl:=jJ (aW key aY 0) i.toNat P.gen.toNat l hl
 obtain⟨_,hp⟩:=sr 8 ds (32+(i.toNat:Int)*8) (fp (aW key aY 0) i.toNat P.gen.toNat l) h.ok.off hpl (by omega) (by omega)
 refine⟨h0,h1,h.sup.congr fun j hj0 hj1=>by rw[hp.now,if_neg (by omega)],by have:=h.com; show P.kept.commit.toNat≤_; omega,hk,fun j hj0 hj1=>by rw[hp.pend,if_neg (by omega)]; exact h.dur0 j hj0 hj1,fun j hj q hq=>?_⟩
 have hj:P.kept.written j=true:=hj
 have hjn:j.toNat≠i.toNat:=fun hh=>by
  have:=h.ok.kwritten j hj
  rw[UInt32.toNat_inj.1 hh,hku] at this; cases this
 rw[hp.pend,if_neg (by omega)]
 exact h.dur1 j hj q hq
theorem Ct{s:UInt64}(h:s.toNat≤50000):(s+1).toNat=s.toNat+1:=by
 rw[UInt64.toNat_add]
 exact Nat.mod_eq_of_lt (by show s.toNat+1<_; omega)
theorem PInv.commit(h:PInv n k key ds P V)(hk:k+1≤40000)(root:UInt32)(txt:List UInt8)(ht:txt.length≤200) :
  ds.flush.2=0∧(cq key ds.flush.1 ((P.at_+1) % 2) (hU P root txt)).2=0 ∧
  PInv n (k+1) key (cq key ds.flush.1 ((P.at_+1) % 2) (hU P root txt)).1 { P with now:=(hU P root txt).st,kept:=hU P root txt,at_:=(P.at_+1) % 2 } V ∧
  Laid key ds.flush.1 (cq key ds.flush.1 ((P.at_+1) % 2) (hU P root txt)).1 ((P.at_+1) % 2) (hU P root txt)∧SupAt key ds.flush.1 P.at_ P.kept:=by
 obtain⟨h0,h1,h2,hL⟩:=h.ok.commit (by omega) root txt ht
 have hlen:=h.ok.len
 have hfl:=DSt.flush_len ds
 have hsz:=h.ok.size
 have hcom:=h.com
 have hfew:=h.few
 have hS1:SupAt key ds.flush.1 P.at_ P.kept:=h.sup.congr fun j hj0 hj1=>o0 h0 hj0 (by omega)
 have hcn:(hU P root txt).commit.toNat=P.kept.commit.toNat+1:=Ct (by omega)
 have hok:(hU P root txt).Ok:=⟨ht,fun i hi=>by have:=h.ok.used i hi; omega,fun i hi=>by have:=h.ok.used i (h.ok.written i hi); omega⟩
 have hS2:=hS1.next hL (by omega) hok (by omega) (by omega)
 refine⟨h0,h1,⟨h2,hS2,by show(hU P root txt).commit.toNat≤_; omega,hk,fun j _ _=>by rw[hL.pend]; rfl,fun i _ q _=>by rw[hL.pend]; rfl⟩,hL,hS1⟩
theorem PInv.crash(h:PInv n k key ds P V)(ch:List UInt8):PCra n k key (ds.crash ch) P.at_ P.kept V:=by
 have hf:=h.ok.fine
 refine⟨rfl,xJ hf ch,rfl,by rw[Ab]; exact h.ok.len,h.ok.size,h.ok.steps,h.few,h.sup.congr fun j hj0 hj1=>ti hf ch hj0 (h.dur0 j hj0 hj1),h.com,h.ok.kused,h.ok.kwritten,fun i hi=>?_⟩
 obtain⟨g,_,hg⟩:=h.ok.pages i (.inr hi)
 exact⟨g,hg.other fun q hq=>ti hf ch (by omega) (h.dur1 i hi q hq)⟩
theorem PCra.open{a:Nat}{s:Sup}(h:PCra n k key ds a s V)(hk:k+1≤40000) :
  newest key ds=some (s,a)∧(cq key ds ((a+1) % 2) (opS key ds s)).2=0 ∧
  (∀f:UInt32→Option UInt64,(∀i,s.written i=true→f i=some (genD (cq key ds ((a+1) % 2) (opS key ds s)).1 i))→PInv n (k+1) key (cq key ds ((a+1) % 2) (opS key ds s)).1 ⟨s.st,opS key ds s,(a+1) % 2,0,f,false⟩ V) ∧
  Laid key ds (cq key ds ((a+1) % 2) (opS key ds s)).1 ((a+1) % 2) (opS key ds s)∧(opS key ds s).commit.toNat=s.commit.toNat+1:=by
 have hc:=h.com
 have hfew:=h.few
 obtain⟨h0,h1,h2,h3,h4⟩:=BH h.sup h.off h.fine h.len h.size h.steps (by omega) (by omega) h.used h.written h.pages
 exact⟨h.sup.newest,h0,fun f hf=>⟨h1 f hf,h2,by show(opS key ds s).commit.toNat≤_; omega,hk,fun j _ _=>by rw[h3.pend]; rfl,fun i _ q _=>by rw[h3.pend]; rfl⟩,h3,h4⟩
end
theorem PInv.zero(key:List UInt8)(n:Nat)(hn:4≤n∧n≤400)(V:UInt32→List UInt8) :
  (∀j,j≤2→(g9 key (dsN (32+8*n)) j).2=0)∧(⟨(eH key (dsN (32+8*n)) 1).st,eH key (dsN (32+8*n)) 1,fN key (dsN (32+8*n)) 1,0,fun _=>none,false⟩:Pg)=pgZ (fN key (dsN (32+8*n)) 1) ∧
  PInv n 1 key (g9 key (dsN (32+8*n)) 2).1 (pgZ (fN key (dsN (32+8*n)) 1)) V:=by
 obtain⟨h1,h2,h3,h4,h5⟩:=vN key n hn V
 exact⟨h1,h2,h3,h4,Nat.le_refl 2,by omega,fun j _ _=>by rw[h5]; rfl,fun i hi=>Bool.noConfusion hi⟩
end Go.Sac

end
section
namespace Go.Sac
open Go
abbrev Bs:=List UInt8
abbrev ltB:Bs→Bs→Bool:=Op.bytesLess
theorem pI(a:Bs):ltB a []=false:=by cases a <;> rfl
theorem na(a b:UInt8)(x y:Bs):ltB (a::x) (b::y)=(decide (a<b)||(a==b&&ltB x y)):=rfl
theorem fz:∀a:Bs,ltB a a=false
 | [] => rfl
 | a :: x => by rw [na, fz x, decide_eq_false (UInt8.lt_irrefl a), Bool.and_false]; rfl
theorem dA:∀{a b c:Bs},ltB a b=true→ltB b c=true→ltB a c=true
 | _, _, [], _, h => by rw [pI] at h; cases h
 | _, [], _ :: _, h, _ => by rw [pI] at h; cases h
 | [], _ :: _, _ :: _, _, _ => rfl
 | a :: x, b :: y, c :: z, h1, h2 => by
  rw[na] at h1 h2 ⊢
  simp only[Bool.or_eq_true,decide_eq_true_eq,Bool.and_eq_true,beq_iff_eq] at h1 h2 ⊢
  rcases h1 with h1 | ⟨rfl,h1⟩
  ·rcases h2 with h2 | ⟨rfl,h2⟩
   ·exact .inl (UInt8.lt_trans h1 h2)
   ·exact .inl h1
  ·rcases h2 with h2 | ⟨rfl,h2⟩
   ·exact .inl h2
   ·exact .inr ⟨rfl,dA h1 h2⟩
theorem ld:∀{a b:Bs},ltB a b=false→ltB b a=false→a=b
 | [], [], _, _ => rfl
 | [], _ :: _, h, _ => by cases h
 | _ :: _, [], _, h => by cases h
 | a :: x, b :: y, h1, h2 => by
  rw[na] at h1 h2
  simp only[Bool.or_eq_false_iff,decide_eq_false_iff_not,Bool.and_eq_false_iff,beq_eq_false_iff_ne] at h1 h2
  have hab:a=b:=UInt8.le_antisymm (UInt8.not_lt.1 h2.1) (UInt8.not_lt.1 h1.1)
  subst hab
  rw[ld (h1.2.resolve_left (fun h=>h rfl)) (h2.2.resolve_left (fun h=>h rfl))]
theorem gg{a b:Bs}(h:ltB a b=true):ltB b a=false:=by
 cases hb:ltB b a with
 | false => rfl
 | true => have := dA h hb; rw [fz] at this; cases this
theorem lU{a b:Bs}(h:ltB a b=true):a≠b:=fun e=>by subst e; rw[fz] at h; cases h
theorem xr{a b c:Bs}(h1:ltB a b=true)(h2:ltB c b=false):ltB a c=true:=by
 cases h3:ltB b c with
 | true => exact dA h1 h3
 | false => rw [← ld h3 h2]; exact h1
theorem kL{a b c:Bs}(h1:ltB b a=false)(h2:ltB b c=true):ltB a c=true:=by
 cases h3:ltB a b with
 | true => exact dA h3 h2
 | false => rw [ld h3 h1]; exact h2
abbrev Pr:=Bs×Bs
def il(l:List Bs):Prop:=l.Pairwise fun a b=>ltB a b=true
def df(l:List Pr):Prop:=l.Pairwise fun p q=>ltB p.1 q.1=true
theorem sortP_keys{l:List Pr}:df l↔il (l.map (·.1)):=by unfold df il; rw[List.pairwise_map]
theorem zA{α:Type}{f:α→Bs}{l:List α}{x:α}(h:l.Pairwise fun a b=>ltB (f a) (f b)=true)(hx:∀hp:l.length-1<l.length,ltB (f (l[l.length-1]'hp)) (f x)=true):(l++[x]).Pairwise fun a b=>ltB (f a) (f b)=true:=by
 rw[List.pairwise_append]
 refine⟨h,List.pairwise_singleton _ _,fun a ha b hb=>?_⟩
 rw[List.mem_singleton] at hb; subst hb
 obtain⟨i,hi,rfl⟩:=List.getElem_of_mem ha
 have h2:=hx (by omega)
 by_cases hl:i=l.length-1
 ·subst hl; exact h2
 ·exact dA (List.pairwise_iff_getElem.1 h i (l.length-1) hi (by omega) (by omega)) h2
def eU(l:List Bs)(x:Bs):Nat:=(l.takeWhile fun y=>ltB y x).length
theorem nE(l:List Bs)(x:Bs):eU l x≤l.length:=by
 unfold eU
 exact(List.takeWhile_sublist _).length_le
theorem ug{l:List Bs}{x:Bs}:∀{i:Nat} (hi:i<eU l x),ltB (l[i]'(Nat.lt_of_lt_of_le hi (nE l x))) x=true:=by
 induction l with
 | nil => intro i hi; exact absurd hi (by simp [eU])
 | cons a l ih =>
  intro i hi
  unfold eU at hi
  rw[List.takeWhile_cons] at hi
  split at hi
  ·rename_i h
   cases i with
   | zero => exact h
   | succ i => exact ih (i := i) (by simpa [eU] using hi)
  ·simp at hi
theorem oe{l:List Bs}{x:Bs}(h:eU l x<l.length):ltB (l[eU l x]'h) x=false:=by
 induction l with
 | nil => simp at h
 | cons a l ih =>
  by_cases ha:ltB a x=true
  ·have e:eU (a::l) x=eU l x+1:=by unfold eU; rw[List.takeWhile_cons,if_pos ha]; rfl
   have h':eU l x<l.length:=by rw[e,List.length_cons] at h; omega
   have:=ih h'
   have q:(a::l)[eU (a::l) x]'h=l[eU l x]'h':=by
    have:(a::l)[eU (a::l) x]?=l[eU l x]?:=by rw[e]; rfl
    rw[List.getElem?_eq_getElem h,List.getElem?_eq_getElem h'] at this
    exact Option.some.inj this
   rw[q]; exact this
  ·have e:eU (a::l) x=0:=by unfold eU; rw[List.takeWhile_cons,if_neg ha]; rfl
   have q:(a::l)[eU (a::l) x]'h=a:=by
    have:(a::l)[eU (a::l) x]?=some a:=by rw[e]; rfl
    rw[List.getElem?_eq_getElem h] at this
    exact Option.some.inj this
   rw[q]; simpa using ha
theorem yZ{l:List Bs}{x:Bs}(hs:il l){i:Nat}(hi:i<l.length)(hc:eU l x≤i):ltB l[i] x=false:=by
 have hcl:eU l x<l.length:=by omega
 have h0:=oe hcl
 by_cases he:eU l x=i
 ·have q:l[i]=l[eU l x]:=by simp only[he]
  rw[q]; exact h0
 ·have:=List.pairwise_iff_getElem.1 hs (eU l x) i hcl hi (by omega)
  cases h:ltB l[i] x with
  | false => rfl
  | true => rw [dA this h] at h0; cases h0
theorem z6{l:List Bs}{x:Bs}{n:Nat}(hn:n≤l.length)(h1:∀i (h:i<l.length),i<n→ltB l[i] x=true)(h2:∀h:n<l.length,ltB l[n] x=false):eU l x=n:=by
 rcases Nat.lt_trichotomy (eU l x) n with h | h | h
 ·have hl:eU l x<l.length:=by omega
  have:=oe hl
  rw[h1 _ hl h] at this; cases this
 ·exact h
 ·have hl:n<l.length:=by have:=nE l x; omega
  have:=ug h
  rw[h2 hl] at this; cases this
def sV(l:List Pr):List Bs:=l.map (·.1)
def kN(l:List Pr)(k:Bs):Option Bs:=(l.find? fun p=>p.1==k).map (·.2)
def eh(l:List Pr)(p:Pr):List Pr:=l.filter (fun q=>ltB q.1 p.1)++p::l.filter fun q=>ltB p.1 q.1
def fO(l:List Pr)(k:Bs):List Pr:=l.filter fun q => !(q.1==k)
theorem tJ{l:List Pr}(f:Pr→Bool)(h:df l):df (l.filter f):=h.sublist List.filter_sublist
theorem th{l:List Pr}(k:Bs)(h:df l):df (fO l k):=tJ _ h
end Go.Sac

end
section
namespace Go.Sac
open Go
def txt(s:Bs):Bs:=be 2 s.length++s
theorem g0(s:Bs):(txt s).length=s.length+2:=by unfold txt; rw[List.length_append,aI]; omega
def prB(p:Pr):Bs:=txt p.1++txt p.2
theorem x8(p:Pr):(prB p).length=p.1.length+p.2.length+4:=by unfold prB; rw[List.length_append,g0,g0]; omega
def ni(l:List Pr):Bs:=(1:UInt8)::(be 2 l.length++l.flatMap prB)
def jx(ids:List UInt32):Bs:=ids.flatMap fun i=>be 4 i.toNat
def brB(ks:List Bs)(ids:List UInt32):Bs:=(2:UInt8)::(be 2 ks.length++(ks.flatMap txt++jx ids))
def bM(l:List Pr):Nat:=3+(l.map fun p=>p.1.length+p.2.length+4).sum
def cw(ks:List Bs):Nat:=(ks.map fun k=>k.length+2).sum
def brZ(ks:List Bs)(ids:List UInt32):Nat:=3+4*ids.length+cw ks
theorem gk{α:Type}(f:α→Bs)(g:α→Nat)(h:∀a,(f a).length=g a):∀l:List α,(l.flatMap f).length=(l.map g).sum
 | [] => rfl
 | a :: l => by rw [List.flatMap_cons, List.length_append, gk f g h l, h, List.map_cons, List.sum_cons]
theorem jM(l:List Pr):(ni l).length=bM l:=by
 unfold ni bM
 rw[List.length_cons,List.length_append,aI,gk prB _ x8]; omega
theorem jc(ids:List UInt32):(jx ids).length=4*ids.length:=by
 unfold jx
 rw[gk _ (fun _=>4) (fun a=>aI _ _),List.map_const',List.sum_replicate_nat]; omega
theorem rn(ks:List Bs)(ids:List UInt32):(brB ks ids).length=brZ ks ids:=by
 unfold brB brZ cw
 rw[List.length_cons,List.length_append,List.length_append,aI,gk txt _ g0,jc]; omega
theorem dt(l m:List Pr):bM (l++m)+3=bM l+bM m:=by
 unfold bM; rw[List.map_append,List.sum_append_nat]; omega
theorem gh(p:Pr):bM [p]=p.1.length+p.2.length+7:=by simp[bM]; omega
theorem fI(l m:List Bs):cw (l++m)=cw l+cw m:=by
 unfold cw; rw[List.map_append,List.sum_append_nat]
theorem gH(a:Bs)(l:List Bs):cw (a::l)=a.length+2+cw l:=by simp[cw]
theorem iA:∀l:List Pr,3+4*l.length≤bM l
 | [] => Nat.le_refl _
 | p :: l => by
  have h1:=iA l
  have h3:=dt [p] l
  rw[gh,List.singleton_append] at h3
  rw[List.length_cons]; omega
abbrev jv(k:Bs):Prop:=1≤k.length∧k.length≤60
abbrev mU(p:Pr):Prop:=jv p.1∧p.2.length≤150
def eM(l:List Pr):Prop:=(∀p∈l,mU p)∧df l
def u4(l:List Bs):Prop:=(∀k∈l,jv k)∧il l
def leafOk(l:List Pr):Prop:=eM l∧bM l≤480
def brOk(ks:List Bs)(ids:List UInt32):Prop:=ks≠[]∧ids.length=ks.length+1∧u4 ks∧brZ ks ids≤480
theorem nh:∀l:List Pr,(∀p∈l,mU p)→bM l≤3+214*l.length∧3+5*l.length≤bM l
 | [], _ => by simp [bM]
 | p :: l, h => by
  have h1:=nh l (fun q hq=>h q (List.mem_cons_of_mem _ hq))
  have h2:=h p List.mem_cons_self
  have h3:=dt [p] l
  rw[gh] at h3
  rw[List.singleton_append] at h3
  rw[List.length_cons]
  omega
theorem qT:∀l:List Bs,(∀k∈l,jv k)→cw l≤62*l.length∧3*l.length≤cw l
 | [], _ => by simp [cw]
 | p :: l, h => by
  have h1:=qT l (fun q hq=>h q (List.mem_cons_of_mem _ hq))
  have h2:=h p List.mem_cons_self
  rw[gH,List.length_cons]
  omega
theorem leafOk.few{l:List Pr}(h:leafOk l):l.length≤95:=by
 have h1:=(nh l h.1.1).2
 have h2:=h.2
 omega
theorem brOk.few{ks:List Bs}{ids:List UInt32}(h:brOk ks ids):ks.length≤67∧ids.length≤68:=by
 obtain⟨_,h2,⟨h3,_⟩,h4⟩:=h
 have h5:=(qT ks h3).2
 unfold brZ at h4
 omega
theorem z8{n:Nat}(hn:n<65536)(z:Bs):cL ((be 2 n++z).take 2)=n:=by
 rw[List.take_left' (aI _ _),jb]; omega
theorem B7{s:Bs}(hs:s.length<65536)(z:Bs):cL ((txt s++z).take 2)=s.length:=by
 unfold txt; rw[List.append_assoc]; exact z8 hs _
theorem B5(s z:Bs):((txt s++z).drop 2).take s.length=s:=by
 unfold txt; rw[List.append_assoc,List.drop_left' (aI _ _),List.take_left' rfl]
theorem B6(s z:Bs):(txt s++z).drop (2+s.length)=z:=by
 rw[List.drop_left' (by rw[g0]; omega)]
theorem zJ(x:UInt32):ez x=be 4 x.toNat:=by
 have hx:=x.toNat_lt
 have h:∀s,s<32→(gr x s).toUInt8=UInt8.ofNat (x.toNat >>> s):=fun s hs=>by
  apply UInt8.toNat_inj.1
  unfold gr
  have h1:x.toNat >>> s≤x.toNat:=Nat.shiftRight_le _ _
  rw[UInt32.toNat_toUInt8,UInt32.toNat_ofNat',UInt8.toNat_ofNat',Nat.mod_eq_of_lt (a:=x.toNat >>> s) (by omega)]
 have h0:x.toUInt8=UInt8.ofNat (x.toNat >>> 0):=by
  apply UInt8.toNat_inj.1
  rw[UInt32.toNat_toUInt8,UInt8.toNat_ofNat']; rfl
 unfold ez
 rw[h 24 (by decide),h 16 (by decide),h 8 (by decide),h0]
 rfl
theorem id_head(i:UInt32)(z:Bs):UInt32.ofNat (cL ((be 4 i.toNat++z).take 4))=i:=by
 have hi:=i.toNat_lt
 rw[List.take_left' (aI _ _),jb]
 apply UInt32.toNat_inj.1
 rw[UInt32.toNat_ofNat']; omega
theorem id_rest(i:UInt32)(z:Bs):(be 4 i.toNat++z).drop 4=z:=List.drop_left' (aI _ _)
theorem od{α:Type}(f:α→Bs){l:List α}{i:Nat}(h:i<l.length):(l.drop i).flatMap f=f l[i]++(l.drop (i+1)).flatMap f:=by
 rw[List.drop_eq_getElem_cons h,List.flatMap_cons]
end Go.Sac

end
section
namespace Go.Sac
open Go
abbrev Kd:=UInt32×List UInt32×List Pr
def aT(ts:List Kd):List UInt32:=ts.map (·.1)
def msT(ts:List Kd):List (List Pr):=ts.map (·.2.2)
def pgT(ts:List Kd):List UInt32:=ts.flatMap (·.2.1)
def prT(ts:List Kd):List Pr:=ts.flatMap (·.2.2)
theorem fA(a b:List Kd):aT (a++b)=aT a++aT b:=List.map_append
theorem fa(a b:List Kd):msT (a++b)=msT a++msT b:=List.map_append
theorem dy(a b:List Kd):pgT (a++b)=pgT a++pgT b:=List.flatMap_append
theorem eF(a b:List Kd):prT (a++b)=prT a++prT b:=List.flatMap_append
theorem dO(a:Kd)(b:List Kd):pgT (a::b)=a.2.1++pgT b:=List.flatMap_cons
theorem eB(a:Kd)(b:List Kd):prT (a::b)=a.2.2++prT b:=List.flatMap_cons
theorem gY(ts:List Kd):(msT ts).flatten=prT ts:=(List.flatMap_def ..).symm
def Below(m:List Pr)(k:Bs):Prop:=∀p∈m,ltB p.1 k=true
def Above(m:List Pr)(k:Bs):Prop:=∀p∈m,ltB p.1 k=false
theorem Below.app{a b:List Pr}{k:Bs}:Below (a++b) k↔Below a k∧Below b k:=by unfold Below; simp only[List.mem_append,or_imp,forall_and]
theorem Above.app{a b:List Pr}{k:Bs}:Above (a++b) k↔Above a k∧Above b k:=by unfold Above; simp only[List.mem_append,or_imp,forall_and]
def Seps:List Bs→List (List Pr)→Prop
 | [], [_] => True
 | k :: ks, m :: ms => Below m k ∧ Above ms.flatten k ∧ Seps ks ms
 | _, _ => False
theorem Seps.len:∀{ks:List Bs} {ms:List (List Pr)},Seps ks ms→ms.length=ks.length+1
 | [], [], h => h.elim
 | [], [_], _ => rfl
 | [], _ :: _ :: _, h => h.elim
 | _ :: _, [], h => h.elim
 | k :: ks, m :: ms, h => by rw [List.length_cons, List.length_cons, Seps.len h.2.2]
theorem Seps.one(m:List Pr):Seps [] [m]:=trivial
theorem Seps.sort:∀{ks:List Bs} {ms:List (List Pr)},Seps ks ms→(∀m∈ms,df m)→df ms.flatten
 | [], [m], _, h => by rw [List.flatten_cons, List.flatten_nil, List.append_nil]; exact h m List.mem_cons_self
 | k :: ks, m :: ms, hs, h => by
  rw[List.flatten_cons]
  unfold df
  rw[List.pairwise_append]
  exact⟨h m List.mem_cons_self,Seps.sort hs.2.2 (fun x hx=>h x (List.mem_cons_of_mem _ hx)),fun a ha b hb=>xr (hs.1 a ha) (hs.2.1 b hb)⟩
theorem Seps.join{k:Bs}{K2:List Bs}{B:List (List Pr)}(hB:Seps K2 B)(h2:Above B.flatten k):∀{K1:List Bs} {A:List (List Pr)},Seps K1 A→Below A.flatten k→(∀x∈K1,ltB x k=true)→Seps (K1++k::K2) (A++B)
 | [], [m], _, h1, _ => ⟨by rw [List.flatten_cons, List.flatten_nil, List.append_nil] at h1; exact h1, h2, hB⟩
 | c :: K1, m :: A, hs, h1, h3 => by
  rw[List.flatten_cons,Below.app] at h1
  refine⟨hs.1,?_,Seps.join hB h2 hs.2.2 h1.2 (fun x hx=>h3 x (List.mem_cons_of_mem _ hx))⟩
  show Above (A++B).flatten c
  rw[List.flatten_append,Above.app]
  refine⟨hs.2.1,fun p hp=>?_⟩
  have q1:=h3 c List.mem_cons_self
  have q2:=h2 p hp
  cases h:ltB p.1 c with
  | false => rfl
  | true => rw [dA h q1] at q2; cases q2
theorem Seps.cut{k:Bs}{K2:List Bs}{B:List (List Pr)}:∀{K1:List Bs} {A:List (List Pr)},A.length=K1.length+1→il (K1++k::K2)→Seps (K1++k::K2) (A++B)→Seps K1 A∧Seps K2 B∧Below A.flatten k∧Above B.flatten k
 | [], [m], _, _, h => ⟨trivial, h.2.2, by rw [List.flatten_cons, List.flatten_nil, List.append_nil]; exact h.1, h.2.1⟩
 | [], [], h, _, _ => by simp at h
 | [], _ :: _ :: _, h, _, _ => by simp at h
 | _ :: _, [], h, _, _ => by simp at h
 | c :: K1, m :: A, hl, hs, h => by
  have hs':il (K1++k::K2):=(List.pairwise_cons.1 hs).2
  have hck:ltB c k=true:=(List.pairwise_cons.1 hs).1 k (by simp)
  obtain⟨h1,h2,h3⟩:=h
  obtain⟨q1,q2,q3,q4⟩:=Seps.cut (by simpa using hl) hs' h3
  have h2':Above (A++B).flatten c:=h2
  rw[List.flatten_append,Above.app] at h2'
  exact⟨⟨h1,h2'.1,q1⟩,q2,by rw[List.flatten_cons,Below.app]; exact⟨fun p hp=>dA (h1 p hp) hck,q3⟩,q4⟩
theorem Seps.set{m m':List Pr}{K2:List Bs}{B:List (List Pr)}:∀{K1:List Bs} {A:List (List Pr)},A.length=K1.length→Seps (K1++K2) (A++m::B)→(∀k∈K1,Above m' k)→(∀k,K2.head?=some k→Below m' k)→Seps (K1++K2) (A++m'::B)
 | [], [], _, h, _, h2 => by
  cases K2 with
  | nil => cases B with
   | nil => trivial
   | cons => exact h.elim
  | cons k K2 => exact ⟨h2 k rfl, h.2⟩
 | [], _ :: _, h, _, _, _ => by simp at h
 | _ :: _, [], h, _, _, _ => by simp at h
 | c :: K1, a :: A, hl, h, h1, h2 => by
  obtain⟨q1,q2,q3⟩:=h
  refine⟨q1,?_,Seps.set (by simpa using hl) q3 (fun k hk=>h1 k (List.mem_cons_of_mem _ hk)) h2⟩
  have q2':Above (A++m::B).flatten c:=q2
  show Above (A++m'::B).flatten c
  rw[List.flatten_append,List.flatten_cons,Above.app,Above.app] at q2' ⊢
  exact⟨q2'.1,h1 c List.mem_cons_self,q2'.2.2⟩
theorem Seps.split{m1 m2:List Pr}{k:Bs}(hb:Below m1 k)(ha:Above m2 k){K2:List Bs}{B:List (List Pr)}(h3:Above B.flatten k):∀{K1:List Bs} {A:List (List Pr)},A.length=K1.length→Seps (K1++K2) (A++(m1++m2)::B)→Seps (K1++k::K2) (A++m1::m2::B)
 | [], [], _, h => by
  refine⟨hb,by show Above (m2::B).flatten k; rw[List.flatten_cons,Above.app]; exact⟨ha,h3⟩,?_⟩
  cases K2 with
  | nil => cases B with
   | nil => trivial
   | cons => exact h.elim
  | cons c K2 => exact ⟨(Below.app.1 h.1).2, h.2⟩
 | [], _ :: _, h, _ => by simp at h
 | _ :: _, [], h, _ => by simp at h
 | c :: K1, a :: A, hl, h => by
  obtain⟨q1,q2,q3⟩:=h
  refine⟨q1,?_,Seps.split hb ha h3 (by simpa using hl) q3⟩
  have q2':Above (A++(m1++m2)::B).flatten c:=q2
  show Above (A++m1::m2::B).flatten c
  simp only[List.flatten_append,List.flatten_cons,Above.app] at q2' ⊢
  exact⟨q2'.1,q2'.2.1.1,q2'.2.1.2,q2'.2.2⟩
theorem Seps.merge{m1 m2:List Pr}{k:Bs}{K2:List Bs}{B:List (List Pr)}:∀{K1:List Bs} {A:List (List Pr)},A.length=K1.length→il (K1++k::K2)→Seps (K1++k::K2) (A++m1::m2::B)→Seps (K1++K2) (A++(m1++m2)::B)
 | [], [], _, hs, h => by
  obtain⟨q1,q2,q3⟩:=h
  cases K2 with
  | nil => cases B with
   | nil => trivial
   | cons => exact q3.elim
  | cons c K2 =>
   have hkc:ltB k c=true:=(List.pairwise_cons.1 hs).1 c List.mem_cons_self
   exact⟨Below.app.2 ⟨fun p hp=>dA (q1 p hp) hkc,q3.1⟩,q3.2⟩
 | [], _ :: _, h, _, _ => by simp at h
 | _ :: _, [], h, _, _ => by simp at h
 | c :: K1, a :: A, hl, hs, h => by
  obtain⟨q1,q2,q3⟩:=h
  refine⟨q1,?_,Seps.merge (by simpa using hl) (List.pairwise_cons.1 hs).2 q3⟩
  have q2':Above (A++m1::m2::B).flatten c:=q2
  show Above (A++(m1++m2)::B).flatten c
  simp only[List.flatten_append,List.flatten_cons,Above.app] at q2' ⊢
  exact⟨q2'.1,⟨q2'.2.1,q2'.2.2.1⟩,q2'.2.2.2⟩
def isT(V:UInt32→Bs):Nat→UInt32→List UInt32→List Pr→Prop
 | 0, id, pg, m => pg = [id] ∧ leafOk m ∧ V id = ni m
 | d + 1, id, pg, m => ∃ (ks : List Bs) (ts : List Kd), brOk ks (aT ts) ∧ V id = brB ks (aT ts) ∧ pg = id :: pgT ts ∧ m = prT ts ∧ Seps ks (msT ts) ∧ ∀ t ∈ ts, isT V d t.1 t.2.1 t.2.2 ∧ t.2.2 ≠ []
theorem qW{V V':UInt32→Bs}:∀{d:Nat} {id:UInt32} {pg:List UInt32} {m:List Pr},isT V d id pg m→(∀x∈pg,V' x=V x)→isT V' d id pg m
 | 0, id, pg, m, ⟨h1, h2, h3⟩, h => ⟨h1, h2, by rw [h id (by rw [h1]; exact List.mem_cons_self)]; exact h3⟩
 | d + 1, id, pg, m, ⟨ks, ts, h1, h2, h3, h4, h5, h6⟩, h => by
  subst h3
  refine⟨ks,ts,h1,by rw[h id List.mem_cons_self]; exact h2,rfl,h4,h5,fun t ht=>⟨qW (h6 t ht).1 (fun x hx=>h x (List.mem_cons_of_mem _ (List.mem_flatMap.2 ⟨t,ht,hx⟩))),(h6 t ht).2⟩⟩
theorem gj{V:UInt32→Bs}:∀{d:Nat} {id:UInt32} {pg:List UInt32} {m:List Pr},isT V d id pg m→eM m
 | 0, _, _, _, ⟨_, h, _⟩ => h.1
 | d + 1, _, _, _, ⟨ks, ts, _, _, _, h4, h5, h6⟩ => by
  subst h4
  refine⟨fun p hp=>?_,?_⟩
  ·obtain⟨t,ht,hpt⟩:=List.mem_flatMap.1 hp
   exact(gj (h6 t ht).1).1 p hpt
  ·rw[←gY]
   refine h5.sort (fun m hm=>?_)
   obtain⟨t,ht,rfl⟩:=List.mem_map.1 hm
   exact(gj (h6 t ht).1).2
theorem qX{ks:List Bs}{ts:List Kd}(h:brOk ks (aT ts)):2≤ts.length:=by
 obtain⟨h1,h2,_⟩:=h
 have:0<ks.length:=List.length_pos_iff.2 h1
 rw[aT,List.length_map] at h2; omega
theorem vI{V:UInt32→Bs}:∀{d:Nat} {id:UInt32} {pg:List UInt32} {m:List Pr},isT V d id pg m→2 ^ (d+1)≤pg.length+1
 | 0, _, _, _, ⟨h1, _⟩ => by subst h1; simp
 | d + 1, id, pg, m, ⟨ks, ts, h1, _, h3, _, _, h6⟩ => by
  subst h3
  have h2:=qX h1
  have hx:∀ts:List Kd,(∀t∈ts,isT V d t.1 t.2.1 t.2.2∧t.2.2≠[])→ts.length*(2 ^ (d+1)-1)≤(pgT ts).length:=by
   intro ts
   induction ts with
   | nil => intro _; simp
   | cons t ts ih =>
    intro h
    have q1:=vI (h t List.mem_cons_self).1
    have q2:=ih (fun x hx=>h x (List.mem_cons_of_mem _ hx))
    rw[dO,List.length_append,List.length_cons,Nat.succ_mul]
    omega
  have h4:=hx ts h6
  have h5:2*(2 ^ (d+1)-1)≤ts.length*(2 ^ (d+1)-1):=Nat.mul_le_mul_right _ h2
  rw[List.length_cons,Nat.pow_succ]
  omega
theorem yH{V:UInt32→Bs}:∀{d:Nat} {id:UInt32} {pg:List UInt32} {m:List Pr},isT V d id pg m→m≠[]→pg.length+1≤2*m.length
 | 0, _, _, m, ⟨h1, _⟩, h => by subst h1; have := List.length_pos_iff.2 h; simp; omega
 | d + 1, id, pg, m, ⟨ks, ts, h1, _, h3, h4, _, h6⟩, _ => by
  subst h3; subst h4
  have h2:=qX h1
  have hx:∀ts:List Kd,(∀t∈ts,isT V d t.1 t.2.1 t.2.2∧t.2.2≠[])→(pgT ts).length+ts.length≤2*(prT ts).length:=by
   intro ts
   induction ts with
   | nil => intro _; simp [pgT, prT]
   | cons t ts ih =>
    intro h
    have q1:=yH (h t List.mem_cons_self).1 (h t List.mem_cons_self).2
    have q2:=ih (fun x hx=>h x (List.mem_cons_of_mem _ hx))
    rw[dO,eB,List.length_append,List.length_append,List.length_cons]
    omega
  have:=hx ts h6
  rw[List.length_cons]; omega
end Go.Sac

end
section
namespace Go.Sac
open Go
inductive Cn where
 | leaf (ps : List Pr)
 | br (ks : List Bs) (ids : List UInt32)
def cnB:Cn→Bs
 | .leaf ps => ni ps
 | .br ks ids => brB ks ids
def cnZ:Cn→Nat
 | .leaf ps => bM ps
 | .br ks ids => brZ ks ids
def gJ:Cn→Prop
 | .leaf _ => True
 | .br ks _ => ks ≠ []
theorem jS(c:Cn):(cnB c).length=cnZ c:=by cases c with
 | leaf => exact jM _
 | br => exact rn _ _
def KidsT(V:UInt32→Bs)(d:Nat)(ts:List Kd):Prop:=∀t∈ts,isT V d t.1 t.2.1 t.2.2∧t.2.2≠[]
theorem KidsT.app{V:UInt32→Bs}{d:Nat}{a b:List Kd}:KidsT V d (a++b)↔KidsT V d a∧KidsT V d b :=
 ⟨fun h=>⟨fun t ht=>h t (List.mem_append_left _ ht),fun t ht=>h t (List.mem_append_right _ ht)⟩,fun h t ht=>(List.mem_append.1 ht).elim (h.1 t) (h.2 t)⟩
theorem u3{α:Type}{c k:α}{a b:List α}(h:c∈a++b):c∈a++k::b:=(List.mem_append.1 h).elim (fun h=>List.mem_append_left _ h) (fun h=>List.mem_append_right _ (List.mem_cons_of_mem _ h))
theorem KidsT.cons{V:UInt32→Bs}{d:Nat}{a:Kd}{b:List Kd}:KidsT V d (a::b)↔(isT V d a.1 a.2.1 a.2.2∧a.2.2≠[])∧KidsT V d b:=by unfold KidsT; simp only[List.mem_cons,forall_eq_or_imp]
theorem KidsT.mono{V V':UInt32→Bs}{d:Nat}{ts:List Kd}(h:KidsT V d ts)(hv:∀x∈pgT ts,V' x=V x):KidsT V' d ts:=fun t ht =>
 ⟨qW (h t ht).1 (fun x hx=>hv x (List.mem_flatMap.2 ⟨t,ht,hx⟩)),(h t ht).2⟩
def CT(V:UInt32→Bs):Nat→Cn→List UInt32→List Pr→Prop
 | 0, .leaf ps, pg, m => ps = m ∧ pg = [] ∧ eM m
 | d + 1, .br ks ids, pg, m => ∃ ts, ids = aT ts ∧ u4 ks ∧ pg = pgT ts ∧ m = prT ts ∧ Seps ks (msT ts) ∧ KidsT V d ts
 | _, _, _, _ => False
theorem CT.mono{V V':UInt32→Bs}:∀{d:Nat} {c:Cn} {pg:List UInt32} {m:List Pr},CT V d c pg m→(∀x∈pg,V' x=V x)→CT V' d c pg m
 | 0, .leaf _, _, _, h, _ => h
 | 0, .br _ _, _, _, h, _ => h.elim
 | _ + 1, .leaf _, _, _, h, _ => h.elim
 | _ + 1, .br _ _, _, _, ⟨ts, h1, h2, h3, h4, h5, h6⟩, hv => ⟨ts, h1, h2, h3, h4, h5, h6.mono (by subst h3; exact hv)⟩
theorem CT.saved{V:UInt32→Bs}:∀{d:Nat} {c:Cn} {pg:List UInt32} {m:List Pr} {id:UInt32},CT V d c pg m→cnZ c≤480→gJ c→V id=cnB c→isT V d id (id::pg) m
 | 0, .leaf _, _, _, _, ⟨h1, h2, h3⟩, hz, _, hv => by subst h1; subst h2; exact ⟨rfl, ⟨h3, hz⟩, hv⟩
 | 0, .br _ _, _, _, _, h, _, _, _ => h.elim
 | _ + 1, .leaf _, _, _, _, h, _, _, _ => h.elim
 | _ + 1, .br ks _, _, _, _, ⟨ts, h1, h2, h3, h4, h5, h6⟩, hz, hf, hv => by
  subst h1; subst h3
  have:=h5.len
  rw[msT,List.length_map] at this
  exact⟨ks,ts,⟨hf,by rw[aT,List.length_map]; exact this,h2,hz⟩,hv,rfl,h4,h5,h6⟩
theorem jw{V:UInt32→Bs}:∀{d:Nat} {id:UInt32} {pg:List UInt32} {m:List Pr},isT V d id pg m→∃c pg0,pg=id::pg0∧CT V d c pg0 m∧V id=cnB c∧cnZ c≤480∧gJ c
 | 0, _, _, _, ⟨h1, h2, h3⟩ => ⟨.leaf _, [], h1, ⟨rfl, rfl, h2.1⟩, h3, h2.2, trivial⟩
 | _ + 1, _, _, _, ⟨ks, ts, h1, h2, h3, h4, h5, h6⟩ => ⟨.br ks (aT ts), pgT ts, h3, ⟨ts, rfl, h1.2.2.1, rfl, h4, h5, h6⟩, h2, h1.2.2.2, h1.1⟩
theorem CT.pairs{V:UInt32→Bs}:∀{d:Nat} {c:Cn} {pg:List UInt32} {m:List Pr},CT V d c pg m→eM m
 | 0, .leaf _, _, _, h => h.2.2
 | 0, .br _ _, _, _, h => h.elim
 | _ + 1, .leaf _, _, _, h => h.elim
 | _ + 1, .br _ _, _, _, ⟨ts, _, _, _, h4, h5, h6⟩ => by
  subst h4
  refine⟨fun p hp=>?_,?_⟩
  ·obtain⟨t,ht,hpt⟩:=List.mem_flatMap.1 hp
   exact(gj (h6 t ht).1).1 p hpt
  ·rw[←gY]
   refine h5.sort (fun m hm=>?_)
   obtain⟨t,ht,rfl⟩:=List.mem_map.1 hm
   exact(gj (h6 t ht).1).2
def plc(ks:List Bs)(x:Bs):Nat:=if ks[eU ks x]?=some x then eU ks x+1 else eU ks x
theorem xa(ks:List Bs)(x:Bs):plc ks x≤ks.length:=by
 unfold plc
 split
 ·rename_i h; exact(List.getElem?_eq_some_iff.1 h).1
 ·exact nE _ _
theorem plc_lo{ks:List Bs}{x:Bs}{i:Nat}(hi:i<plc ks x):ltB x (ks[i]'(Nat.lt_of_lt_of_le hi (xa ks x)))=false:=by
 have hl:=Nat.lt_of_lt_of_le hi (xa ks x)
 unfold plc at hi
 by_cases hc:i<eU ks x
 ·exact gg (ug hc)
 ·split at hi
  ·rename_i h
   have:i=eU ks x:=by omega
   subst this
   have:=(List.getElem?_eq_some_iff.1 h).2
   rw[this]; exact fz x
  ·omega
theorem plc_hi{ks:List Bs}{x:Bs}(hs:il ks){i:Nat}(hi:plc ks x≤i)(hl:i<ks.length):ltB x ks[i]=true:=by
 have hcl:eU ks x<ks.length:=by unfold plc at hi; split at hi <;> omega
 unfold plc at hi
 split at hi
 ·rename_i h
  have e:=(List.getElem?_eq_some_iff.1 h).2
  have:=List.pairwise_iff_getElem.1 hs (eU ks x) i hcl hl (by omega)
  rw[e] at this; exact this
 ·rename_i h
  rw[List.getElem?_eq_getElem hcl] at h
  have h1:ltB ks[i] x=false:=yZ hs hl hi
  cases h2:ltB x ks[i] with
  | true => rfl
  | false =>
   have e:=ld h1 h2
   by_cases he:eU ks x=i
   ·subst he; exact absurd (congrArg some e) h
   ·have:=List.pairwise_iff_getElem.1 hs (eU ks x) i hcl hl (by omega)
    rw[e] at this
    have h0:=oe hcl
    rw[this] at h0; cases h0
theorem zK{ks:List Bs}{x:Bs}(hs:il ks):∃K1 K2,ks=K1++K2∧K1.length=plc ks x∧(∀k∈K1,ltB x k=false)∧∀k∈K2,ltB x k=true:=by
 refine⟨ks.take (plc ks x),ks.drop (plc ks x),(List.take_append_drop _ _).symm,by rw[List.length_take]; have:=xa ks x; omega,fun k hk=>?_,fun k hk=>?_⟩
 ·obtain⟨i,hi,rfl⟩:=List.getElem_of_mem hk
  rw[List.length_take] at hi
  rw[List.getElem_take]
  exact plc_lo (by omega)
 ·obtain⟨i,hi,rfl⟩:=List.getElem_of_mem hk
  rw[List.length_drop] at hi
  rw[List.getElem_drop]
  exact plc_hi hs (by omega) (by omega)
theorem Seps.before{x:Bs}{K2:List Bs}{M:List (List Pr)}:∀{K1:List Bs} {A:List (List Pr)},A.length=K1.length→Seps (K1++K2) (A++M)→(∀k∈K1,ltB x k=false)→Below A.flatten x
 | [], [], _, _, _ => fun p hp => by simp at hp
 | [], _ :: _, h, _, _ => by simp at h
 | _ :: _, [], h, _, _ => by simp at h
 | c :: K1, a :: A, hl, h, h1 => by
  rw[List.flatten_cons,Below.app]
  exact⟨fun p hp=>xr (h.1 p hp) (h1 c List.mem_cons_self),Seps.before (by simpa using hl) h.2.2 (fun k hk=>h1 k (List.mem_cons_of_mem _ hk))⟩
theorem Seps.behind{x:Bs}{m:List Pr}:∀{K2:List Bs} {B:List (List Pr)},Seps K2 (m::B)→(∀k∈K2,ltB x k=true)→∀p∈B.flatten,ltB x p.1=true
 | [], [], _, _ => fun p hp => by simp at hp
 | [], _ :: _, h, _ => h.elim
 | c :: K2, B, h, h1 => fun p hp => by
  have q1:=h1 c List.mem_cons_self
  have q2:=h.2.1 p hp
  exact xr q1 q2
theorem Seps.drop{K2:List Bs}{M:List (List Pr)}:∀{K1:List Bs} {A:List (List Pr)},A.length=K1.length→Seps (K1++K2) (A++M)→Seps K2 M
 | [], [], _, h => h
 | [], _ :: _, h, _ => by simp at h
 | _ :: _, [], h, _ => by simp at h
 | _ :: K1, _ :: A, hl, h => Seps.drop (K1 := K1) (A := A) (by simpa using hl) h.2.2
theorem Seps.above{m:List Pr}{K2:List Bs}{B:List (List Pr)}:∀{K1:List Bs} {A:List (List Pr)},A.length=K1.length→Seps (K1++K2) (A++m::B)→∀k∈K1,Above m k
 | [], _, _, _ => fun k hk => by simp at hk
 | _ :: _, [], h, _ => by simp at h
 | c :: K1, a :: A, hl, h => fun k hk => by
  rcases List.mem_cons.1 hk with rfl | hk
  ·have:Above (A++m::B).flatten k:=h.2.1
   rw[List.flatten_append,List.flatten_cons,Above.app,Above.app] at this
   exact this.2.1
  ·exact Seps.above (by simpa using hl) h.2.2 k hk
theorem Seps.below{m:List Pr}{K1 K2:List Bs}{A B:List (List Pr)}(hl:A.length=K1.length)(h:Seps (K1++K2) (A++m::B)):∀k,K2.head?=some k→Below m k:=fun k hk=>by
 cases K2 with
 | nil => cases hk
 | cons c K2 => cases hk; exact (Seps.drop hl h).1
structure Hole(V:UInt32→Bs)(d:Nat)(K1 K2:List Bs)(A B:List Kd)(m:List Pr):Prop where
 keys:u4 (K1++K2)
 la:A.length=K1.length
 seps:Seps (K1++K2) (msT A++m::msT B)
 ka:KidsT V d A
 kb:KidsT V d B
section
variable {V V':UInt32→Bs}{d:Nat}{K1 K2:List Bs}{A B:List Kd}{m m' m1 m2:List Pr}{x:Bs}
theorem Hole.lm(h:Hole V d K1 K2 A B m):(msT A).length=K1.length:=by rw[msT,List.length_map]; exact h.la
theorem Hole.lb(h:Hole V d K1 K2 A B m):B.length=K2.length:=by
 have h1:=h.seps.len
 have h2:=h.la
 rw[List.length_append,List.length_append,List.length_cons,msT,msT,List.length_map,List.length_map] at h1; omega
theorem Hole.mono(h:Hole V d K1 K2 A B m)(hv:∀y∈pgT A++pgT B,V' y=V y):Hole V' d K1 K2 A B m :=
 ⟨h.keys,h.la,h.seps,h.ka.mono (fun y hy=>hv y (List.mem_append_left _ hy)),h.kb.mono (fun y hy=>hv y (List.mem_append_right _ hy))⟩
theorem Hole.set(h:Hole V d K1 K2 A B m)(h1:∀k∈K1,Above m' k)(h2:∀k,K2.head?=some k→Below m' k):Hole V d K1 K2 A B m' :=
 ⟨h.keys,h.la,h.seps.set h.lm h1 h2,h.ka,h.kb⟩
theorem Hole.sub(h:Hole V d K1 K2 A B m)(hs:∀p∈m',p∈m):Hole V d K1 K2 A B m' :=
 h.set (fun k hk p hp=>h.seps.above h.lm k hk p (hs p hp)) (fun k hk p hp=>h.seps.below h.lm k hk p (hs p hp))
theorem Hole.fill{id:UInt32}{pg:List UInt32}(h:Hole V d K1 K2 A B m)(ht:isT V d id pg m)(hne:m≠[]):CT V (d+1) (.br (K1++K2) (aT A++id::aT B)) (pgT A++(pg++pgT B)) (prT A++(m++prT B)) :=
 ⟨A++(id,pg,m)::B,by rw[fA]; rfl,h.keys,by rw[dy,dO],by rw[eF,eB],by rw[fa]; exact h.seps,KidsT.app.2 ⟨h.ka,KidsT.cons.2 ⟨⟨ht,hne⟩,h.kb⟩⟩⟩
theorem Hole.fill2{id1 id2:UInt32}{pg1 pg2:List UInt32}{k:Bs}(h:Hole V d K1 K2 A B (m1++m2))(ht1:isT V d id1 pg1 m1)(ht2:isT V d id2 pg2 m2)(hn1:m1≠[])(hn2:m2≠[])(hk:jv k)(hb:Below m1 k)(ha:Above m2 k) :
  CT V (d+1) (.br (K1++k::K2) (aT A++id1::id2::aT B)) (pgT A++(pg1++(pg2++pgT B))) (prT A++(m1++m2++prT B)):=by
 obtain⟨p1,hp1⟩:=List.exists_mem_of_ne_nil _ hn1
 obtain⟨p2,hp2⟩:=List.exists_mem_of_ne_nil _ hn2
 have hlo:∀c∈K1,ltB c k=true:=fun c hc=>kL (h.seps.above h.lm c hc p1 (List.mem_append_left _ hp1)) (hb p1 hp1)
 have hhi:∀c,K2.head?=some c→ltB k c=true:=fun c hc=>kL (ha p2 hp2) (h.seps.below h.lm c hc p2 (List.mem_append_right _ hp2))
 have hs:=h.keys.2
 unfold il at hs
 rw[List.pairwise_append] at hs
 have hall:∀c∈K2,ltB k c=true:=fun c hc=>by
  cases K2 with
  | nil => simp at hc
  | cons e K2 =>
   rcases List.mem_cons.1 hc with rfl | hc
   ·exact hhi c rfl
   ·exact dA (hhi e rfl) ((List.pairwise_cons.1 hs.2.1).1 c hc)
 have h3:Above (msT B).flatten k:=fun p hp=>gg (Seps.behind (Seps.drop h.lm h.seps) hall p hp)
 refine⟨A++(id1,pg1,m1)::(id2,pg2,m2)::B,by rw[fA]; rfl,⟨fun c hc=>?_,?_⟩,by rw[dy,dO,dO],by rw[eF,eB,eB,List.append_assoc],by rw[fa]; exact Seps.split hb ha h3 h.lm h.seps,KidsT.app.2 ⟨h.ka,KidsT.cons.2 ⟨⟨ht1,hn1⟩,KidsT.cons.2 ⟨⟨ht2,hn2⟩,h.kb⟩⟩⟩⟩
 ·rcases List.mem_append.1 hc with hc | hc
  ·exact h.keys.1 c (List.mem_append_left _ hc)
  ·rcases List.mem_cons.1 hc with rfl | hc
   ·exact hk
   ·exact h.keys.1 c (List.mem_append_right _ hc)
 ·unfold il
  rw[List.pairwise_append]
  refine⟨hs.1,List.pairwise_cons.2 ⟨hall,hs.2.1⟩,fun a hA b hB=>?_⟩
  rcases List.mem_cons.1 hB with rfl | hB
  ·exact hlo a hA
  ·exact hs.2.2 a hA b hB
theorem Hole.gone{k:Bs}(h:Hole V d (K1++[k]) K2 A B []):CT V (d+1) (.br (K1++K2) (aT A++aT B)) (pgT A++pgT B) (prT A++prT B):=by
 have hl:=h.la
 rw[List.length_append,List.length_singleton] at hl
 have hne:A≠[]:=fun e=>by rw[e] at hl; simp at hl
 obtain⟨A',t,rfl⟩:∃A' t,A=A'++[t]:=⟨A.dropLast,A.getLast hne,(List.dropLast_concat_getLast hne).symm⟩
 rw[List.length_append,List.length_singleton] at hl
 have hs:=h.seps
 rw[fa,List.append_assoc,List.append_assoc,List.singleton_append] at hs
 have hkeys:=h.keys
 rw[List.append_assoc,List.singleton_append] at hkeys
 have h2:=Seps.merge (by rw[msT,List.length_map]; omega) hkeys.2 (show Seps (K1++k::K2) (msT A'++t.2.2::[]::msT B) from hs)
 rw[List.append_nil] at h2
 refine⟨A'++t::B,by rw[fA,fA,List.append_assoc]; rfl,⟨fun c hc=>hkeys.1 c (u3 hc),hkeys.2.sublist (List.Sublist.append_left (List.sublist_cons_self _ _) _)⟩,by rw[dy,dy,dO,List.append_assoc]; simp[pgT],by rw[eF,eF,eB,List.append_assoc]; simp[prT],by rw[fa]; exact h2,?_⟩
 have:=KidsT.app.2 ⟨h.ka,h.kb⟩
 rwa [List.append_assoc] at this
theorem Hole.gone0{k:Bs}(h:Hole V d [] (k::K2) [] B []):CT V (d+1) (.br K2 (aT B)) (pgT B) (prT B) :=
 ⟨B,rfl,⟨fun c hc=>h.keys.1 c (List.mem_cons_of_mem _ hc),(List.pairwise_cons.1 h.keys.2).2⟩,rfl,rfl,h.seps.2.2,h.kb⟩
theorem Hole.mergeR{k:Bs}{t:Kd}(h:Hole V d K1 (k::K2) A (t::B) m):Hole V d K1 K2 A B (m++t.2.2) :=
 ⟨⟨fun c hc=>h.keys.1 c (u3 hc),h.keys.2.sublist (List.Sublist.append_left (List.sublist_cons_self _ _) _)⟩,h.la,Seps.merge h.lm h.keys.2 h.seps,h.ka,(KidsT.cons.1 h.kb).2⟩
theorem Hole.mergeL{k:Bs}{t:Kd}(h:Hole V d (K1++[k]) K2 (A++[t]) B m):Hole V d K1 K2 A B (t.2.2++m):=by
 have hl:=h.la
 rw[List.length_append,List.length_append,List.length_singleton,List.length_singleton] at hl
 have hs:=h.seps
 rw[fa,List.append_assoc,List.append_assoc,List.singleton_append] at hs
 have hkeys:=h.keys
 rw[List.append_assoc,List.singleton_append] at hkeys
 exact⟨⟨fun c hc=>hkeys.1 c (u3 hc),hkeys.2.sublist (List.Sublist.append_left (List.sublist_cons_self _ _) _)⟩,by omega,Seps.merge (by rw[msT,List.length_map]; omega) hkeys.2 (show Seps (K1++k::K2) (msT A++t.2.2::m::msT B) from hs),(KidsT.app.1 h.ka).1,h.kb⟩
end
theorem CT.hole{V:UInt32→Bs}{d:Nat}{ks:List Bs}{ids:List UInt32}{pg:List UInt32}{m:List Pr}(h:CT V (d+1) (.br ks ids) pg m)(x:Bs) :
  ∃(K1 K2:List Bs) (A:List Kd) (t:Kd) (B:List Kd),ks=K1++K2∧K1.length=plc ks x∧ids=aT A++t.1::aT B∧pg=pgT A++(t.2.1++pgT B)∧m=prT A++(t.2.2++prT B)∧Hole V d K1 K2 A B t.2.2∧isT V d t.1 t.2.1 t.2.2∧t.2.2≠[]∧Below (prT A) x∧(∀p∈prT B,ltB x p.1=true)∧(∀k∈K1,ltB x k=false)∧∀k∈K2,ltB x k=true:=by
 obtain⟨ts,rfl,h2,rfl,rfl,h5,h6⟩:=h
 obtain⟨K1,K2,rfl,hl,h7,h8⟩:=zK (x:=x) h2.2
 have hlen:=h5.len
 rw[msT,List.length_map,List.length_append] at hlen
 have hlt:K1.length<ts.length:=by omega
 have hts:ts=ts.take K1.length++ts[K1.length]::ts.drop (K1.length+1):=by
  rw[←List.drop_eq_getElem_cons hlt,List.take_append_drop]
 obtain⟨A,hA⟩:∃A,A=ts.take K1.length:=⟨_,rfl⟩
 obtain⟨B,hB⟩:∃B,B=ts.drop (K1.length+1):=⟨_,rfl⟩
 obtain⟨t,ht⟩:∃t,t=ts[K1.length]:=⟨_,rfl⟩
 rw[←hA,←hB,←ht] at hts
 have hla:A.length=K1.length:=by rw[hA,List.length_take]; omega
 clear hA hB ht
 subst hts
 rw[KidsT.app,KidsT.cons] at h6
 rw[fa] at h5
 have hlm:(msT A).length=K1.length:=by rw[msT,List.length_map]; exact hla
 have h5':Seps (K1++K2) (msT A++t.2.2::msT B):=h5
 refine⟨K1,K2,A,t,B,rfl,hl,by rw[fA]; rfl,by rw[dy,dO],by rw[eF,eB],⟨h2,hla,h5',h6.1,h6.2.2⟩,h6.2.1.1,h6.2.1.2,?_,?_,h7,h8⟩
 ·rw[←gY]; exact Seps.before hlm h5' h7
 ·rw[←gY]; exact Seps.behind (Seps.drop hlm h5') h8
end Go.Sac

end
section
namespace Go.Sac
open Go
theorem jq{l:List Pr}{p q:Pr}(h:q∈eh l p):q=p∨q∈l:=by
 unfold eh at h
 rcases List.mem_append.1 h with h | h
 ·exact .inr (List.mem_filter.1 h).1
 ·rcases List.mem_cons.1 h with h | h
  ·exact .inl h
  ·exact .inr (List.mem_filter.1 h).1
theorem nN(l:List Pr)(p:Pr):p∈eh l p:=by unfold eh; simp
theorem putP_ne(l:List Pr)(p:Pr):eh l p≠[]:=List.ne_nil_of_mem (nN l p)
theorem sK{l:List Pr}(p:Pr)(h:df l):df (eh l p):=by
 unfold df eh
 rw[List.pairwise_append]
 refine⟨h.filter _,List.pairwise_cons.2 ⟨fun q hq=>(List.mem_filter.1 hq).2,h.filter _⟩,fun a ha b hb=>?_⟩
 have h1:=(List.mem_filter.1 ha).2
 rcases List.mem_cons.1 hb with rfl | hb
 ·exact h1
 ·exact dA h1 (List.mem_filter.1 hb).2
theorem putP_ok{l:List Pr}{p:Pr}(h:eM l)(hp:mU p):eM (eh l p) :=
 ⟨fun q hq=>(jq hq).elim (fun e=>by rw[e]; exact hp) (h.1 q),sK p h.2⟩
theorem nB{l:List Pr}{k:Bs}{q:Pr}(h:q∈fO l k):q∈l:=(List.mem_filter.1 h).1
theorem yY{l:List Pr}{k:Bs}(h:eM l):eM (fO l k):=⟨fun q hq=>h.1 q (nB hq),th k h.2⟩
theorem eI{l:List Pr}{f:Pr→Bool}(h:∀p∈l,f p=true):l.filter f=l:=List.filter_eq_self.2 h
theorem hH{l:List Pr}{f:Pr→Bool}(h:∀p∈l,f p=false):l.filter f=[]:=List.filter_eq_nil_iff.2 (fun p hp=>by rw[h p hp]; exact Bool.false_ne_true)
theorem Bv{a m b:List Pr}{p:Pr}(ha:Below a p.1)(hb:∀q∈b,ltB p.1 q.1=true):eh (a++(m++b)) p=a++(eh m p++b):=by
 unfold eh
 simp only[List.filter_append,List.append_assoc,List.cons_append]
 rw[eI (l:=a) ha,hH (l:=b) (fun q hq=>gg (hb q hq)),hH (l:=a) (fun q hq=>gg (ha q hq)),eI (l:=b) hb]
 simp
theorem Cq{a m b:List Pr}{k:Bs}(ha:Below a k)(hb:∀q∈b,ltB k q.1=true):fO (a++(m++b)) k=a++(fO m k++b):=by
 unfold fO
 simp only[List.filter_append]
 rw[eI (l:=a) (fun q hq=>by have:=lU (ha q hq); simpa using this),eI (l:=b) (fun q hq=>by have:=lU (hb q hq); simpa using Ne.symm this)]
theorem kM(a b:List Pr)(k:Bs):kN (a++b) k=(kN a k).or (kN b k):=by
 unfold kN
 rw[List.find?_append]
 cases List.find? (fun p=>p.1==k) a <;> rfl
theorem lh{l:List Pr}{k:Bs}(h:∀p∈l,p.1≠k):kN l k=none:=by
 unfold kN
 rw[List.find?_eq_none.2 (fun p hp=>by simpa using h p hp)]; rfl
theorem vL{a m b:List Pr}{k:Bs}(ha:Below a k)(hb:∀q∈b,ltB k q.1=true):kN (a++(m++b)) k=kN m k:=by
 rw[kM,kM,lh (l:=a) (fun p hp=>lU (ha p hp)),lh (l:=b) (fun p hp=>Ne.symm (lU (hb p hp)))]
 simp
def cY(l:List Pr)(k:Bs):Nat:=eU (sV l) k
def dh(l:List Pr)(k:Bs):Bool:=decide (∃h:cY l k<l.length,(l[cY l k]'h).1=k)
theorem iB(l:List Pr):(sV l).length=l.length:=List.length_map ..
theorem lf{l:List Pr}{i:Nat}(h:i<l.length):(sV l)[i]'(by rw[iB]; exact h)=l[i].1:=List.getElem_map ..
theorem pH(l:List Pr)(k:Bs):cY l k≤l.length:=by have:=nE (sV l) k; rw[iB] at this; exact this
theorem xu{l:List Pr}(h:df l):il (sV l):=sortP_keys.1 h
theorem qJ{l:List Pr}{k:Bs}{i:Nat}(hi:i<cY l k):ltB (l[i]'(Nat.lt_of_lt_of_le hi (pH l k))).1 k=true:=by
 have:=ug (l:=sV l) (x:=k) hi
 rw[lf (Nat.lt_of_lt_of_le hi (pH l k))] at this; exact this
theorem tU{l:List Pr}{k:Bs}(hs:df l){i:Nat}(hi:cY l k≤i)(hl:i<l.length):ltB l[i].1 k=false:=by
 have:=yZ (xu hs) (i:=i) (by rw[iB]; exact hl) hi
 rw[lf hl] at this; exact this
theorem x9{l:List Pr}{k:Bs}(hs:df l){i:Nat}(hi:cY l k≤i)(hl:i<l.length)(hn:dh l k=false∨cY l k<i):ltB k l[i].1=true:=by
 have h1:=tU hs hi hl
 cases h2:ltB k l[i].1 with
 | true => rfl
 | false =>
  have e:=ld h1 h2
  rcases hn with hn | hn
  ·unfold dh at hn
   by_cases hp:cY l k=i
   ·subst hp; exact absurd ⟨hl,e⟩ (of_decide_eq_false hn)
   ·have h3:=List.pairwise_iff_getElem.1 hs (cY l k) i (by omega) hl (by omega)
    rw[e] at h3
    rw[tU hs (Nat.le_refl _) (by omega)] at h3; cases h3
  ·have h3:=List.pairwise_iff_getElem.1 hs (cY l k) i (by omega) hl hn
   rw[e] at h3
   rw[tU hs (Nat.le_refl _) (by omega)] at h3; cases h3
theorem o9{l:List Pr}(k:Bs)(hs:df l):l.filter (fun q=>ltB q.1 k)=l.take (cY l k):=by
 have h:=List.filter_append (p:=fun q:Pr=>ltB q.1 k) (l.take (cY l k)) (l.drop (cY l k))
 rw[List.take_append_drop] at h
 rw[h,eI,hH,List.append_nil]
 ·intro p hp
  obtain⟨i,hi,rfl⟩:=List.getElem_of_mem hp
  rw[List.length_drop] at hi
  rw[List.getElem_drop]
  exact tU hs (by omega) (by omega)
 ·intro p hp
  obtain⟨i,hi,rfl⟩:=List.getElem_of_mem hp
  rw[List.length_take] at hi
  rw[List.getElem_take]
  exact qJ (by omega)
theorem fq{l:List Pr}{k:Bs}(h:dh l k=true):cY l k<l.length:=(of_decide_eq_true h).1
theorem nm{l:List Pr}{k:Bs}(h:dh l k=true):(l[cY l k]'(fq h)).1=k:=(of_decide_eq_true h).2
theorem oc{l:List Pr}(k:Bs)(hs:df l):l.filter (fun q=>ltB k q.1)=l.drop (cY l k+(dh l k).toNat):=by
 have h:=List.filter_append (p:=fun q:Pr=>ltB k q.1) (l.take (cY l k+(dh l k).toNat)) (l.drop (cY l k+(dh l k).toNat))
 rw[List.take_append_drop] at h
 rw[h,hH,eI,List.nil_append]
 ·intro p hp
  obtain⟨i,hi,rfl⟩:=List.getElem_of_mem hp
  rw[List.length_drop] at hi
  rw[List.getElem_drop]
  refine x9 hs (by omega) (by omega) ?_
  cases hh:dh l k with
  | false => exact .inl rfl
  | true => right; simp only [Bool.toNat_true]; omega
 ·intro p hp
  obtain⟨i,hi,rfl⟩:=List.getElem_of_mem hp
  rw[List.length_take] at hi
  rw[List.getElem_take]
  by_cases hi2:i<cY l k
  ·exact gg (qJ hi2)
  ·by_cases hh:dh l k=true
   ·have hb:(dh l k).toNat=1:=by rw[hh]; rfl
    have hi3:i=cY l k:=by omega
    have hk:(l[i]'(by omega)).1=k:=by simp only[hi3]; exact nm hh
    rw[hk]; exact fz k
   ·have hb:(dh l k).toNat=0:=by rw[Bool.eq_false_iff.2 hh]; rfl
    omega
theorem qE{l:List Pr}{p:Pr}(hs:df l)(h:dh l p.1=true):eh l p=l.set (cY l p.1) p:=by
 unfold eh
 rw[o9 _ hs,oc _ hs,h,List.set_eq_take_append_cons_drop,if_pos (fq h)]; rfl
theorem kD{l:List Pr}{p:Pr}(hs:df l)(h:dh l p.1=false):eh l p=l.take (cY l p.1)++p::l.drop (cY l p.1):=by
 unfold eh
 rw[o9 _ hs,oc _ hs,h]; rfl
theorem wk{l:List Pr}{k:Bs}(hs:df l)(h:dh l k=true):fO l k=l.take (cY l k)++l.drop (cY l k+1):=by
 have hl:=fq h
 unfold fO
 have e:l=l.take (cY l k)++l[cY l k]::l.drop (cY l k+1):=by rw[←List.drop_eq_getElem_cons hl,List.take_append_drop]
 have h1:(l.take (cY l k)).filter (fun q => !(q.1==k))=l.take (cY l k):=eI (fun p hp=>by
  obtain⟨i,hi,rfl⟩:=List.getElem_of_mem hp
  rw[List.length_take] at hi
  rw[List.getElem_take]
  have:=lU (qJ (l:=l) (k:=k) (i:=i) (by omega))
  simpa using this)
 have h2:(l.drop (cY l k+1)).filter (fun q => !(q.1==k))=l.drop (cY l k+1):=eI (fun p hp=>by
  obtain⟨i,hi,rfl⟩:=List.getElem_of_mem hp
  rw[List.length_drop] at hi
  rw[List.getElem_drop]
  have:=lU (x9 (k:=k) hs (i:=cY l k+1+i) (by omega) (by omega) (.inr (by omega)))
  simpa using Ne.symm this)
 calc l.filter (fun q => !(q.1==k))=(l.take (cY l k)++l[cY l k]::l.drop (cY l k+1)).filter (fun q => !(q.1==k)):=by rw[←e]
  _=_:=by rw[List.filter_append,h1,List.filter_cons,h2,nm h]; simp
theorem hG{l:List Pr}{k:Bs}(hs:df l):dh l k=true↔∃p∈l,p.1=k:=by
 constructor
 ·intro h; exact⟨_,List.getElem_mem (fq h),nm h⟩
 ·rintro⟨p,hp,rfl⟩
  obtain⟨i,hi,rfl⟩:=List.getElem_of_mem hp
  cases h:dh l l[i].1 with
  | true => rfl
  | false =>
   by_cases hc:i<cY l l[i].1
   ·have:=qJ hc; rw[fz] at this; cases this
   ·have:=x9 hs (by omega) hi (.inl h); rw[fz] at this; cases this
theorem A8{l:List Pr}{k:Bs}(hs:df l)(h:dh l k=false):fO l k=l:=by
 refine eI (fun p hp=>?_)
 by_cases hk:p.1=k
 ·rw[(hG hs).2 ⟨p,hp,hk⟩] at h; cases h
 ·simpa using hk
theorem yL{l:List Pr}{k:Bs}(hs:df l)(h:dh l k=true):kN l k=some (l[cY l k]'(fq h)).2:=by
 have e:l=l.take (cY l k)++(l[cY l k]'(fq h)::(l.drop (cY l k+1)++[])):=by rw[List.append_nil,←List.drop_eq_getElem_cons (fq h),List.take_append_drop]
 have hb:Below (l.take (cY l k)) k:=fun p hp=>by
  obtain⟨i,hi,rfl⟩:=List.getElem_of_mem hp
  rw[List.length_take] at hi
  rw[List.getElem_take]
  exact qJ (by omega)
 have:kN (l.take (cY l k)++(l[cY l k]'(fq h)::(l.drop (cY l k+1)++[]))) k=some (l[cY l k]'(fq h)).2:=by
  rw[kM,lh (l:=l.take _) (fun p hp=>lU (hb p hp)),Option.none_or]
  unfold kN
  rw[List.find?_cons_of_pos (by rw[nm h]; exact beq_self_eq_true k)]; rfl
 rw[←e] at this; exact this
theorem yK{l:List Pr}{k:Bs}(hs:df l)(h:dh l k=false):kN l k=none :=
 lh (fun p hp hk=>by rw[(hG hs).2 ⟨p,hp,hk⟩] at h; cases h)
theorem sY{l:List Pr}{k:Bs}(hs:df l):(kN l k).isSome=dh l k:=by
 cases h:dh l k with
 | true => rw [yL hs h]; rfl
 | false => rw [yK hs h]; rfl
theorem vK{a m b:List Pr}{k:Bs}(hs:df (a++(m++b)))(ha:Below a k)(hb:∀q∈b,ltB k q.1=true):dh (a++(m++b)) k=dh m k:=by
 have hm:df m:=hs.sublist ((List.sublist_append_left m b).trans (List.sublist_append_right a _))
 rw[←sY hs,←sY hm,vL ha hb]
end Go.Sac

end
section
namespace Go.Sac
open Go
def ri(c:Cn)(n:Nat):Cn:=match c with
 | .leaf ps => .leaf (ps.take n)
 | .br ks ids => .br (ks.take (n - 1)) (ids.take n)
def rV(c:Cn)(n:Nat):Bs:=match c with
 | .leaf ps => (ps.getD n ([], [])).1
 | .br ks _ => ks.getD (n - 1) []
def pe(c:Cn)(n:Nat):Cn:=match c with
 | .leaf ps => .leaf (ps.drop n)
 | .br ks ids => .br (ks.drop n) (ids.drop n)
def jt:Cn→Nat
 | .leaf ps => ps.length
 | .br _ ids => ids.length
def eG:Cn→Nat
 | .leaf _ => 1
 | .br _ _ => 2
def Aa(c:Cn)(n:Nat):Nat:=max (cnZ (ri c n)) (cnZ (pe c n))
def rk:Cn→Prop
 | .leaf ps => eM ps ∧ bM ps ≤ 694
 | .br ks ids => u4 ks ∧ ids.length = ks.length + 1 ∧ brZ ks ids ≤ 546
theorem tI(P:Nat→Prop)[DecidablePred P]:∀(k a:Nat),P a→¬P (a+k)→∃n,a≤n∧n<a+k∧P n∧¬P (n+1)
 | 0, _, h, h' => absurd h h'
 | k + 1, a, h, h' => by
  by_cases h1:P (a+1)
  ·obtain⟨n,q1,q2,q3,q4⟩:=tI P k (a+1) h1 (by rw[Nat.add_assoc,Nat.add_comm 1 k]; exact h')
   exact⟨n,by omega,by omega,q3,q4⟩
  ·exact⟨a,Nat.le_refl _,by omega,h,h1⟩
theorem gi(ps:List Pr)(n:Nat):bM (ps.take n)+bM (ps.drop n)=bM ps+3:=by
 have:=dt (ps.take n) (ps.drop n)
 rw[List.take_append_drop] at this; omega
theorem lV{ps:List Pr}{n:Nat}(h:n<ps.length):bM (ps.take (n+1))=bM (ps.take n)+(ps[n].1.length+ps[n].2.length+4):=by
 have h1:=dt (ps.take n) [ps[n]]
 rw[gh,List.take_append_getElem h] at h1
 omega
theorem iT{ks:List Bs}{n:Nat}(h:n<ks.length):cw (ks.take (n+1))=cw (ks.take n)+(ks[n].length+2):=by
 have h1:=fI (ks.take n) [ks[n]]
 rw[List.take_append_getElem h,gH] at h1
 simpa [cw] using h1
theorem gG(ks:List Bs)(n:Nat):cw (ks.take n)+cw (ks.drop n)=cw ks:=by
 have:=fI (ks.take n) (ks.drop n)
 rw[List.take_append_drop] at this; omega
theorem nW:∀ks:List Bs,2*ks.length≤cw ks
 | [] => Nat.zero_le _
 | a :: l => by rw [gH, List.length_cons]; have := nW l; omega
theorem A9{c:Cn}(h:rk c)(hz:480<cnZ c):∃n,eG c≤n∧n+eG c≤jt c∧Aa c n≤480:=by
 cases c with
 | leaf ps =>
  obtain⟨⟨h1,_⟩,h2⟩:=h
  have hz:480<bM ps:=hz
  have hl:=(nh ps h1).1
  have hlen:3≤ps.length:=by omega
  have hp:∀n (h:n<ps.length),(ps[n].1.length+ps[n].2.length+4)≤214:=fun n h=>by
   have:=h1 _ (List.getElem_mem h); omega
  obtain⟨n,q1,q2,q3,q4⟩:=tI (fun n=>bM (ps.take n)≤480) (ps.length-1) 1 (by
   have:=lV (ps:=ps) (n:=0) (by omega)
   have:=hp 0 (by omega)
   have:bM (ps.take 0)=3:=rfl
   show bM (ps.take (0+1))≤480
   omega) (by rw[show 1+(ps.length-1)=ps.length by omega,List.take_length]; omega)
  refine⟨n,q1,by show n+1≤ps.length; omega,Nat.max_le.2 ⟨q3,?_⟩⟩
  show bM (ps.drop n)≤480
  have e1:=gi ps n
  have e2:=lV (ps:=ps) (n:=n) (by omega)
  have e3:=hp n (by omega)
  omega
 | br ks ids =>
  obtain⟨⟨h1,_⟩,h2,h3⟩:=h
  have hz:480<3+4*ids.length+cw ks:=hz
  have h3:3+4*ids.length+cw ks≤546:=h3
  have hl:=(qT ks h1).1
  have hlen:9≤ids.length:=by omega
  have hp:∀n (h:n<ks.length),ks[n].length≤60:=fun n h=>(h1 _ (List.getElem_mem h)).2
  have ha:∀n,2≤n→n+2≤ids.length→cnZ (ri (.br ks ids) n)=3+4*n+cw (ks.take (n-1)):=fun n q1 q2=>by
   show 3+4*(ids.take n).length+_=_
   rw[List.length_take,Nat.min_eq_left (by omega)]
  have hb:∀n,2≤n→n+2≤ids.length→cnZ (pe (.br ks ids) n)=3+4*(ids.length-n)+cw (ks.drop n):=fun n q1 q2=>by
   show 3+4*(ids.drop n).length+_=_
   rw[List.length_drop]
  have hc:∀n (h:n-1<ks.length),1≤n→cw (ks.take (n-1))+(ks[n-1].length+2)+cw (ks.drop n)=cw ks:=fun n h h1=>by
   have e1:=iT h
   have e2:=gG ks n
   rw[show n-1+1=n by omega] at e1
   omega
  by_cases hend:3+4*(ids.length-2)+cw (ks.take (ids.length-2-1))≤480
  ·refine⟨ids.length-2,by show 2≤_; omega,by show _+2≤ids.length; omega,Nat.max_le.2 ⟨by rw[ha _ (by omega) (by omega)]; exact hend,?_⟩⟩
   rw[hb _ (by omega) (by omega)]
   have e1:ks.drop (ids.length-2)=[ks[ids.length-2]]:=by
    rw[List.drop_eq_getElem_cons (by omega),List.drop_of_length_le (by omega)]
   rw[e1,gH]
   have:=hp (ids.length-2) (by omega)
   have:cw []=0:=rfl
   omega
  ·obtain⟨n,q1,q2,q3,q4⟩:=tI (fun n=>3+4*n+cw (ks.take (n-1))≤480) (ids.length-4) 2 (by
    have e1:=iT (ks:=ks) (n:=0) (by omega)
    have:=hp 0 (by omega)
    have:cw (ks.take 0)=0:=rfl
    show 3+4*2+cw (ks.take (0+1))≤480
    omega) (by rw[show 2+(ids.length-4)=ids.length-2 by omega]; exact hend)
   refine⟨n,q1,by show n+2≤ids.length; omega,Nat.max_le.2 ⟨by rw[ha n q1 (by omega)]; exact q3,?_⟩⟩
   rw[hb n q1 (by omega)]
   have e1:=iT (ks:=ks) (n:=n-1) (by omega)
   have e2:=hc n (by omega) (by omega)
   have e3:=hp (n-1) (by omega)
   rw[show n-1+1=n by omega] at e1
   have q4':¬(3+4*(n+1)+cw (ks.take n)≤480):=q4
   omega
theorem CT.cuts{V:UInt32→Bs}:∀{d:Nat} {c:Cn} {pg:List UInt32} {m:List Pr} {n:Nat},CT V d c pg m→eG c≤n→n+eG c≤jt c →
  ∃pg1 pg2 m1 m2,pg=pg1++pg2∧m=m1++m2∧CT V d (ri c n) pg1 m1∧CT V d (pe c n) pg2 m2∧m1≠[]∧m2≠[]∧Below m1 (rV c n)∧Above m2 (rV c n)∧jv (rV c n)∧gJ (ri c n)∧gJ (pe c n)
 | 0, .br _ _, _, _, _, h, _, _ => h.elim
 | _ + 1, .leaf _, _, _, _, h, _, _ => h.elim
 | 0, .leaf ps, pg, m, n, ⟨h1, h2, h3⟩, hn, hm => by
  subst h1; subst h2
  have hn:1≤n:=hn
  have hm:n+1≤ps.length:=hm
  have hk:rV (.leaf ps) n=ps[n].1:=by
   show(ps.getD n ([],[])).1=_
   rw[List.getD_eq_getElem?_getD,List.getElem?_eq_getElem (by omega)]; rfl
  have hpl:∀p∈ps.take n,∃i,∃h:i<n,p=ps[i]:=fun p hp=>by
   obtain⟨i,hi,rfl⟩:=List.getElem_of_mem hp
   rw[List.length_take] at hi
   exact⟨i,by omega,by rw[List.getElem_take]⟩
  refine⟨[],[],ps.take n,ps.drop n,rfl,(List.take_append_drop _ _).symm,⟨rfl,rfl,fun p hp=>h3.1 p (List.mem_of_mem_take hp),h3.2.sublist (List.take_sublist _ _)⟩,⟨rfl,rfl,fun p hp=>h3.1 p (List.mem_of_mem_drop hp),h3.2.sublist (List.drop_sublist _ _)⟩,?_,?_,?_,?_,?_,trivial,trivial⟩
  ·intro e; have:=congrArg List.length e; rw[List.length_take,List.length_nil] at this; omega
  ·intro e; have:=congrArg List.length e; rw[List.length_drop,List.length_nil] at this; omega
  ·rw[hk]; intro p hp
   obtain⟨i,hi,rfl⟩:=hpl p hp
   exact List.pairwise_iff_getElem.1 h3.2 i n (by omega) (by omega) hi
  ·rw[hk]; intro p hp
   obtain⟨i,hi,rfl⟩:=List.getElem_of_mem hp
   rw[List.length_drop] at hi
   rw[List.getElem_drop]
   cases i with
   | zero => exact fz _
   | succ i => exact gg (List.pairwise_iff_getElem.1 h3.2 n (n + (i + 1)) (by omega) (by omega) (by omega))
  ·rw[hk]; exact(h3.1 _ (List.getElem_mem (by omega))).1
 | d + 1, .br ks ids, pg, m, n, ⟨ts, h1, h2, h3, h4, h5, h6⟩, hn, hm => by
  subst h1; subst h3; subst h4
  have hn:2≤n:=hn
  have hm:n+2≤(aT ts).length:=hm
  rw[aT,List.length_map] at hm
  have hlen:=h5.len
  rw[msT,List.length_map] at hlen
  have hk:rV (.br ks (aT ts)) n=ks[n-1]:=by
   show ks.getD (n-1) []=_
   rw[List.getD_eq_getElem?_getD,List.getElem?_eq_getElem (by omega)]; rfl
  have hks:ks=ks.take (n-1)++ks[n-1]::ks.drop n:=by
   have:=List.drop_eq_getElem_cons (l:=ks) (i:=n-1) (by omega)
   rw[show n-1+1=n by omega] at this
   rw[←this,List.take_append_drop]
  have hts:ts.take n++ts.drop n=ts:=List.take_append_drop _ _
  have hkey:=h2.1 _ (List.getElem_mem (l:=ks) (n:=n-1) (by omega))
  obtain⟨k0,hk0⟩:∃k0,k0=ks[n-1]:=⟨_,rfl⟩
  rw[←hk0] at hk hks hkey
  have hsc:il (ks.take (n-1)++k0::ks.drop n):=by rw[←hks]; exact h2.2
  have h5':Seps (ks.take (n-1)++k0::ks.drop n) (msT (ts.take n)++msT (ts.drop n)):=by rw[←hks,←fa,hts]; exact h5
  obtain⟨q1,q2,q3,q4⟩:=Seps.cut (by rw[msT,List.length_map,List.length_take,List.length_take]; omega) hsc h5'
  have h6':KidsT V d (ts.take n)∧KidsT V d (ts.drop n):=KidsT.app.1 (by rw[hts]; exact h6)
  rw[gY] at q3 q4
  have hne:∀l:List Kd,KidsT V d l→l≠[]→prT l≠[]:=fun l hl hn e=>by
   cases l with
   | nil => exact hn rfl
   | cons t l =>
    rw[eB] at e
    exact(hl t List.mem_cons_self).2 (List.append_eq_nil_iff.1 e).1
  refine⟨pgT (ts.take n),pgT (ts.drop n),prT (ts.take n),prT (ts.drop n),by rw[←dy,List.take_append_drop],by rw[←eF,List.take_append_drop],
   ⟨ts.take n,by unfold aT; rw[List.map_take],⟨fun k hk=>h2.1 k (List.mem_of_mem_take hk),h2.2.sublist (List.take_sublist _ _)⟩,rfl,rfl,q1,h6'.1⟩,
   ⟨ts.drop n,by unfold aT; rw[List.map_drop],⟨fun k hk=>h2.1 k (List.mem_of_mem_drop hk),h2.2.sublist (List.drop_sublist _ _)⟩,rfl,rfl,q2,h6'.2⟩,
   hne _ h6'.1 (fun e=>by have:=congrArg List.length e; rw[List.length_take,List.length_nil] at this; omega),hne _ h6'.2 (fun e=>by have:=congrArg List.length e; rw[List.length_drop,List.length_nil] at this; omega),
   by rw[hk]; exact q3,by rw[hk]; exact q4,by rw[hk]; exact hkey,?_,?_⟩
  ·intro e; have:=congrArg List.length e; rw[List.length_take,List.length_nil] at this; omega
  ·intro e; have:=congrArg List.length e; rw[List.length_drop,List.length_nil] at this; omega
theorem CT.ok{V:UInt32→Bs}:∀{d:Nat} {c:Cn} {pg:List UInt32} {m:List Pr},CT V d c pg m→(cnZ c≤546∨(∃ps,c = .leaf ps)∧cnZ c≤694)→rk c
 | 0, .leaf _, _, _, ⟨h1, _, h3⟩, hz => by
  subst h1
  refine⟨h3,?_⟩
  rcases hz with hz | ⟨_,hz⟩
  ·exact Nat.le_trans hz (by decide)
  ·exact hz
 | 0, .br _ _, _, _, h, _ => h.elim
 | _ + 1, .leaf _, _, _, h, _ => h.elim
 | _ + 1, .br ks _, _, _, ⟨ts, h1, h2, _, _, h5, _⟩, hz => by
  subst h1
  have:=h5.len
  rw[msT,List.length_map] at this
  refine⟨h2,by rw[aT,List.length_map]; exact this,?_⟩
  rcases hz with hz | ⟨⟨_,h⟩,_⟩
  ·exact hz
  ·cases h
theorem zH{l:List Pr}{p:Pr}(hs:df l):bM (eh l p)≤bM l+(p.1.length+p.2.length+4):=by
 have hone:=gh p
 cases h:dh l p.1 with
 | true =>
  unfold eh
  rw[o9 _ hs,oc _ hs,h]
  have h1:=dt (l.take (cY l p.1)) ([p]++l.drop (cY l p.1+true.toNat))
  have h2:=dt [p] (l.drop (cY l p.1+true.toNat))
  have h3:=gi l (cY l p.1)
  have h4:=gi (l.drop (cY l p.1)) 1
  have h5:bM ((l.drop (cY l p.1)).take 1)≥3:=by unfold bM; omega
  rw[List.drop_drop] at h4
  rw[List.singleton_append] at h1 h2
  simp only[Bool.toNat_true] at h1 h2 ⊢
  omega
 | false =>
  rw[kD hs h]
  have h1:=dt (l.take (cY l p.1)) ([p]++l.drop (cY l p.1))
  have h2:=dt [p] (l.drop (cY l p.1))
  have h3:=gi l (cY l p.1)
  rw[List.singleton_append] at h1 h2
  omega
theorem A7(l:List Pr)(k:Bs):bM (fO l k)≤bM l:=by
 unfold fO
 induction l with
 | nil => exact Nat.le_refl _
 | cons a l ih =>
  have h1:=dt [a] l
  rw[List.singleton_append,gh] at h1
  rw[List.filter_cons]
  split
  ·have h2:=dt [a] (l.filter fun q => !(q.1==k))
   rw[List.singleton_append,gh] at h2
   omega
  ·omega
theorem Cy(K1 K2:List Bs)(a b:List UInt32)(i j:UInt32):brZ (K1++K2) (a++i::b)=brZ (K1++K2) (a++j::b):=by
 unfold brZ; simp
theorem tl(K1 K2:List Bs)(a b:List UInt32)(i j l:UInt32)(k:Bs):brZ (K1++k::K2) (a++i::l::b)=brZ (K1++K2) (a++j::b)+6+k.length:=by
 unfold brZ
 rw[fI,fI,gH]
 simp only[List.length_append,List.length_cons]; omega
theorem CT.lone{V:UInt32→Bs}{d:Nat}{ids:List UInt32}{pg:List UInt32}{m:List Pr}(h:CT V d (.br [] ids) pg m):∃d' id,d=d'+1∧ids=[id]∧isT V d' id pg m:=by
 cases d with
 | zero => exact h.elim
 | succ d =>
  obtain⟨ts,rfl,h2,rfl,rfl,h5,h6⟩:=h
  have:=h5.len
  rw[msT,List.length_map] at this
  match ts,this with
  | [t], _ => exact ⟨d, t.1, rfl, rfl, by rw [dO, eB]; simp only [pgT, prT, List.flatMap_nil, List.append_nil]; exact (h6 t List.mem_cons_self).1⟩
theorem Hole.top(V:UInt32→Bs)(d:Nat)(m:List Pr):Hole V d [] [] [] [] m :=
 ⟨⟨fun _ h=>by simp at h,List.Pairwise.nil⟩,rfl,trivial,fun _ h=>by simp at h,fun _ h=>by simp at h⟩
end Go.Sac

end
section
namespace Go.Sac
open Go
instance:Flat Bs:=⟨1,fun s=>[str s],fun _=>rfl,fun s v h=>by simp at h; subst h; rfl⟩
instance:Flat Pr:=⟨2,fun p=>[str p.1,str p.2],fun _=>rfl,fun s v h=>by
 simp only[List.mem_cons,List.not_mem_nil,or_false] at h
 rcases h with rfl | rfl <;> rfl⟩
section
variable {P:Program}{E:Env}{w:World}{ty t u:TypeId}{x y:Operand}{a b:Bs}
theorem nV(a b:Bs):Op.bytesLess (⟨a.toArray⟩:ByteArray).toList (⟨b.toArray⟩:ByteArray).toList=ltB a b:=by
 simp only[ByteArray.toList_eq]
theorem wI(hx:ev E x=str a)(hy:ev E y=str b):exec P E (.binOp .lss t x y u) ty w = .ok (.value (.bool (ltB a b))) w:=by
 rw[lD,hx,hy]; refine aU ?_; simp[eqGuard,binOp,Op.stringOp,nV]
theorem pS(hx:ev E x=str a)(hy:ev E y=str b):exec P E (.binOp .geq t x y u) ty w = .ok (.value (.bool (!ltB a b))) w:=by
 rw[lD,hx,hy]; refine aU ?_; simp[eqGuard,binOp,Op.stringOp,nV]
def vD(a b:Bs):Bs:=if ltB a b=true then b else a
theorem x_maxS{d d':TypeId}(hx:ev E x=str a)(hy:ev E y=str b):exec P E (.call { callee := .builtin .max,args:=#[x,y],argTypes:=#[d,d'] }) ty w = .ok (.value (str (vD a b))) w:=by
 rw[rh]; refine aU ?_
 cases h:ltB a b <;> simp[Builtin.max_,Builtin.max2,hx,hy,Op.stringOp,asBool,nV,vD,h]
end
end Go.Sac

end
section
namespace Go.Sac
open Go
section
variable {P:Program}{E:Env}{w:World}{ty t t':TypeId}{x y c:Operand}
theorem tP{f : FuncId}{args : Array Value}{fn : Func}(hf : P.funcs[f]? = some fn)(hn : (fn.name == "runtime.NumGoroutine") = false)(hb : fn.body.isNone = false) : (callFunc f args).run P w = .ok (.enter f args) w := by
 have hb':fn.body≠none:=by intro h; rw[h] at hb; simp at hb
 have hn' : fn.name ≠ "runtime.NumGoroutine" := by intro h; rw [h] at hn; simp at hn
 unfold callFunc
 rw[an (show program.run P w = .ok P w from rfl)]
 simp only[hf]
 rw[if_neg (by simpa using hn'),if_neg (by simpa using hb')]
 rfl
theorem mr{f : FuncId}{cs : List Value}{args : List Operand}{ats : Array TypeId}{fn : Func}(hc : ev E c = .func (.func f) #[] cs.toArray)(hf : P.funcs[f]? = some fn)(hn : (fn.name == "runtime.NumGoroutine") = false)(hb : fn.body.isNone = false) :
  exec P E (.call { callee := .value c,args:=args.toArray,argTypes:=ats }) ty w = .ok (.enter f (args.map (ev E)++cs).toArray) w:=by
 show(do let d ←Deferred.ofValue (ev E c) (args.toArray.map (ev E)); invoke d.target d.args).run P w=_
 rw[hc]
 have:=tP (w:=w) (args:=(args.map (ev E)++cs).toArray) hf hn hb
 simpa [Deferred.ofValue,invoke] using this
theorem yb{f : FuncId}{fn : Func}{e : Array Value → Sem Value}{args : List Operand}{ats : Array TypeId}{v : Value}{w' : World}(hf : P.funcs[f]? = some fn)(hn : (fn.name == "runtime.NumGoroutine") = false)
  (hb:fn.body.isNone=true) (h1:Extern.findNext fn=none) (he:Extern.find fn=some e) (h:(e (args.map (ev E)).toArray).run P w = .ok v w') :
  exec P E (.call { callee := .value (.func f),args:=args.toArray,argTypes:=ats }) ty w = .ok (.value v) w':=by
 show(do let d ←Deferred.ofValue (.func (.func f) #[] #[]) (args.toArray.map (ev E)); invoke d.target d.args).run P w=_
 have h2:=run_callFunc_extern hf hn hb h1 he (args.map (ev E)).toArray w
 rw[h] at h2
 simpa [Deferred.ofValue,invoke] using h2
def wq(a b:Bs):Int:=Lib.compareBytes a b
theorem z7(a b:Bs):wq a b<0↔ltB a b=true:=by
 unfold wq
 induction a generalizing b with
 | nil => cases b <;> simp [Lib.compareBytes, Op.bytesLess]
 | cons x a ih =>
  cases b with
  | nil => simp [Lib.compareBytes, Op.bytesLess]
  | cons y b =>
   rw[na]
   unfold Lib.compareBytes
   split
   ·rename_i h; simp[h]
   ·split
    ·rename_i h1 h2
     have:¬x<y:=fun h=>by
      have:=UInt8.lt_iff_toNat_lt.1 h
      have:=UInt8.lt_iff_toNat_lt.1 h2
      omega
     have h3:x≠y:=fun e=>by subst e; exact UInt8.lt_irrefl _ h2
     simp[this,h3]
    ·rename_i h1 h2
     have:x=y:=UInt8.le_antisymm (UInt8.not_lt.1 h2) (UInt8.not_lt.1 h1)
     subst this
     rw[ih]; simp[UInt8.lt_irrefl]
theorem cmpB_eq(a b:Bs):wq a b=0↔a=b:=by
 unfold wq
 induction a generalizing b with
 | nil => cases b <;> simp [Lib.compareBytes]
 | cons x a ih =>
  cases b with
  | nil => simp [Lib.compareBytes]
  | cons y b =>
   unfold Lib.compareBytes
   split
   ·rename_i h
    have h3:x≠y:=fun e=>by subst e; exact UInt8.lt_irrefl _ h
    simp[h3]
   ·split
    ·rename_i h1 h2
     have h3:x≠y:=fun e=>by subst e; exact UInt8.lt_irrefl _ h2
     simp[h3]
    ·rename_i h1 h2
     have:x=y:=UInt8.le_antisymm (UInt8.not_lt.1 h2) (UInt8.not_lt.1 h1)
     subst this
     rw[ih]; simp
theorem fw{d e:TypeId}{p:Option Addr}{l cp:Nat}(hx:ev E x = .slice p l cp)(ht:P.underlying d=some (.slice e)):exec P E (.call { callee := .builtin .cap,args:=#[x],argTypes:=#[d] }) ty w = .ok (.value (.int .i64 cp)) w:=by
 rw[rh]; refine aU ?_; simp[Builtin.cap_,hx,run_underlying ht,goInt]
end
section
variable {α:Type}[Flat α]{P:Program}{E:Env}{w:World}{ty t t':TypeId}{x y lo hi mx:Operand}
theorem sq{e:TypeId}{i:TypeInfo}{z:Value}{v:Value}{o:Operand}(a:α)(ht:P.underlying t=some (.slice e))(hi:P.info? e=some i)(hz:i.zero=some z)(hsz:i.size=Flat.sz α)(hzs:z.cells.size=Flat.sz α)(hx:ev E o=v)(hv:v.cells.toList=Flat.enc a)(hb:Flat.sz α≤16777216) :
  ∃v' w',exec P E (.buildSlice t 1 #[(0,o)]) ty w = .ok (.value v') w'∧∃b,v' = .slice (some ⟨b,0,none⟩) 1 1∧Blk w' b (Flat.enc a)∧w.heap.size≤b∧Chg [] w w'∧b<w'.heap.size:=by
 refine⟨.slice (some ⟨w.heap.size,0,none⟩) 1 1,w.pushB (.cells (Flat.enc a).toArray e),?_,w.heap.size,rfl,⟨e,eA _ _⟩,Nat.le_refl _,Chg.push _ _,by rw[eE]; omega⟩
 rw[nz]
 refine aU ?_
 unfold Instr.buildSlice
 rw[an (run_underlying ht w)]
 simp only[]
 rw[an (bE hi w),hsz,if_neg (by omega)]
 have hps:((#[(0,o)]:Array (Nat×Operand)).map fun(i,x)=>(i,ev E x)).toList=([v].zipIdx).map fun x=>(x.2,x.1):=by simp[hx]
 have hcells:∀u∈[v],u.cells.size=Flat.sz α:=fun u hu=>by
  rw[List.mem_singleton] at hu; subst hu
  have:=congrArg List.length hv
  rw[Flat.len] at this; simpa using this
 have hsize:∀zero:Array Value,((Array.range (1*Flat.sz α)).map (zero[· % zero.size]!)).size=1*Flat.sz α:=by intro zero; simp
 have hflat:[v].flatMap (fun v=>v.cells.toList)=Flat.enc a:=by simp[hv]
 by_cases h0:1*Flat.sz α=0
 ·rw[if_pos h0]
  simp only[pure_bind]
  rw[hps,nu [v] _ 0 hcells (by rw[hsize]; simp)]
  simp only[Nat.zero_mul]
  rw[jI (by rw[hsize,hflat,Flat.len]; omega),hflat]; rfl
 ·rw[if_neg h0,an (cD hi hz w)]
  simp only[pure_bind]
  rw[hps,nu [v] _ 0 hcells (by rw[hsize]; simp)]
  simp only[Nat.zero_mul]
  rw[jI (by rw[hsize,hflat,Flat.len]; omega),hflat]; rfl
theorem add0(p:Option Addr):p.map (·.add 0)=p:=by
 cases p with
 | none => rfl
 | some a => obtain ⟨b, o, s⟩ := a; rfl
theorem nI(n:Nat){e:TypeId}{i:TypeInfo}{p:Option Addr}{l cap:Nat}{k:IntKind}{j:Int}(ht:P.underlying t=some (.slice e))(hi':P.info? e=some i)(hx:ev E x = .slice p l cap)(hl:ev E hi = .int k j)(hn:j=n)(hj:n≤cap) :
  exec P E (.slice t x none (some hi) none) ty w = .ok (.value (.slice p n cap)) w:=by
 subst hn
 rw[uD ht hi' hx hl (by omega),add0]
 simp
theorem oU(n:Nat){e:TypeId}{i:TypeInfo}{b off l cap:Nat}{k:IntKind}{j:Int}(ht:P.underlying t=some (.slice e))(hi:P.info? e=some i)(hx:ev E x = .slice (some ⟨b,off,none⟩) l cap)(hl:ev E lo = .int k j)(hn:j=n)(hj:n≤l)(hc:n<cap) :
  exec P E (.slice t x (some lo) none none) ty w = .ok (.value (.slice (some ⟨b,off+n*i.size,none⟩) (l-n) (cap-n))) w:=by
 subst hn
 rw[mq ht hi hx hl (by omega),if_neg (by simp; omega)]
 simp[dQ]
theorem wL{e:TypeId}{i:TypeInfo}{p:Option Addr}{l cap:Nat}{k k' k2:IntKind}{j j' j2:Int}(ht:P.underlying t=some (.slice e))(hi':P.info? e=some i)(hx:ev E x = .slice p l cap)(hl:ev E lo = .int k j)(hh:ev E hi = .int k' j')(hm:ev E mx = .int k2 j2)
  (hj:0≤j∧j≤j') (hj':0≤j'∧j'≤j2) (hj2:0≤j2∧j2≤cap) :
  ∃v',(∀w',exec P E (.slice t x (some lo) (some hi) (some mx)) ty w' = .ok (.value v') w')∧True:=by
 refine⟨.slice (if j2.toNat=j.toNat then p else p.map (·.add (j.toNat*i.size))) (j'.toNat-j.toNat) (j2.toNat-j.toNat),fun w=>?_,trivial⟩
 rw[je,hx]
 refine aU ?_
 rw[fx ht]
 unfold Instr.slice Instr.sliceBounds
 rw[an (run_underlying ht w)]
 simp only[Option.map_some,hl,hm,hh,bind_assoc,if_true]
 rw[an (cM hj2)]
 rw[an (cM (by omega))]
 rw[an (cM (by omega))]
 simp only[pure_bind]
 rw[an (bE hi' w)]
 rfl
theorem wE(n q:Nat){e:TypeId}{i:TypeInfo}{p:Option Addr}{l cap:Nat}{k k':IntKind}{j j':Int}(ht:P.underlying t=some (.slice e))(hi':P.info? e=some i)(hx:ev E x = .slice p l cap)(hl:ev E lo = .int k j)(hh:ev E hi = .int k' j')(hn:j=n)(hq:j'=n+q)(hc:n+q≤cap) :
  exec P E (.slice t x (some lo) (some hi) none) ty w = .ok (.value (.slice (if cap=n then p else p.map (·.add (n*i.size))) q (cap-n))) w:=by
 subst hn hq
 rw[pV ht hi' hx hl hh (by omega) (by omega)]
 simp
 congr 2
 omega
theorem Own.front{p:Option Addr}{n cap:Nat}{l:List α}(h:Own w (.slice p l.length cap) l)(hn:n≤l.length):Own w (.slice p n cap) (l.take n):=by
 obtain⟨p',cap',he,hc,h⟩:=h
 cases he
 refine⟨p,cap,by rw[List.length_take,Nat.min_eq_left hn],by rw[List.length_take]; omega,?_⟩
 cases p with
 | none =>
  obtain⟨h1,h2⟩:=h
  subst h1
  exact⟨by simp,h2⟩
 | some a =>
  obtain⟨h1,c,e,fr,h2,h3,h4,h5⟩:=h
  refine⟨h1,c,e,fr,h2,h3,h4,fun i x hx=>h5 i x ?_⟩
  rw[←fi] at hx
  rw[List.getElem?_take] at hx
  split at hx
  ·exact hx
  ·cases hx
theorem AR{e:TypeId}{i:TypeInfo}{d:TypeDesc}{p:Option Addr}{cap:Nat}{vy:Value}{l m:List α}(ht:P.underlying t=some (.slice e))(ht':P.underlying t'=some d)(hd:d = .string∨∃e',d = .slice e')
  (hi:P.info? e=some i) (hsz:i.size=Flat.sz α) (hl:Own w (.slice p l.length cap) l) (hm:Src α P w vy m) (hx:ev E x = .slice p l.length cap) (hy:ev E y=vy) (hc:l.length+m.length≤cap) :
  ∃w',exec P E (.call { callee := .builtin .append,args:=#[x,y],argTypes:=#[t,t'] }) ty w = .ok (.value (.slice p (l.length+m.length) cap)) w'∧Own w' (.slice p (l.length+m.length) cap) (l++m)∧Chg (ar (.slice p l.length cap)) w w'∧w'.heap.size=w.heap.size:=by
 have key:∃w',(Builtin.append_ #[t,t'] ty #[.slice p l.length cap,vy]).run P w = .ok (.slice p (l.length+m.length) cap) w'∧Own w' (.slice p (l.length+m.length) cap) (l++m)∧Chg (ar (.slice p l.length cap)) w w'∧w'.heap.size=w.heap.size:=by
  obtain⟨p',cap',he,hlc,hp⟩:=hl
  cases he
  unfold Builtin.append_
  simp only[List.getElem?_toArray,List.getElem?_cons_zero,List.getElem?_cons_succ]
  rw[an (run_underlying ht w)]
  simp only[]
  rw[an (bE hi w)]
  rw[an (run_underlying ht' w)]
  rcases hd with rfl | ⟨e',rfl⟩
  all_goals
   simp only[pure_bind,Bool.false_eq_true,if_false,Bool.not_false,if_true]
   rw[an hm.1,if_pos hc]
   have hfirst:=hm.2 w rfl m.length (Nat.le_refl _)
   rw[List.take_length,←hsz] at hfirst
   rw[an hfirst]
   cases p with
   | none =>
    obtain⟨rfl,rfl⟩:=hp
    have hm0:m=[]:=List.eq_nil_of_length_eq_zero (by simpa using hc)
    subst hm0
    exact⟨w,rfl,⟨none,0,rfl,Nat.zero_le _,rfl,rfl⟩,Chg.refl' _ _,rfl⟩
   | some a =>
    obtain⟨b,off,sp⟩:=a
    obtain⟨h1,c,ee,fr,h2,h3,h4,h5⟩:=hp
    simp only at h1 h2 h4 h5; subst h1
    have hlen:(aV m).length=m.length*Flat.sz α:=aK m
    have hroom:off+l.length*Flat.sz α+(aV m).length≤c.size:=by
     rw[hlen]
     have:l.length*Flat.sz α+m.length*Flat.sz α≤cap*Flat.sz α:=by rw[←Nat.add_mul]; exact Nat.mul_le_mul_right _ hc
     omega
    simp only[dQ,hsz]
    rw[an (dL _ h2 (by simpa using hroom) h3 (by simpa using eT m))]
    refine⟨_,rfl,⟨some ⟨b,off,none⟩,cap,by rw[List.length_append],by simpa using hc,rfl,_,ee,fr,dq (bH h2),h3.size (bU _ _ _),by rw[bU]; exact h4,?_⟩,?_,cU _ _ _⟩
    ·intro k q hk
     rw[cS] at hk
     simp only at hk ⊢
     by_cases hkl:k<(aV l).length
     ·rw[List.getElem?_append_left hkl] at hk
      rw[aK] at hkl
      exact mS (by simpa using hroom) (h5 k q hk) (by omega)
     ·rw[List.getElem?_append_right (by omega)] at hk
      rw[aK] at hkl hk
      have:=qF (c:=c) (off:=off+l.length*Flat.sz α) (vs:=(aV m).toArray.toList) (by simpa using hroom) (by simpa using hk)
      rw[show off+l.length*Flat.sz α+(k-l.length*Flat.sz α)=off+k from by omega] at this
      exact this
    ·exact(Chg.set _ _ _).mono (fun b hb _=>by simpa [ar] using hb)
 obtain⟨w',h1,h2⟩:=key
 refine⟨w',?_,h2⟩
 rw[nA,hx,hy]
 exact aU h1
theorem tC{e:TypeId}{i:TypeInfo}{d:TypeDesc}{p:Option Addr}{cap n q:Nat}{vy:Value}{l m:List α}(ht:P.underlying t=some (.slice e))(ht':P.underlying t'=some d)(hd:d = .string∨∃e',d = .slice e')
  (hi:P.info? e=some i) (hsz:i.size=Flat.sz α) (hn:l.length=n) (hq:m.length=q) (hl:Own w (.slice p n cap) l) (hm:Src α P w vy m) (hx:ev E x = .slice p n cap) (hy:ev E y=vy) (hc:n+q≤cap) :
  ∃v' w',exec P E (.call { callee := .builtin .append,args:=#[x,y],argTypes:=#[t,t'] }) ty w = .ok (.value v') w'∧v' = .slice p (n+q) cap∧Own w' (.slice p (n+q) cap) (l++m)∧Chg (ar (.slice p n cap)) w w'∧w'.heap.size=w.heap.size:=by
 subst hn hq
 obtain⟨w',h1,h2⟩:=AR (ty:=ty) ht ht' hd hi hsz hl hm hx hy hc
 exact⟨_,w',h1,rfl,h2⟩
theorem lq{z:Value}{z0:α}(hz:z.cells.toList=Flat.enc z0)(n:Nat):(Builtin.zeroCells z.cells n).toList=aV (List.replicate n z0):=by
 have hs:z.cells.size=Flat.sz α:=by have:=congrArg List.length hz; rw[Flat.len] at this; simpa using this
 by_cases hp:0<z.cells.toList.length
 ·have h:=uv hp n
  have e:z.cells.toList.toArray=z.cells:=by simp
  rw[e] at h
  unfold Builtin.zeroCells
  rw[show n*z.cells.size=n*z.cells.toList.length by simp,h,hz,aV,List.flatMap_def,List.map_replicate]
 ·have h0:Flat.sz α=0:=by rw[←hs]; simp at hp; simpa using hp
  have h1:=aK (List.replicate n z0)
  rw[h0,Nat.mul_zero] at h1
  rw[List.eq_nil_of_length_eq_zero h1]
  unfold Builtin.zeroCells
  rw[hs,h0]; simp
theorem mA{e:TypeId}{i:TypeInfo}{z:Value}{k:IntKind}{p:Option Addr}{cap n:Nat}{l:List α}{j:Int}(m:Nat)(z0:α)(ht:P.underlying t=some (.slice e))(ht':P.underlying t'=some (.int k))(hi:P.info? e=some i)(hz:i.zero=some z)(hze:z.cells.toList=Flat.enc z0)(hsz:i.size=Flat.sz α)
  (hby:i.bytes≤1024) (hn:l.length=n) (hl:Sl w (.slice p n cap) l) (hx:ev E x = .slice p n cap) (hy:ev E y = .int .i64 j) (hj:j=m) (hb:n+m≤1073741824) (hc:cap<n+m) :
  ∃v' w',exec P E (.call { callee := .builtin .append,args:=#[x,y],argTypes:=#[t,t'] }) ty w = .ok (.value v') w'∧Own w' v' (l++List.replicate m z0)∧Chg [] w w'∧In v' [] w.heap.size:=by
 subst hj hn
 have hzs:z.cells.size=Flat.sz α:=by have:=congrArg List.length hze; rw[Flat.len] at this; simpa using this
 have key:∃v' w',(Builtin.append_ #[t,t'] ty #[.slice p l.length cap,.int .i64 m]).run P w = .ok v' w'∧Own w' v' (l++List.replicate m z0)∧Chg [] w w'∧In v' [] w.heap.size:=by
  unfold Builtin.append_
  simp only[List.getElem?_toArray,List.getElem?_cons_zero,List.getElem?_cons_succ]
  rw[an (run_underlying ht w)]
  simp only[]
  rw[an (bE hi w)]
  rw[an (run_underlying ht' w)]
  have happ:∀w':World,(if m*i.size=0 then (pure #[]:Sem (Array Value)) else do pure (Builtin.zeroCells (←zeroValue e).cells m)).run P w' = .ok (aV (List.replicate m z0)).toArray w':=fun w'=>by
   by_cases h0:m*i.size=0
   ·rw[if_pos h0]
    have h1:=aK (List.replicate m z0)
    rw[List.length_replicate,←hsz,h0] at h1
    rw[List.eq_nil_of_length_eq_zero h1]; rfl
   ·rw[if_neg h0,an (cD hi hz w'),←lq hze m]; rfl
  simp only[pure_bind,bind_assoc,if_true,Bool.not_true,Bool.false_eq_true,if_false]
  have ha:(asInt (.int .i64 (m:Int))).run P w = .ok (m:Int) w:=rfl
  rw[an ha,gU (by omega)]
  rw[if_neg (by omega)]
  rw[an (cJ hi w)]
  have hnb0:¬((m:Int)*(i.bytes:Int) > 2 ^ 48):=by
   have:m*i.bytes≤1073741824*1024:=Nat.mul_le_mul (by omega) hby
   have h2:((m*i.bytes:Nat):Int)≤1073741824*1024:=by omega
   rw[Int.natCast_mul] at h2
   omega
  rw[if_neg hnb0]
  simp only[pure_bind,Int.toNat_natCast]
  rw[if_neg (by omega)]
  have hov:¬((l.length+m:Nat):Int) > IntKind.i64.max:=by
   have:IntKind.i64.max=9223372036854775807:=by decide
   omega
  rw[an (cJ hi w),if_neg (by intro h; exact absurd h.1 hov),an (cJ hi w)]
  have hnc:=lR (l.length+m) cap (by omega)
  have hnb:¬Builtin.nextslicecap (l.length+m) cap*i.bytes > 2 ^ 48:=by
   have:Builtin.nextslicecap (l.length+m) cap*i.bytes≤(4*1073741824+2000)*1024:=Nat.mul_le_mul (by omega) hby
   omega
  rw[if_neg hnb]
  obtain⟨nc,hnc1,hch⟩:=jG (P:=P) (w:=w) (need:=l.length+m) (cap:=cap) (e:=e)
  rw[an hch]
  rw[an (cJ hi _),an j9]
  have hf1:=((hl.heap (w':={ w with drawn:=w.drawn+1 }) rfl).first (P:=P) l.length (Nat.le_refl _))
  rw[List.take_length,←hsz] at hf1
  rw[an hf1]
  rw[an (happ _),an (cD hi hz _)]
  refine⟨.slice (some ⟨w.heap.size,0,none⟩) (l++List.replicate m z0).length nc,_,?_,mX (w:={ w with drawn:=w.drawn+1 }) (l:=l++List.replicate m z0) (e:=e) (rest:=Builtin.zeroCells z.cells (nc-(l.length+m))) (cap:=nc) (by simpa using hnc1) ?_,?_,?_⟩
  ·rw[List.length_append,List.length_replicate,cS]
   simp only[←List.append_toArray]
   rfl
  ·rw[iE,hzs,List.length_append,List.length_replicate]
  ·exact(Chg.push { w with drawn:=w.drawn+1 } _).mono (by simp)
  ·intro b hb; right; simp only[ar,List.mem_singleton] at hb; omega
 obtain⟨v',w',h1,h2⟩:=key
 refine⟨v',w',?_,h2⟩
 rw[nA,hx,hy]
 exact aU h1
theorem pX{e:TypeId}{i:TypeInfo}{z:Value}{p:Option Addr}{cap q c' n:Nat}{l:List α}(z0:α)(ht:P.underlying t=some (.slice e))(hi:P.info? e=some i)(hz:i.zero=some z)(hze:z.cells.toList=Flat.enc z0)(hsz:i.size=Flat.sz α)
  (hn:l.length=n) (hl:Own w (.slice p n cap) l) (hx:ev E x = .slice (if cap=n then p else p.map (·.add (n*i.size))) q c') (hq:n+q≤cap) :
  ∃w',exec P E (.call { callee := .builtin .clear,args:=#[x],argTypes:=#[t] }) ty w = .ok (.value (.tuple #[])) w'∧Own w' (.slice p n cap) l∧Chg (ar (.slice p n cap)) w w'∧w'.heap.size=w.heap.size:=by
 subst hn
 have e_clear:exec P E (.call { callee := .builtin .clear,args:=#[x],argTypes:=#[t] }) ty w=(gW (Builtin.clear_ #[t] ty #[ev E x])).run P w:=by
  rw[rh]; simp only[List.map_toArray,List.map_cons,List.map_nil]; rfl
 rw[e_clear,hx]
 by_cases h0:q=0
 ·subst h0
  refine⟨w,aU ?_,hl,Chg.refl' _ _,rfl⟩
  unfold Builtin.clear_
  simp only[List.getElem?_toArray,List.getElem?_cons_zero]
  rw[an (run_underlying ht w)]
  by_cases hcl:cap=l.length
  ·rw[if_pos hcl]; cases p <;> rfl
  ·rw[if_neg hcl]; cases p <;> rfl
 ·obtain⟨p',cap',he,hlc,hp⟩:=hl
  cases he
  cases p with
  | none => obtain ⟨rfl, rfl⟩ := hp; exact absurd hq (by simp; omega)
  | some a =>
   obtain⟨b,off,sp⟩:=a
   obtain⟨h1,c,ee,fr,h2,h3,h4,h5⟩:=hp
   simp only at h1 h2 h4 h5; subst h1
   have hlen:=aK (List.replicate q z0)
   rw[List.length_replicate] at hlen
   have hroom:off+l.length*Flat.sz α+(aV (List.replicate q z0)).length≤c.size:=by
    rw[hlen]
    have:l.length*Flat.sz α+q*Flat.sz α≤cap*Flat.sz α:=by rw[←Nat.add_mul]; exact Nat.mul_le_mul_right _ hq
    omega
   have hst:=dL (P:=P) (aV (List.replicate q z0)) h2 hroom h3 (eT _)
   refine⟨_,aU (w':=w.setB b (.cells (eP c (off+l.length*Flat.sz α) (aV (List.replicate q z0))) ee fr)) ?_,⟨some ⟨b,off,none⟩,cap,rfl,hlc,rfl,_,ee,fr,dq (bH h2),h3.size (bU _ _ _),by rw[bU]; exact h4,?_⟩,(Chg.set _ _ _).mono (fun b hb _=>by simpa [ar] using hb),cU _ _ _⟩
   ·rw[if_neg (by omega)]
    unfold Builtin.clear_
    simp only[List.getElem?_toArray,List.getElem?_cons_zero,Option.map_some]
    rw[an (run_underlying ht w)]
    cases q with
    | zero => exact absurd rfl h0
    | succ q =>
     simp only[dQ,hsz]
     rw[an (cD hi hz w),lq hze,an hst]
     rfl
   ·intro k x hk
    have:=(List.getElem?_eq_some_iff.1 hk).1
    rw[aK] at this
    exact mS hroom (h5 k x hk) (by simp only; omega)
def Row(w:World)(b:Nat)(c:Array Value):Prop:=∃e fr,w.heap[b]?=some (.cells c e fr)∧Soft c fr
theorem kV{e:TypeId}{i:TypeInfo}{b doff dl dcap b2 soff sl sc:Nat}{c:Array Value}{m:List α}(ht:P.underlying t=some (.slice e))(hi:P.info? e=some i)(hsz:i.size=Flat.sz α)(hx:ev E x = .slice (some ⟨b,doff,none⟩) dl dcap)(hy:ev E y = .slice (some ⟨b2,soff,none⟩) sl sc)
  (hm:min sl dl=m.length) (hs:At w b2 soff (aV m)) (hb:Row w b c) (hr:doff+m.length*Flat.sz α≤c.size) :
  ∃w',exec P E (.call { callee := .builtin .copy,args:=#[x,y],argTypes:=#[t,t'] }) ty w = .ok (.value (.int .i64 m.length)) w'∧Row w' b (eP c doff (aV m))∧Chg [b] w w'∧w'.heap.size=w.heap.size:=by
 obtain⟨be,fr,hb,hf⟩:=hb
 refine⟨w.setB b (.cells (eP c doff (aV m)) be fr),?_,⟨be,fr,dq (bH hb),hf.size (bU _ _ _)⟩,Chg.set _ _ _,cU _ _ _⟩
 rw[Cp,hx,hy]
 refine aU ?_
 unfold Builtin.copy_
 simp only[List.getElem?_toArray,List.getElem?_cons_zero,List.getElem?_cons_succ]
 rw[an (run_underlying ht w)]
 simp only[]
 have hmin:Nat.min sl dl=m.length:=hm
 have hfst:(Builtin.firstCells i.size (Nat.min sl dl) (.slice (some ⟨b2,soff,none⟩) sl sc)).run P w = .ok (aV m).toArray w:=by
  have:=fS (P:=P) hs
  rw[aK] at this
  rw[hmin,hsz]; exact this
 rw[an (zE (P:=P) (w:=w)),an (bE hi w),an hfst]
 rw[an (dL _ hb (by simp only[List.toList_toArray]; rw[aK]; exact hr) hf (by simpa using eT _)),hmin]
 rfl
theorem tY{b off cap:Nat}{l:List α}(h:Own w (.slice (some ⟨b,off,none⟩) l.length cap) l):∃c,Row w b c∧off+cap*Flat.sz α≤c.size∧∀i x,(aV l)[i]?=some x→c[off+i]?=some x:=by
 obtain⟨p,cp,he,_,h⟩:=h
 cases he
 obtain⟨_,c,e,fr,h2,h3,h4,h5⟩:=h
 exact⟨c,⟨e,fr,h2,h3⟩,h4,h5⟩
theorem Row.own{b off cap n:Nat}{c:Array Value}{l:List α}(h:Row w b c)(hn:n=l.length)(hc:l.length≤cap)(hs:off+cap*Flat.sz α≤c.size)(hl:∀i x,(aV l)[i]?=some x→c[off+i]?=some x):Own w (.slice (some ⟨b,off,none⟩) n cap) l:=by
 obtain⟨e,fr,h2,h3⟩:=h
 subst hn
 exact⟨_,cap,rfl,hc,rfl,c,e,fr,h2,h3,hs,hl⟩
theorem Row.at{b off:Nat}{c:Array Value}{l:List Value}(h:Row w b c)(hl:∀i x,l[i]?=some x→c[off+i]?=some x):At w b off l:=by
 obtain⟨e,fr,h2,_⟩:=h
 exact⟨c,e,fr,h2,hl⟩
theorem tT{c:Array Value}{off cap:Nat}{l:List α}{a:α}{i:Nat}(hi:i≤l.length)(hc:l.length+1≤cap)(hs:off+cap*Flat.sz α≤c.size)(hl:∀i x,(aV l)[i]?=some x→c[off+i]?=some x) :
  ∀q x,(aV (l.take i++a::l.drop i))[q]?=some x→(eP (eP c (off+(i+1)*Flat.sz α) (aV (l.drop i))) (off+i*Flat.sz α) (Flat.enc a))[off+q]?=some x:=by
 intro q x hq
 have hk:(i+1)*Flat.sz α=i*Flat.sz α+Flat.sz α:=Nat.succ_mul _ _
 have hdl:(aV (l.drop i)).length=(l.length-i)*Flat.sz α:=by rw[aK,List.length_drop]
 have hsum:(i+1)*Flat.sz α+(l.length-i)*Flat.sz α≤cap*Flat.sz α:=by rw[←Nat.add_mul]; exact Nat.mul_le_mul_right _ (by omega)
 have htl:(aV (l.take i)).length=i*Flat.sz α:=by rw[aK,List.length_take,Nat.min_eq_left hi]
 have hal:(Flat.enc a).length=Flat.sz α:=Flat.len a
 rw[cS,fJ] at hq
 rw[fU _ _ _ _ (by rw[bU,hal]; omega),fU _ _ _ _ (by rw[hdl]; omega),hal,hdl]
 by_cases h1:q<i*Flat.sz α
 ·rw[List.getElem?_append_left (by omega)] at hq
  rw[if_neg (by omega),if_neg (by omega)]
  refine hl q x ?_
  rw[←fi,List.getElem?_take,if_pos h1] at hq
  exact hq
 ·rw[List.getElem?_append_right (by omega),htl] at hq
  by_cases h2:q<(i+1)*Flat.sz α
  ·rw[List.getElem?_append_left (by omega)] at hq
   rw[if_pos (by omega),show off+q-(off+i*Flat.sz α)=q-i*Flat.sz α by omega]; exact hq
  ·rw[List.getElem?_append_right (by omega),hal] at hq
   have:=(List.getElem?_eq_some_iff.1 hq).1
   rw[if_neg (by omega),if_pos (by omega),show off+q-(off+(i+1)*Flat.sz α)=q-i*Flat.sz α-Flat.sz α by omega]; exact hq
theorem qx{e:TypeId}{i:TypeInfo}{b b2 off la ca lb cb:Nat}{t2:TypeId}{cs:List Value}(ht:P.underlying t=some (.slice e))(hi:P.info? e=some i)(hB:Blk w b cs)(hb:b<w.heap.size)(hne:b≠b2){c2:Array Value}(hR:Row w b2 c2)(h2:0<c2.size) :
  (Extern.SlicesOverlaps.overlaps #[t,t] #[t2] #[.slice (some ⟨b,0,none⟩) la ca,.slice (some ⟨b2,off,none⟩) lb cb]).run P w = .ok (.bool false) w:=by
 obtain⟨e1,hB⟩:=hB
 obtain⟨e2,fr,hR,_⟩:=hR
 obtain⟨kB,hkB⟩:∃kB,c2.size=kB+1:=⟨c2.size-1,by omega⟩
 have hsa:w.shape? b=some (e1,cs.length):=by unfold World.shape?; rw[hB]; simp
 have hsb:w.shape? b2=some (e2,kB+1):=by unfold World.shape?; rw[hR,←hkB]
 have hfr:∀o,w.frozen? ⟨b,o,none⟩=false:=fun o=>by unfold World.frozen?; simp only[hB]; simp
 have hz:(Go.sizeOf e).run P w = .ok i.size w:=bE hi w
 have hnb:(b != b2)=true:=by simpa using hne
 have hnb':(b==b2)=false:=by simpa using hne
 change Sem.run P (α:=Value) (do
  let some t := (#[t, t] : Array TypeId)[0]? | stuck "slices.overlaps: no parameter types"
  let .slice elem ← underlying t | stuck "slices.overlaps: slice type expected"
  let size ←sizeOf elem
  match (some ⟨b,0,none⟩:Option Addr),(some ⟨b2,off,none⟩:Option Addr) with
  | some a, some b =>
   if la=0∨lb=0∨size=0 then pure (Value.bool false)
   else if a.block != b.block&&(←frozen a)&&(←frozen b) then unsupported .addressObserved
   else do
    if a.block != b.block then do
     noView a; noView b
     if ← mayBeOne a b then return Value.bool ((← choose (.extern "sameAddr.stringBytes" 2)) == 1)
    pure (Value.bool (a.block==b.block&&a.off<b.off+lb*size&&b.off<a.off+la*size))
  | _, _ => pure (Value.bool false)) w = _
 by_cases h0:la=0∨lb=0∨i.size=0
 ·simp[Go.run_underlying ht,hz,h0]
 ·simp[Go.run_underlying ht,hz,h0,hnb,hnb',frozen,noView,viewAt,mayBeOne,stringish,shape,Sem.run,hsa,hsb,hfr]
end
end Go.Sac

end
section
namespace Go.Sac
open Go Go.ChangeShapes
theorem rE{H:Type}{enc:TypeId×Value→H}{P:Program}(hl:laidOutB P=true){W W':World}(hc:Chg [] W W') :
  ∀(ts:List TypeId) (vs:List Value) (ds:List (DataW H)) (ps:List MemPlace),ts.all (fun t=>P.readableRec t&&decide (t<P.types.size))=true →
   DataW.TrodAll enc P W 0 (fun _=>true) true ts vs ds ps→(∀p∈ps,p.block<W.heap.size)→DataW.TrodAll enc P W' 0 (fun b=>decide (b<W.heap.size)) true ts vs ds ps:=by
 intro ts
 induction ts with
 | nil => intro vs ds ps _ h _; cases vs <;> cases ds <;> first | exact h | exact h.elim
 | cons t ts ih =>
  intro vs ds ps hr h hlt
  obtain⟨v,vs',d,ds',p,q,rfl,rfl,rfl,h1,h2⟩:=trodAll_cons h
  simp only[List.all_cons,Bool.and_eq_true,decide_eq_true_eq] at hr
  have hp:∀x∈p,x.block<W.heap.size:=fun x hx=>hlt x (by simp[hx])
  refine⟨p,q,WideElems.Trod_stays hl hr.1.1 hr.1.2 h1 (fun x hx=>?_) (fun x hx=>by simpa using hp x hx),ih _ _ _ (by simpa using hr.2) h2 (fun x hx=>hlt x (by simp[hx])),rfl⟩
  have hb:=hp x hx
  cases x with
  | cell b o => exact World.cell?_of_block (w := W) (hc.2.1 b hb (by simp))
  | map b => exact hc.2.1 b hb (by simp)
theorem Chg.keptBut{W W':World}(hc:Chg [] W W')(may:MemPlace→Prop):W.keptBut W' may:=by
 refine⟨hc.2.2.1,hc.2.2.2,fun i hi=>?_⟩
 have h:=hc.2.1 i hi (by simp)
 rw[h]
 split
 ·rename_i h1 h2
  rw[h1] at h2
  simp only[Option.some.injEq,Obj.cells.injEq] at h2
  obtain⟨rfl,rfl,rfl⟩:=h2
  exact⟨rfl,rfl,rfl,fun _ _=>rfl⟩
 ·rename_i h1 h2
  rw[h1] at h2
  simp only[Option.some.injEq,Obj.map.injEq] at h2
  exact .inr ⟨h2.1.symm,h2.2.symm⟩
 ·rfl
theorem zY{H:Type}{enc:TypeId×Value→H}{P:Program}{f:FuncId}{fn:Func}{s:ChangeSpec}{apart:Bool}{W:World}{args:Array Value}{ds gs:List (DataW H)}{before:List MemPlace}{bt:TypeId}
  (hl:laidOutB P=true) (hr:fn.params.toList.all (fun t=>P.readableRec t&&decide (t<P.types.size))=true) (hrt:fn.resultTypes=#[bt]) (hbt:P.underlying bt=some .bool) (hv:s.vars=[])
  (hs:s.fn H (ds++gs)={ results:=[.lit (.bool true)],args:=ds }) (hW:DataW.Whole enc P fn.params.toList s.vars apart W args.toList ds gs before)
  (hc:Ret P f args W fun v W'=>v = .bool true∧Chg [] W W') :
  Calls P f args W fun e W'=>∃v,e = .returned v∧s.post enc P fn apart true false false W args v W':=by
 refine Calls.mono hc ?_
 rintro e W' ⟨v,rfl,rfl,hch⟩
 have hlt:=hW.lt
 obtain⟨p,q,hA,hV,rfl,hz,hn⟩:=id hW
 rw[hv] at hV
 obtain⟨rfl,rfl⟩:=trodVars_none hV
 have hA':=rE hl hch _ _ _ _ hr hA (fun x hx=>hlt x (by simp[hx]))
 refine⟨_,rfl,ds,[],p++[],[],p,[],hW,?_,?_,?_,hch.keptBut _,fun h=>by cases h⟩
 ·rw[hs,hrt]
  refine⟨[],[],⟨1,?_⟩,rfl,rfl⟩
  simp[Value.cells,DataW.trod,hbt]
 ·rw[hs]; exact hA'
 ·rw[hs,hv]; rfl
def RdF(P:Program)(t:TypeId)(α:Type)[Flat α](ok:World→α→Prop):Prop :=
 ∀{H:Type} {enc:TypeId×Value→H} {w:World} {base:Nat} {sp:Nat→Bool} {held:Bool} {fuel:Nat} {cs:List Value} {x:DataW H×List MemPlace},
  DataW.trod enc P w base sp held fuel t cs=some x→∃a:α,cs=Flat.enc a∧ok w a
def okI(_:World)(n:Int):Prop := -9223372036854775808≤n∧n<9223372036854775808
def okT{α:Type}(_:World)(_:α):Prop:=True
end Go.Sac

end
section
namespace Go.Sac
open Go Go.ChangeShapes
abbrev gb:={ v:Value // ∃p n c,v = .slice p n c }
instance:Flat gb:=⟨1,fun v=>[v.1],fun _=>rfl,fun v x h=>by
 simp only[List.mem_singleton] at h; subst h
 obtain⟨v,p,n,c,rfl⟩:=v; rfl⟩
structure StepV where
 what:Int
 i:Int
 kek:UInt8
 key:UInt8
 power:Int
 ch:gb
instance:Flat StepV:=⟨6,fun s=>[.int .i64 s.what,.int .i64 s.i,.int .u8 s.kek.toNat,.int .u8 s.key.toNat,.int .i64 s.power,s.ch.1],fun _=>rfl,fun s x h=>by
 obtain⟨a,b,c,d,e,v,p,n,c',rfl⟩:=s
 simp only[List.mem_cons,List.not_mem_nil,or_false] at h
 rcases h with rfl | rfl | rfl | rfl | rfl | rfl <;> rfl⟩
def step0:StepV:=⟨0,0,0,0,0,⟨.slice none 0 0,_,_,_,rfl⟩⟩
def okStep(w:World)(s:StepV):Prop:=okI w s.what∧okI w s.i∧okI w s.power∧∃l:List UInt8,SlE w s.ch.1 l
theorem tZ{P:Program}{H:Type}{enc:TypeId×Value→H}{W:World}{base b0:Nat}{r:Reach}{t:TypeId}{v:Value}{d:DataW H}{ps:List MemPlace}{sp:Nat→Bool}{held:Bool}
  (ht:P.underlying t=some (.int .u8)) (hval:Value.okWide P W r b0 t v) (hd:DataW.Trod enc P W base sp held t v d ps):∃a:UInt8,v = .int .u8 a.toNat:=by
 obtain⟨n,rfl,_,_,hw⟩:=open_int ht hval hd
 have hw:0≤n∧n≤255:=by
  simp only[Lit.wf,Bool.and_eq_true,decide_eq_true_eq] at hw
  exact hw
 refine⟨UInt8.ofNat n.toNat,?_⟩
 rw[UInt8.toNat_ofNat']
 congr 1
 omega
theorem arr_of{args:Array Value}{l:List Value}(h:args.toList=l):args=l.toArray:=by subst h; rfl
end Go.Sac

end
section
namespace Go.Sac
open Go
structure MPg where
 used:Bool
 fresh:Bool
 written:Bool
 was:Bool
 b:List UInt8
deriving DecidableEq
instance:Flat MPg:=⟨5,fun p=>[.bool p.used,.bool p.fresh,.bool p.written,.bool p.was,str p.b],fun _=>rfl,fun s x h=>by
 simp only[List.mem_cons,List.not_mem_nil,or_false] at h
 rcases h with rfl | rfl | rfl | rfl | rfl <;> rfl⟩
def pg0:MPg:=⟨false,false,false,false,[]⟩
structure Mdl where
 p:List MPg
 old:List MPg
 root:UInt32
 oldRoot:UInt32
 txt:List UInt8
 oldTxt:List UInt8
def Mdl.zero(n:Nat):Mdl:=⟨List.replicate n pg0,List.replicate n pg0,0,0,[],[]⟩
def mdC(M:Mdl)(pv ov:Value):List Value:=[pv,ov,.int .u32 M.root.toNat,.int .u32 M.oldRoot.toNat,str M.txt,str M.oldTxt]
def MF(mb:Nat)(pv ov:Value):List Nat:=mb::(ar pv++ar ov)
structure MAt(w:World)(mb:Nat)(pv ov:Value)(M:Mdl):Prop where
 blk:Blk w mb (mdC M pv ov)
 p:Own w pv M.p
 old:Own w ov M.old
 np:mb∉ar pv
 no:mb∉ar ov
 apart:∀x∈ar pv,x∉ar ov
section
variable {w w':World}{mb:Nat}{pv ov:Value}{M:Mdl}
theorem MAt.chg{S:List Nat}(h:MAt w mb pv ov M)(hm:Chg S w w')(hn:∀x∈MF mb pv ov,x∉S):MAt w' mb pv ov M :=
 ⟨h.blk.chg hm (hn mb (by simp[MF])),h.p.mod hm (fun x hx=>hn x (by simp[MF,hx])),h.old.mod hm (fun x hx=>hn x (by simp[MF,hx])),h.np,h.no,h.apart⟩
theorem MAt.chg0(h:MAt w mb pv ov M)(hm:Chg [] w w'):MAt w' mb pv ov M:=h.chg hm (by simp)
theorem MAt.lt(h:MAt w mb pv ov M):∀x∈MF mb pv ov,x<w.heap.size:=by
 intro x hx
 simp only[MF,List.mem_cons,List.mem_append] at hx
 rcases hx with rfl | hx | hx
 ·exact h.blk.lt
 ·exact h.p.sl.lt x hx
 ·exact h.old.sl.lt x hx
end
def k39:List UInt8:=0::0::0::9::List.replicate 28 0
end Go.Sac

end
section
namespace Go.Sac
open Go
def upU(i:Nat):PgF:=fun j=>decide (j.toNat<i)
end Go.Sac

end
section
namespace Go.Sac
open Go
theorem nT{α:Type}[DecidableEq α]:∀l m:List α,l.Nodup→(∀x∈l,x∈m)→l.length≤m.length
 | [], _, _, _ => Nat.zero_le _
 | a :: l, m, hn, h => by
  have hn':=List.nodup_cons.1 hn
  have h1:=nT l (m.erase a) hn'.2 (fun x hx=>(List.mem_erase_of_ne (fun e=>by subst e; exact hn'.1 hx)).2 (h x (List.mem_cons_of_mem _ hx)))
  have hm:=h a List.mem_cons_self
  have h2:=List.length_pos_of_mem hm
  rw[List.length_erase_of_mem hm] at h1
  rw[List.length_cons]; omega
structure Ext(n:Nat)(P P':Pg)(V V':UInt32→Bs)(made:List UInt32):Prop where
 used:P'.now.used=fun x=>made.elem x||P.now.used x
 writ:P'.now.written=fun x=>made.elem x||P.now.written x
 new:∀x∈made,P.free x=true∧x.toNat<n
 nodup:made.Nodup
 kept:P'.kept=P.kept
 at_:P'.at_=P.at_
 old:∀x,P.now.written x=true→V' x=V x
section
variable {n:Nat}{P P' P'':Pg}{V V' V'':UInt32→Bs}{made more:List UInt32}
theorem Ext.refl(n:Nat)(P:Pg)(V:UInt32→Bs):Ext n P P V V [] :=
 ⟨by funext x; rfl,by funext x; rfl,fun x h=>by simp at h,List.nodup_nil,rfl,rfl,fun _ _=>rfl⟩
theorem Ext.trans(h:Ext n P P' V V' made)(h':Ext n P' P'' V' V'' more):Ext n P P'' V V'' (made++more):=by
 have hfree:∀x,P'.free x=true→P.free x=true∧x∉made:=fun x hx=>by
  unfold Pg.free at hx ⊢
  rw[h.used,h.kept] at hx
  simp only[Bool.and_eq_true,Bool.not_eq_true',Bool.or_eq_false_iff] at hx
  refine⟨by rw[hx.1.2,hx.2]; rfl,fun hm=>?_⟩
  rw[List.elem_eq_true_of_mem hm] at hx; exact absurd hx.1.1 (by simp)
 refine⟨?_,?_,fun x hx=>?_,?_,h'.kept.trans h.kept,h'.at_.trans h.at_,fun x hx=>?_⟩
 ·rw[h'.used,h.used]; funext x
  have:(made++more).elem x=(made.elem x||more.elem x):=by simp[List.elem_eq_mem]
  show(more.elem x||(made.elem x||_))=_
  rw[this,Bool.or_assoc,Bool.or_left_comm]
 ·rw[h'.writ,h.writ]; funext x
  have:(made++more).elem x=(made.elem x||more.elem x):=by simp[List.elem_eq_mem]
  show(more.elem x||(made.elem x||_))=_
  rw[this,Bool.or_assoc,Bool.or_left_comm]
 ·rcases List.mem_append.1 hx with hx | hx
  ·exact h.new x hx
  ·exact⟨(hfree x (h'.new x hx).1).1,(h'.new x hx).2⟩
 ·rw[List.nodup_append]
  exact⟨h.nodup,h'.nodup,fun a ha b hb e=>by subst e; exact(hfree a (h'.new a hb).1).2 ha⟩
 ·rw[h'.old x (by rw[h.writ]; simp only[hx,Bool.or_true]),h.old x hx]
theorem Ext.one{i:UInt32}{l:Bs}{cnt:UInt32}{g:UInt32→Option UInt64}(hf:P.free i=true)(hi:i.toNat<n)(hw:P.now.written i=false) :
  Ext n P { P with count:=cnt,now:={ P.now with used:=cO P.now.used i,written:=cO P.now.written i },gens:=g } V (rG V i l) [i]:=by
 refine⟨?_,?_,fun x hx=>?_,List.nodup_cons.2 ⟨by simp,List.nodup_nil⟩,rfl,rfl,fun x hx=>?_⟩
 ·funext x
  show(decide (x=i)||P.now.used x)=_
  simp[List.elem_eq_mem]
 ·funext x
  show(decide (x=i)||P.now.written x)=_
  simp[List.elem_eq_mem]
 ·rw[List.mem_singleton] at hx; subst hx; exact⟨hf,hi⟩
 ·unfold rG
  rw[if_neg (fun e=>by subst e; rw[hw] at hx; cases hx)]
theorem Ext.mem(h:Ext n P P' V V' made){x:UInt32}(hx:x∈made):P'.now.used x=true∧P'.now.written x=true:=by
 rw[h.used,h.writ]
 have h0:=List.elem_eq_true_of_mem hx
 exact⟨by show(made.elem x||_)=true; rw[h0]; rfl,by show(made.elem x||_)=true; rw[h0]; rfl⟩
theorem Ext.wr(h:Ext n P P' V V' made){x:UInt32}(hx:P.now.written x=true):P'.now.written x=true:=by rw[h.writ]; simp[hx]
theorem Ext.us(h:Ext n P P' V V' made){x:UInt32}(hx:P.now.used x=true):P'.now.used x=true:=by rw[h.used]; simp[hx]
theorem Ext.free(h:Ext n P P' V V' made){x:UInt32}:P'.free x=true↔P.free x=true∧x∉made:=by
 rw[free_iff,free_iff,h.used,h.kept]
 simp only[Bool.or_eq_false_iff]
 constructor
 ·rintro⟨⟨h1,h2⟩,h3⟩
  exact⟨⟨h2,h3⟩,fun hm=>by rw[List.elem_eq_true_of_mem hm] at h1; cases h1⟩
 ·rintro⟨⟨h1,h2⟩,h3⟩
  exact⟨⟨by simpa [List.elem_eq_mem] using h3,h1⟩,h2⟩
theorem Ext.fresh(h:Ext n P P' V V' made){x:UInt32}:P'.fresh x=true↔x∈made∨P.fresh x=true:=by
 rw[fresh_iff,fresh_iff,h.used,h.kept]
 constructor
 ·rintro⟨h1,h2⟩
  simp only[Bool.or_eq_true] at h1
  rcases h1 with h1 | h1
  ·exact .inl (List.mem_of_elem_eq_true h1)
  ·exact .inr ⟨h1,h2⟩
 ·rintro(h1 | ⟨h1,h2⟩)
  ·exact⟨by show(made.elem x||_)=true; rw[List.elem_eq_true_of_mem h1]; rfl,(free_iff.1 (h.new x h1).1).2⟩
  ·exact⟨by simp[h1],h2⟩
theorem Ext.undo(h:Ext n P P' V V' made)(hw:∀x,P.now.written x=true→P.now.used x=true)(hu:P''.now.used=fun x => !made.elem x&&P'.now.used x)(hwr:P''.now.written=fun x => !made.elem x&&P'.now.written x)(hk:P''.kept=P'.kept)(ha:P''.at_=P'.at_):Ext n P P'' V V' []:=by
 have hm:∀x,made.elem x=true→P.now.used x=false:=fun x hx=>(free_iff.1 (h.new x (List.mem_of_elem_eq_true hx)).1).1
 refine⟨?_,?_,fun x hx=>by simp at hx,List.nodup_nil,hk.trans h.kept,ha.trans h.at_,h.old⟩
 ·rw[hu,h.used]; funext x
  show(!made.elem x&&(made.elem x||P.now.used x))=P.now.used x
  cases hx:made.elem x with
  | false => rfl
  | true => rw [hm x hx]; rfl
 ·rw[hwr,h.writ]; funext x
  show(!made.elem x&&(made.elem x||P.now.written x))=P.now.written x
  cases hx:made.elem x with
  | false => rfl
  | true =>
   cases hq:P.now.written x with
   | false => rfl
   | true => have h1 := hm x hx; rw [hw x hq] at h1; cases h1
theorem Ext.room(h:Ext n P P' V V' made)(hn:n≤400)(h0:∀j,j<n→P'.free (UInt32.ofNat j)=false):dN P n≤made.length:=by
 have hsub:∀i∈(List.range n).filter (fun i=>P.free (UInt32.ofNat i)),i∈made.map (·.toNat):=fun i hi=>by
  rw[List.mem_filter,List.mem_range] at hi
  have h1:=h0 i hi.1
  by_cases hm:UInt32.ofNat i∈made
  ·refine List.mem_map.2 ⟨_,hm,?_⟩
   rw[UInt32.toNat_ofNat']; omega
  ·rw[h.free.2 ⟨hi.2,hm⟩] at h1; cases h1
 have hnd:((List.range n).filter fun i=>P.free (UInt32.ofNat i)).Nodup:=List.nodup_range.filter _
 have:=nT _ _ hnd hsub
 rwa [List.length_map] at this
end
end Go.Sac

end
section
namespace Go.Sac
open Go
structure Sp where
 lo:Bs
 hi:Bs
 fin:Bool
def Sp.has(s:Sp)(k:Bs):Bool := !ltB k s.lo&&(!s.fin||ltB k s.hi)
def Sp.emp(s:Sp):Bool:=s.fin && !ltB s.lo s.hi
def Sp.kid(s:Sp)(ks:List Bs)(i:Nat):Sp :=
 let lo:=if 0<i then vD s.lo (ks.getD (i-1) []) else s.lo
 if i<ks.length∧(s.fin=false∨ltB (ks.getD i []) s.hi=true) then ⟨lo,ks.getD i [],true⟩ else ⟨lo,s.hi,s.fin⟩
def ey(s:Sp)(m:List Pr):List Pr:=m.filter fun p=>s.has p.1
theorem maxB_le{a b k:Bs}(h1:ltB k a=false)(h2:ltB k b=false):ltB k (vD a b)=false:=by
 unfold vD; split <;> assumption
theorem Sp.kid_has{s:Sp}{ks:List Bs}{i:Nat}{k:Bs}(h:s.has k=true)(h1:0<i→ltB k (ks.getD (i-1) [])=false)(h2:i<ks.length→ltB k (ks.getD i [])=true):(s.kid ks i).has k=true:=by
 unfold Sp.has at h
 simp only[Bool.and_eq_true,Bool.not_eq_true',Bool.or_eq_true] at h
 have hlo:ltB k (if 0<i then vD s.lo (ks.getD (i-1) []) else s.lo)=false:=by
  split
  ·rename_i hi; exact maxB_le h.1 (h1 hi)
  ·exact h.1
 unfold Sp.kid
 simp only
 split
 ·rename_i hc
  unfold Sp.has
  simp only[hlo,h2 hc.1,Bool.not_false,Bool.true_and,Bool.or_true]
 ·unfold Sp.has
  simp only[hlo,Bool.not_false,Bool.true_and,Bool.or_eq_true,Bool.not_eq_true']
  exact h.2
theorem Sp.emp_has{s:Sp}{k:Bs}(h:s.emp=true):s.has k=false:=by
 unfold Sp.emp at h
 simp only[Bool.and_eq_true,Bool.not_eq_true'] at h
 cases hh:s.has k with
 | false => rfl
 | true =>
  unfold Sp.has at hh
  rw[h.1] at hh
  simp only[Bool.and_eq_true,Bool.not_eq_true',Bool.not_true,Bool.false_or] at hh
  rw[kL hh.1 hh.2] at h; cases h.2
theorem Bg{s:Sp}{m:List Pr}(h:∀p∈m,s.has p.1=false):ey s m=[]:=hH h
theorem mP(s:Sp)(a b:List Pr):ey s (a++b)=ey s a++ey s b:=List.filter_append ..
theorem sD{α:Type}(o a b:List α)(k:Nat):o++a.take (k-o.length)++b.take (k-(o++a.take (k-o.length)).length)=o++(a++b).take (k-o.length):=by
 rw[List.append_assoc,List.take_append,List.length_append,List.length_take]
 congr 2
 congr 1
 omega
theorem sE{α:Type}(o a:List α)(k:Nat)(h:k≤o.length):o++a.take (k-o.length)=o:=by
 rw[Nat.sub_eq_zero_of_le h,List.take_zero,List.append_nil]
theorem Seps.kid{x:List Pr}:∀{ks:List Bs} {ms:List (List Pr)} {i:Nat},Seps ks ms→ms[i]?=some x→(∀j,j<i→∀p∈x,ltB p.1 (ks.getD j [])=false)∧(i<ks.length→∀p∈x,ltB p.1 (ks.getD i [])=true)
 | [], [m], i, _, hx => by
  cases i with
  | zero => exact ⟨fun j hj => by omega, fun h => by simp at h⟩
  | succ i => simp at hx
 | [], [], _, h, _ => h.elim
 | [], _ :: _ :: _, _, h, _ => h.elim
 | _ :: _, [], _, h, _ => h.elim
 | k :: ks, m :: ms, 0, h, hx => by
  have hx:m=x:=Option.some.inj hx
  subst hx
  exact⟨fun j hj=>by omega,fun _ p hp=>h.1 p hp⟩
 | k :: ks, m :: ms, i + 1, h, hx => by
  have hx:ms[i]?=some x:=hx
  obtain⟨q1,q2⟩:=Seps.kid h.2.2 hx
  refine⟨fun j hj p hp=>?_,fun hi p hp=>q2 (by simpa using hi) p hp⟩
  cases j with
  | zero => exact h.2.1 p (List.mem_flatten.2 ⟨x, List.mem_of_getElem? hx, hp⟩)
  | succ j => exact q1 j (by omega) p hp
theorem Seps.key_has{s:Sp}:∀{ks:List Bs} {ms:List (List Pr)},Seps ks ms→(∀m∈ms,m≠[])→(∀p∈ms.flatten,s.has p.1=true)→∀k∈ks,s.has k=true
 | [], _, _, _, _ => fun k hk => by simp at hk
 | _ :: _, [], h, _, _ => h.elim
 | k :: ks, m :: ms, h, hn, hp => fun c hc => by
  have hp':∀p∈ms.flatten,s.has p.1=true:=fun p hq=>hp p (by rw[List.flatten_cons]; exact List.mem_append_right _ hq)
  rcases List.mem_cons.1 hc with rfl | hc
  ·obtain⟨p1,h1⟩:=List.exists_mem_of_ne_nil _ (hn m List.mem_cons_self)
   have hl:=h.2.2.len
   obtain⟨m2,ms',rfl⟩:∃m2 ms',ms=m2::ms':=by
    cases ms with
    | nil => simp at hl
    | cons a b => exact ⟨a, b, rfl⟩
   obtain⟨p2,h2⟩:=List.exists_mem_of_ne_nil _ (hn m2 (by simp))
   have q1:=hp p1 (by rw[List.flatten_cons]; exact List.mem_append_left _ h1)
   have q2:=hp' p2 (by rw[List.flatten_cons]; exact List.mem_append_left _ h2)
   have r1:=h.1 p1 h1
   have r2:=h.2.1 p2 (by rw[List.flatten_cons]; exact List.mem_append_left _ h2)
   unfold Sp.has at q1 q2 ⊢
   simp only[Bool.and_eq_true,Bool.not_eq_true',Bool.or_eq_true] at q1 q2 ⊢
   refine⟨?_,q2.2.imp id (fun q=>kL r2 q)⟩
   cases hh:ltB c s.lo with
   | false => rfl
   | true => rw [dA r1 hh] at q1; cases q1.1
  ·exact Seps.key_has h.2.2 (fun x hx=>hn x (List.mem_cons_of_mem _ hx)) hp' c hc
end Go.Sac

end
