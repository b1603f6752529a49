/- Opened as often as one likes, by whatever key it was made, it is as it was; made anew it is empty. It holds for every input; there are no conditions. -/
import Derived.Test.YtpbfapbajmdlkaaGreatSac0
import Derived.Shelf.SlIterI.Nil
import Derived.Shelf.SortM.Plain
import Derived.Shelf.SortM.SortNone
import Derived.Shelf.SlMaps.Clone
import Derived.Laws.Externs
import Derived.Lib.Bytealg
import Derived.ProofKit
import Derived.OpenShut
namespace Go.Sac
open Go
def Blk(w:World)(b:Nat)(cs:List Value):Prop:=∃e,w.heap[b]?=some (.cells cs.toArray e (0,0))
section
variable {w w':World}{b:Nat}{cs:List Value}{S:List Nat}
theorem Blk.chg(h:Blk w b cs)(hm:Chg S w w')(hn:b∉S):Blk w' b cs:=by
 obtain⟨e,h⟩:=h;exact⟨e,hm.blk h hn⟩
theorem Blk.chg0(h:Blk w b cs)(hm:Chg [] w w'):Blk w' b cs:=h.chg hm (by simp)
theorem Blk.nb{c:Nat}(h:Blk w b cs)(hm:Chg [c] w w')(hn:b≠c):Blk w' b cs:=h.chg hm (by simpa using hn)
theorem Blk.heap(h:Blk w b cs)(hh:Hp w' w):Blk w' b cs:=h.chg0 (Chg.heap hh)
theorem Blk.lt(h:Blk w b cs):b<w.heap.size:=by
 obtain⟨e,h⟩:=h;exact cG h
theorem Blk.c(h:Blk w b cs){off:Nat}{v:Value}(hv:cs[off]?=some v):w.cell? ⟨b,off,none⟩=some v:=by
 obtain⟨e,h⟩:=h;exact cell_of h (by simpa using hv)
theorem Blk.at(h:Blk w b cs){off:Nat}{l:List Value}(hl:(cs.drop off).take l.length=l):At w b off l:=by
 obtain⟨e,h⟩:=h;exact At.of_blk' h (by simpa using hl)
theorem Arr.blk{α:Type}[Flat α]{l:List α}(h:Arr w b l):Blk w b (bl l):=h
variable {P:Program}{E:Env}{ty t:TypeId}{x y:Operand}
theorem Gj{d:TypeDesc}{i:TypeInfo}{off:Nat}(l:List Value)(ht:P.underlying t=some d)(hd:iu d=true)(hi:P.info? t=some i)(hx:ev E x=.pointer (some ⟨b,off,none⟩))(h:Blk w b cs)(hl:(cs.drop off).take l.length=l)(hs:i.size=l.length) :
  exec P E (.load t x) ty w=.ok (.value (.agg l.toArray)) w:=cK ht hd hi hx (h.at hl) hs
theorem y9(c:List Value)(off:Nat)(vs:List Value)(h:off+vs.length<=c.length):gn c.toArray off vs=(spl c off vs).toArray:=by
 apply G9;intro j;rw[iT _ _ _ _ (by simpa using h)];simp only[spl,mI];by_cases h1:j<off
 ·rw[if_neg (by omega),bP,iK (by rw[bz];omega),ki,if_pos h1]
 ·by_cases h2:j<off+vs.length
  ·rw[if_pos (by omega),iK (by rw[aF,bz];omega),fY (by rw[bz];omega),bz,ey (by omega)]
  ·rw[if_neg (by omega),fY (by rw[aF,bz];omega),aF,bz,kZ,ey (by omega)];congr 1;omega
theorem cH{i:TypeInfo}{off:Nat}{v:Value}{l cs':List Value}(hi:P.info? t=some i)(hx:ev E x=.pointer (some ⟨b,off,none⟩))(hy:ev E y=v)(hb:Blk w b cs)(hv:v.cells.toList=l)(hs:i.size=l.length)(ho:off+l.length<=cs.length)(hc:∀q∈l,fI q=true)(hr:spl cs off l=cs') :
  ∃w1,exec P E (.store t x y) ty w=.ok .skip w1/\Blk w1 b cs'/\Chg [b] w w1/\w1.heap.size=w.heap.size:=by
 obtain⟨e,hb⟩:=hb;subst hv hr;have hsz:v.cells.size=v.cells.toList.length:=by simp
 have h1:=uu (ty:=ty) hi hx hy (by rw[hsz,hs]) hb (by rw[hsz,oJ];exact ho) (jc _) hc;refine⟨_,h1,⟨e,?_⟩,Chg.set _ _ _,dS _ _ _⟩;rw[eB (cG hb),y9 _ _ _ ho]
theorem bJ{i:TypeInfo}{off:Nat}{v:Value}{cs':List Value}(hi:P.info? t=some i)(hx:ev E x=.pointer (some ⟨b,off,none⟩))(hy:ev E y=v)(hb:Blk w b cs)(hv:v.cells.toList=[v])(hs:i.size=1)(ho:off<cs.length)(hc:fI v=true)(hr:spl cs off [v]=cs') :
  ∃w1,exec P E (.store t x y) ty w=.ok .skip w1/\Blk w1 b cs'/\Chg [b] w w1/\w1.heap.size=w.heap.size :=
 cH hi hx hy hb hv hs (by simp only[gB];omega) (by simpa using hc) hr
theorem dt{i:TypeInfo}{z:Value}{l:List Value}(hi:P.info? t=some i)(hz:i.zero=some z)(hl:z.cells=l.toArray) :
  ∃v w1,exec P E (.alloc t) ty w=.ok (.value v) w1/\∃b,v=.pointer (some ⟨b,0,none⟩)/\w.heap.size<=b/\Blk w1 b l/\Chg [] w w1/\b<w1.heap.size :=
 ⟨_,_,zp hi hz,_,rfl,aM _,⟨t,by rw[<-hl];exact fS _ _⟩,Chg.push _ _,by rw[g8];omega⟩
theorem cZ{v:Value}{l:List Value}(hx:ev E x=v)(hl:v.cells=l.toArray) :
  ∃v w1,exec P E (.box t x) ty w=.ok (.value v) w1/\∃b,v=.pointer (some ⟨b,0,none⟩)/\w.heap.size<=b/\Blk w1 b l/\Chg [] w w1/\b<w1.heap.size :=
 ⟨_,_,x_box hx,_,rfl,aM _,⟨t,by rw[<-hl];exact fS _ _⟩,Chg.push _ _,by rw[g8];omega⟩
theorem eb{place:Nat->Option (Nat×Nat)}{cs cs':List Value}(h:cs=cs'):Instr.fill place cs.toArray []=some cs'.toArray:=by subst h;rfl
theorem bR{place:Nat->Option (Nat×Nat)}{cs l:List Value}{i off size:Nat}{v:Value}{rest:List (Nat×Value)}{r:Option (Array Value)}(hp:place i=some (off,size))(hv:v.cells.toList=l)(hl:l.length=size)(ho:off+size<=cs.length)
  (h:Instr.fill place (spl cs off l).toArray rest=r):Instr.fill place cs.toArray ((i,v)::rest)=r:=by
 subst hv;have hsz:v.cells.size=size:=by rw[<-hl];simp
 rw[yw hp hsz (by simpa using ho),y9 _ _ _ (by rw[hl];exact ho),h]
theorem bW{fs:List Field}{i:TypeInfo}{z:Value}{ps:List (Nat×Operand)}{cs zs:List Value}(ht:P.underlying t=some (.struct fs.toArray))(hi:P.info? t=some i)(hz:i.zero=some z)(hzs:z.cells=zs.toArray)(hfs:fs.all (λf=>(P.info? f.type).isSome)=true)
  (hf:Instr.fill ((fs.map λf=>(f.offset,P.cellsOf f.type)).toArray[·]?) zs.toArray (ps.map λp=>(p.1,ev E p.2))=some cs.toArray):exec P E (.build t ps.toArray) ty w=.ok (.value (.agg cs.toArray)) w:=by
 refine Gn ht hi hz hfs ?_;rw[uJ,ze,hzs];exact hf
theorem In.nil{S:List Nat}{n l c:Nat}:In (.slice none l c) S n:=λb hb=>by simp[ay] at hb
theorem zl{α:Type}[Flat α](vs:List Value)(l:List α){e:TypeId}{i:TypeInfo}{z:Value}{n:Nat}{ps:List (Nat×Operand)}(ht:P.underlying t=some (.slice e))(hi:P.info? e=some i)(hz:i.zero=some z)(hsz:i.size=Flat.sz α)(hzs:z.cells.size=Flat.sz α)
  (hps:(ps.map λp=>(p.1,ev E p.2))=vs.zipIdx.map λx=>(x.2,x.1)) (hv:vs.map (λv=>v.cells.toList)=l.map Flat.enc) (hn:l.length=n) (hb:n*Flat.sz α<=16777216) :
  ∃v' w',exec P E (.buildSlice t n ps.toArray) ty w=.ok (.value v') w'/\Own w' v' l/\Chg [] w w'/\In v' [] w.heap.size:=by
 obtain⟨v',h1,h2,h3⟩:=qT (ty:=ty) (w:=w) (ps:=ps.toArray) vs l ht hi hz hsz hzs (by rw[uJ,ze];exact hps) hv hn hb;exact⟨v',_,h1,h2,Chg.push _ _,h3⟩
theorem Own.form{α:Type}[Flat α]{w:World}{v:Value}{l:List α}(h:Own w v l){n:Nat}(hn:l.length=n):∃p c,v=.slice p n c:=by
 obtain⟨p,c,rfl,_⟩:=h;exact⟨p,c,by rw[hn]⟩
theorem Sl.form{α:Type}[Flat α]{w:World}{v:Value}{l:List α}(h:Sl w v l){n:Nat}(hn:l.length=n):∃p c,v=.slice p n c:=by
 obtain⟨p,c,rfl,_⟩:=h;exact⟨p,c,by rw[hn]⟩
theorem Sl.srcH{α:Type}[Flat α]{P:Program}{w w':World}{v:Value}{l:List α}(h:Sl w v l)(hh:Hp w' w):Src α P w' v l:=(h.heap hh).src
theorem nblk{b a off l c:Nat}{sp:Option Nat}(h:b≠a):b∉ay (.slice (some ⟨a,off,sp⟩) l c):=by
 simpa [ay] using h
theorem In.of_ge{a off l c n:Nat}{sp:Option Nat}{S:List Nat}(h:n<=a):In (.slice (some ⟨a,off,sp⟩) l c) S n:=λb hb=>by
 simp only[ay,gh] at hb;subst hb;exact .inr h
theorem bI{P:Program}{n:Nat}{Q:ji}{E:Env}{w:World}{c:Operand}{x y:Code}{p:Prop}[d:Decidable p](hc:ev E c=.bool (decide p))(hp:p)(h:wpE P n x Q E w):wpE P n (.cond c x y) Q E w :=
 aA hc (λ_=>h) (λh'=>absurd hp h')
theorem aJ{P:Program}{n:Nat}{Q:ji}{E:Env}{w:World}{c:Operand}{x y:Code}{p:Prop}[d:Decidable p](hc:ev E c=.bool (decide p))(hp:¬p)(h:wpE P n y Q E w):wpE P n (.cond c x y) Q E w :=
 aA hc (λh'=>absurd h' hp) (λ_=>h)
theorem Appended.step{α:Type}[Flat α]{vx v':Value}{l m:List α}{w w1 w2:World}(h:Appended vx l m w1 v' w2)(hc:Chg [] w w1)(hi:In vx [] w.heap.size):Own w2 v' (l++m)/\Chg [] w w2/\In v' [] w.heap.size :=
 ⟨h.own,hc.t0 h.mod hi.ge,h.inn.mono (λb hb=>.inr (hi.ge b hb)) hc.1⟩
theorem Own.some{α:Type}[Flat α]{w:World}{v:Value}{l:List α}(h:Own w v l){n:Nat}(hn:l.length=n)(hp:0<n):∃b off c,v=.slice (.some ⟨b,off,none⟩) n c:=by
 obtain⟨p,c,rfl,_,h⟩:=h;cases p with
 | none => obtain ⟨rfl, _⟩ := h; simp at hn; omega
 | some a =>
  obtain⟨b,off,sp⟩:=a;obtain⟨h1,_⟩:=h;simp only at h1;subst h1;exact⟨b,off,c,by rw[hn]⟩
theorem bG{P:Program}{E:Env}{op:Op}{ty:TypeId}{w:World}{v v':Value}(h:exec P E op ty w=.ok (.value v) w)(hv:v=v'):exec P E op ty w=.ok (.value v') w:=by rw[h,hv]
theorem nb1{l:List Nat}{b:Nat}(h:b∉l):∀x∈l,x∉[b]:=λx hx he=>by
 simp only[gh] at he;subst he;exact h hx
theorem DQ{a m m' r:List Value}{k:Nat}(h:m'.length=m.length)(hk:k=a.length):spl (a++m++r) k m'=a++m'++r:=by
 subst hk;unfold spl;rw[bP a m r,cP,h,<-bP,<-aF,ej]
 ·rfl
 ·rfl
end
theorem ES{m m' r:List Value}(h:m'.length=m.length):spl (m++r) 0 m'=m'++r:=by
 have:=DQ (a:=[]) (r:=r) h rfl
 simpa using this
theorem GO{a r:List Value}{x x':Value}{k:Nat}(hk:k=a.length):spl (a++x::r) k [x']=a++x'::r:=by
 have:=DQ (a:=a) (m:=[x]) (m':=[x']) (r:=r) rfl hk
 simpa using this
theorem kI{α:Type}{a r m:List α}{k j:Nat}(hk:k=a.length)(hj:j=m.length):spl (a++r) k m=a++m++r.drop j:=by
 subst hk hj;unfold spl;rw[cP,BS]
 ·congr 1;simp
 ·rfl
theorem Ih{a r:List Value}{k i:Nat}{v:Value}(hk:k=a.length+i)(h:r[i]?=some v):(a++r)[k]?=some v:=by
 subst hk;rw[fY (by omega),Nat.add_sub_cancel_left];exact h
theorem mH{a r:List Value}:((a++r).drop 0).take a.length=a:=by simp
theorem Own.clip{α:Type}[Flat α]{w:World}{p:Option Addr}{n c:Nat}{l:List α}(h:Own w (.slice p n c) l):Own w (.slice p n n) l:=by
 obtain⟨p',cap,he,hlc,h⟩:=h;simp only[Value.slice.injEq] at he;obtain⟨rfl,rfl,rfl⟩:=he;refine⟨p,l.length,rfl,aM _,?_⟩;cases p with
 | none => exact ⟨h.1, by rw [h.1]; rfl⟩
 | some a =>
  obtain⟨h1,cs,e,fr,h2,h3,h4,h5⟩:=h;refine⟨h1,cs,e,fr,h2,h3,?_,h5⟩
  have:l.length*Flat.sz α<=c*Flat.sz α:=ew _ hlc
  omega
section
variable {α:Type}[Flat α]{P:Program}{E:Env}{w:World}{ty t t' u:TypeId}{x lo hi mx:Operand}
theorem x_clip{e:TypeId}{i:TypeInfo}{p:Option Addr}{c:Nat}{l:List α}{k k':IntKind}(ht:P.underlying t=some (.slice e))(hi':P.info? e=some i)(hx:ev E x=.slice p l.length c)(hs:Own w (.slice p l.length c) l)(hl:ev E hi=.int k l.length)(hm:ev E mx=.int k' l.length)(hc:l.length<=c) :
  ∃v',(∀w',exec P E (.slice t x none (some hi) (some mx)) ty w'=.ok (.value v') w')/\Own w v' l/\ay v'=ay (.slice p l.length c):=by
 refine⟨_,λw'=>xO ht hi' hx hl hm (by omega) (by omega),?_,?_⟩
 ·have:=hs.clip
  cases p with
  | none => simpa using this
  | some a =>
   obtain⟨ab,ao,asp⟩:=a;have h1:asp=none:=by
    obtain⟨p',cap,he,hlc,h⟩:=id this;simp only[Value.slice.injEq] at he;obtain⟨rfl,-,-⟩:=he;exact h.1
   subst h1;have hadd:(⟨ab,ao,none⟩:Addr).add 0=⟨ab,ao,none⟩:=by rw[eD,qN]
   simpa [hadd] using this
 ·cases p with
  | none => simp [ay]
  | some a => rw [pe (p := some a) (l := l.length) (c := c) add_blk.symm]
theorem x_fromO(n:Nat){e:TypeId}{i:TypeInfo}{v:Value}{l:List α}{k:IntKind}{j:Int}(ht:P.underlying t=some (.slice e))(hi:P.info? e=some i)(hsz:i.size=Flat.sz α)(hs:Own w v l)(hx:ev E x=v)(hl:ev E lo=.int k j)(hn:j=n)(hj:n<=l.length) :
  ∃v',(∀w',exec P E (.slice t x (some lo) none none) ty w'=.ok (.value v') w')/\(∃p c,v'=.slice p (l.length-n) c)/\Own w v' (l.drop n)/\ay v'=ay v:=by
 subst hn;obtain⟨p,cap,rfl,hlc,h⟩:=id hs;refine⟨_,λw'=>qS ht hi hx hl (by omega),⟨_,_,rfl⟩,?_,?_⟩
 ·have:=hs.cut_lo (lo:=n) hj
  rw[hsz];simpa using this
 ·rw[pe (p:=p) (l:=l.length) (c:=cap) add_blk.symm]
theorem vh{i:TypeInfo}{z:Value}(l0:List α)(hi:P.info? t=some i)(hz:i.zero=some z)(hl:z.cells=(bl l0).toArray) :
  ∃v w1,exec P E (.alloc t) ty w=.ok (.value v) w1/\∃b,v=.pointer (some ⟨b,0,none⟩)/\w.heap.size<=b/\Arr w1 b l0/\Chg [] w w1/\b<w1.heap.size :=
 ⟨_,_,zp hi hz,_,rfl,aM _,⟨t,by rw[<-hl];exact fS _ _⟩,Chg.push _ _,by rw[g8];omega⟩
theorem DK{y:Operand}{e:TypeId}{i:TypeInfo}{z:Value}{d:TypeDesc}{vx vy:Value}{l m:List α}(ht:P.underlying t=some (.slice e))(ht':P.underlying t'=some d)(hi:P.info? e=some i)(hd:d=.string∨∃e',d=.slice e')
  (hz:i.zero=some z) (hsz:i.size=Flat.sz α) (hzs:z.cells.size=Flat.sz α) (hby:i.bytes<=1024) (hl:Own w vx l) (hm:Src α P w vy m) (hx:ev E x=vx) (hy:ev E y=vy) (hb:l.length+m.length<=1073741824) :
  ∃v' w',exec P E (.call { callee:=.builtin .append,args:=#[x,y],argTypes:=#[t,t'] }) ty w=.ok (.value v') w'/\Appended vx l m w v' w':=vg ht ht' hd hi hz hsz hzs hby hx hy hl hm hb
theorem iB{a:Addr}{n c:Nat}{l:List UInt8}{e:TypeId}(ht:P.underlying t=some (.slice e))(he:P.underlying e=some (.int .u8))(hx:ev E x=.slice (some a) n c)(hs:Sl w (.slice (some a) n c) l) :
  ∃w',exec P E (.convert t t x) ty w=.ok (.value (.slice (some a) n c)) w'/\Sl w' (.slice (some a) n c) l/\Chg [a.block] w w'/\w'.heap.size=w.heap.size:=by
 obtain⟨p,cap,heq,hlc,hp⟩:=hs;simp only[Value.slice.injEq] at heq;obtain⟨rfl,rfl,rfl⟩:=heq;obtain⟨h1,cs,ee,fr,hb,hc⟩:=hp;obtain⟨ab,ao,asp⟩:=a;simp only at h1 hb hc;subst h1;have hsh:(shape ab).run P w=.ok (some (ee,cs.size)) w:=by
  show Result.ok (w.shape? ab) _=_;unfold World.shape?;rw[hb]
 have hmk:(markStringish ⟨ab,ao,none⟩).run P w=.ok () (w.freeze ⟨ab,cs.size,none⟩ 1):=by
  unfold markStringish;rw[ar hsh];rfl
 refine⟨w.freeze ⟨ab,cs.size,none⟩ 1,?_,?_,?_,?_⟩
 ·rw[A4,hx];refine bh ?_;unfold convert;rw[ar (run_underlying ht w),ar (run_underlying ht w)];simp only[beq_self_eq_true];rw[ar (run_underlying he w)];simp only[];rw[ar hmk];rfl
 ·refine⟨_,_,rfl,hlc,rfl,cs,ee,if fr.1==fr.2 then (cs.size,cs.size+1) else (min fr.1 cs.size,max fr.2 (cs.size+1)),?_,hc⟩;unfold World.freeze;simp only[Nat.one_ne_zero,if_false];rw[Array.getElem?_modify,if_pos rfl,hb];obtain⟨lo,hi⟩:=fr;rfl
 ·refine⟨?_,λb' _ hn=>?_,rfl,rfl⟩
  ·simp[World.freeze]
  ·simp only[World.freeze,Nat.one_ne_zero,if_false];rw[Array.getElem?_modify,if_neg (by simpa [eq_comm] using hn)]
 ·simp[World.freeze]
theorem nR(κ:Type)[Key κ]:∃v w',exec P E (.makeMap t none) ty w=.ok (.value v) w'/\∃r,v=.map (some r)/\w.heap.size<=r/\MapAt w' r ([]:List (κ×Value))/\Chg [] w w'/\r<w'.heap.size :=
 ⟨_,_,EG,_,rfl,aM _,MapAt.new w,Chg.push _ _,by rw[g8];omega⟩
theorem mV(k:Nat){e:TypeId}{n b:Nat}{i:TypeInfo}{kd:IntKind}{j:Int}(ht:P.underlying t=some (.array n e))(hi':P.info? e=some i)(hx:ev E x=.pointer (some ⟨b,0,none⟩))(hl:ev E lo=.int kd j)(hj:j=k)(hk:k<n) :
  exec P E (.slice t x (some lo) none none) ty w=.ok (.value (.slice (some ⟨b,k*i.size,none⟩) (n-k) (n-k))) w:=by
 subst hj
 have:=Gq (ty:=ty) (w:=w) ht hi' hx hl (by omega)
 rw[jk,if_neg (by omega),jO] at this;exact this
theorem mU{y:Operand}{e:TypeId}{i:TypeInfo}{vx vy:Value}{l m:List α}(ht:P.underlying t=some (.slice e))(hi:P.info? e=some i)(hsz:i.size=Flat.sz α)(ho:Own w vx l)(hm:Src α P w vy m)(hl:0<l.length)(hx:ev E x=vx)(hy:ev E y=vy) :
  ∃w1,exec P E (.call { callee:=.builtin .copy,args:=#[x,y],argTypes:=#[t,t'] }) ty w=.ok (.value (.int .i64 (min m.length l.length:Nat))) w1/\Own w1 vx (spl l 0 (m.take (min m.length l.length)))/\Chg (ay vx) w w1/\w1.heap.size=w.heap.size:=by
 obtain⟨p,cap,rfl,hlc,hp⟩:=ho;cases p with
 | none => obtain ⟨rfl, _⟩ := hp; simp at hl
 | some a =>
  obtain⟨b,off,sp⟩:=a;obtain⟨h1,c,ee,fr,h2,h3,h4,h5⟩:=hp;simp only at h1 h2 h4 h5;subst h1;have hroom:off+l.length*Flat.sz α<=c.size:=by
   have:l.length*Flat.sz α<=cap*Flat.sz α:=ew _ hlc
   omega
  have hx':=Cb (t':=t') (ty:=ty) ht hi hsz hx hy hm h2 h3 hroom;have hml:(m.take (min m.length l.length)).length=min m.length l.length:=by rw[bz];omega
  have hsl:(spl l 0 (m.take (min m.length l.length))).length=l.length:=spl_len (by rw[hml];omega);have hel:(bl (m.take (min m.length l.length))).length<=l.length*Flat.sz α:=by
   rw[aV,hml];exact ew _ (by omega)
  refine⟨_,hx',⟨some ⟨b,off,none⟩,cap,by rw[hsl],by rw[hsl];exact hlc,rfl,_,ee,fr,eB (cG h2),h3.size (cY _ _ _),by rw[cY];exact h4,?_⟩,(Chg.set _ _ _).mono (λx hx _=>by simpa [ay] using hx),dS _ _ _⟩;intro j z hj;show(gn c off (bl (m.take (min m.length l.length))))[off+j]?=some z;rw[iT _ _ _ _ (by omega)];have hsp:bl (spl l 0 (m.take (min m.length l.length)))=bl (m.take (min m.length l.length))++(bl l).drop ((bl (m.take (min m.length l.length))).length):=by
   rw[spl,mQ,dG,dP,<-fg,aV,jO]
  rw[hsp] at hj;by_cases hlt:j<(bl (m.take (min m.length l.length))).length
  ·rw[iK hlt] at hj;rw[if_pos (by omega),show off+j-off=j from by omega];exact hj
  ·rw[fY (by omega),kZ] at hj;rw[if_neg (by omega)];exact h5 j z (by rw[<-hj];congr 1;omega)
theorem DH{f:FuncId}{c:Operand}{v:Value}(hc:ev E c=v):exec P E (.makeFunc (.func f) #[] #[c]) ty w=.ok (.value (.func (.func f) #[] #[v])) w:=by
 subst hc;have h:exec P E (.makeFunc (.func f) #[] #[c]) ty w=(jY (Instr.makeFunc (.func f) ((#[]:Array Operand).map (ev E)) (#[c].map (ev E)))).run P w:=rfl;rw[h];simp only[uJ,eV,uK];rfl
theorem qW(k:Nat){e:TypeId}{n b:Nat}{i:TypeInfo}{kd:IntKind}{j:Int}(ht:P.underlying t=some (.array n e))(hi':P.info? e=some i)(hx:ev E x=.pointer (some ⟨b,0,none⟩))(hl:ev E hi=.int kd j)(hj:j=k)(hk:k<=n) :
  exec P E (.slice t x none (some hi) none) ty w=.ok (.value (.slice (some ⟨b,0,none⟩) k n)) w:=by
 subst hj
 have:=Gs (ty:=ty) (w:=w) ht hi' hx hl (by omega)
 rw[jk] at this;exact this
theorem uW{b off:Nat}{l:List α}(n:Nat){dd:TypeDesc}{i:TypeInfo}(ht:P.underlying t=some dd)(hd:iu dd=true)(hi:P.info? t=some i)(hs:i.size=n*Flat.sz α)(h:At w b off (bl l))(hn:l.length=n)(hx:ev E x=.pointer (some ⟨b,off,none⟩)) :
  exec P E (.load t x) ty w=.ok (.value (cy l)) w:=cK ht hd hi hx h (by rw[hs,aV,hn])
end
section
variable {κ:Type}[Key κ]{P:Program}{n:Nat}{ops:Array Oper}{Q:ji}{E:Env}{w:World}{rest:List Oper}{d:Option Nat}{ty:TypeId}{x:Operand}{pos:String}{af:Array Edge}
theorem m9{q r:Nat}{m left:List (κ×Value)}(hd:dW d n=true)(h:IterAt w q r m left)(hx:ev E x=.pointer (some ⟨q,0,none⟩))
  (h0:left=[]->wpL P n ops Q rest (dI d (.tuple #[.bool false]) E) w)
  (h1:∀a k v b w',left=a++(k,v)::b->IterAt w' q r m (a++b)->CurAt w' q r k v->Chg [q] w w'->w'.heap.size=w.heap.size->wpL P n ops Q rest (dI d (.tuple #[.bool true,Key.enc k,v]) E) w') :
  wpL P n ops Q (⟨d,.next x false,ty,pos,af,none⟩::rest) E w:=by
 rcases x_next (P:=P) (ty:=ty) hx h with⟨k1,k2⟩|⟨a,k,v,b,w',k1,k2,k3,k4,k5,k6⟩
 ·exact a7 hd k2 (h0 k1)
 ·exact a7 hd k2 (h1 a k v b w' k1 k3 k4 k5 k6)
end
section
variable {α:Type}[Flat α]{P:Program}{n:Nat}{ops:Array Oper}{Q:ji}{E:Env}{w:World}{T:jB}{i:Nat}{p:Plan}{d:Option Nat}{ty t:TypeId}{x:Operand}{pos:String}{af:Array Edge}{g:Option (Nat×Bool)}
theorem lg{dd:TypeDesc}{nf:TypeInfo}{b off:Nat}{l:List α}(k:Nat)(ho:ops[i]?=some ⟨d,.load t x,ty,pos,af,g⟩)(hd:dW d n=true)(hw:cR ops E ⟨d,.load t x,ty,pos,af,g⟩=true)(ht:P.underlying t=some dd)(ha:iu dd=true)(hi:P.info? t=some nf)
  (hs:nf.size=k*Flat.sz α) (hc:At w b off (bl l)) (hn:l.length=k) (hx:ev E x=.pointer (some ⟨b,off,none⟩)) (h:wpP P n ops Q p ((i,λw'=>At w' b off (bl l))::T) (dI d (cy l) E) w):wpP P n ops Q (.read i p) T E w :=
 dE ho hd hw (λw'=>At w' b off (bl l)) hc (λ_ h1=>uW k ht ha hi hs h1 hn hx) h
end
end Go.Sac
section
namespace Go.Sac
open Go
abbrev Sec:={ l:List UInt8 // l.length=64 }
instance:Flat Sec:=⟨64,λs=>bl s.1,λs=>by rw[aV,s.2];rfl,λs=>gx s.1⟩
def sec0:Sec:=⟨List.replicate 64 0,rfl⟩
instance:Inhabited Sec:=⟨sec0⟩
structure DSt where
 steps:Nat
 offAt:Nat
 kept:List Sec
 pend:List (Int×Sec)
def gl(m:List (Int×Sec)):List (Int×Value):=m.map λp=>(p.1,cy p.2.1)
def DiskAt(w:World)(b:Nat)(kv:Value)(r:Nat)(s:DSt):Prop :=
 Blk w b [.int .i64 s.steps,.int .i64 s.offAt,kv,.map (some r)]/\Own w kv s.kept/\MapAt w r (gl s.pend)/\b≠r/\b∉ay kv/\r∉ay kv
def DF(b:Nat)(kv:Value)(r:Nat):List Nat:=b::r::ay kv
theorem DiskAt.chg{w w':World}{b r:Nat}{kv:Value}{s:DSt}{S:List Nat}(h:DiskAt w b kv r s)(hm:Chg S w w')(hn:∀x∈DF b kv r,x∉S):DiskAt w' b kv r s:=by
 obtain⟨h1,h2,h3,h4⟩:=h;exact⟨h1.chg hm (hn b (by simp[DF])),h2.mod hm (λx hx=>hn x (by simp[DF,hx])),h3.mod hm (hn r (by simp[DF])),h4⟩
theorem DiskAt.chg0{w w':World}{b r:Nat}{kv:Value}{s:DSt}(h:DiskAt w b kv r s)(hm:Chg [] w w'):DiskAt w' b kv r s:=h.chg hm (by simp)
theorem DiskAt.lt{w:World}{b r:Nat}{kv:Value}{s:DSt}(h:DiskAt w b kv r s):∀x∈DF b kv r,x<w.heap.size:=by
 obtain⟨h1,h2,h3,h4⟩:=h;intro x hx;simp only[DF,bZ] at hx;rcases hx with rfl|rfl|hx
 ·exact h1.lt
 ·exact h3.lt
 ·exact h2.sl.lt x hx
namespace DSt
def off(s:DSt):Bool:=decide (0<s.offAt)&&decide (s.offAt<=s.steps)
def step(s:DSt):DSt:={ s with steps:=s.steps+1 }
def is(s:DSt)(i:Int):Bool:=decide (0<=i)&&decide (i<s.kept.length)
def now(s:DSt)(i:Int):Sec:=(cB i s.pend).getD (s.kept.getD i.toNat sec0)
def putS(c:Sec)(b:List UInt8):Sec:=⟨(b++c.1.drop b.length).take 64,by
 have:=c.2
 rw[bz,aF,bE];omega⟩
def write(s:DSt)(i:Int)(b:List UInt8):DSt×Int :=
 if s.step.off then (s.step,61)
 else if !s.is i||decide (64<b.length) then (s.step,60)
 else ({ s.step with pend:=dU i (putS (s.now i) b) s.pend },0)
def apply(k:List Sec)(m:List (Int×Sec)):List Sec:=k.mapIdx λi c=>(cB (i:Int) m).getD c
def flush(s:DSt):DSt×Int :=
 if s.step.off then (s.step,61) else ({ s.step with kept:=apply s.kept s.pend,pend:=[] },0)
def power(s:DSt)(n:Int):DSt :=
 if s.off then s else if n<=0 then { s with offAt:=0 } else { s with offAt:=s.steps+(min n 1099511627776).toNat }
structure Fine(s:DSt):Prop where
 steps:s.steps<=1000000000000
 offAt:s.offAt<=4000000000000
 keys:∀p∈s.pend,0<=p.1/\p.1<s.kept.length
 size:s.kept.length<=4000
end DSt
theorem wk(i:Int)(m:List (Int×Sec)):cB i (gl m)=(cB i m).map λc=>cy c.1:=by
 induction m with
 | nil => rfl
 | cons p m ih =>
  obtain⟨k,c⟩:=p;simp only[gl,eV,cB];by_cases h:i=k
  ·simp[h]
  ·simp only[h,if_false];exact ih
theorem AW(i:Int)(c:Sec)(m:List (Int×Sec)):dU i (cy c.1) (gl m)=gl (dU i c m):=by
 induction m with
 | nil => rfl
 | cons p m ih =>
  obtain⟨k,c'⟩:=p;simp only[gl,eV,dU];by_cases h:i=k
  ·simp[h]
  ·simp only[h,if_false,eV];exact congrArg _ ih
theorem lookP(i:Int)(m:List (Int×Sec)):(Value.tuple #[(cB i (gl m)).getD (cy sec0.1),.bool (cB i (gl m)).isSome])=.tuple #[cy ((cB i m).getD sec0).1,.bool (cB i m).isSome]:=by
 rw[wk];cases cB i m <;> rfl
theorem HE(i:Int)(m:List (Int×Sec)):(cB i (gl m)).getD (cy sec0.1)=cy ((cB i m).getD sec0).1:=by
 rw[wk];cases cB i m <;> rfl
theorem xf{α:Type}(l m:List α):spl l 0 m=m++l.drop m.length:=by simp[spl]
theorem oV(c:Sec)(b:List UInt8)(h:b.length<=64):(DSt.putS c b).1=b++c.1.drop b.length:=by
 have:=c.2
 exact cd (by rw[aF,bE];omega)
theorem Ak(m:List (Int×Sec))(a b:List (Int×Value))(k:Int)(v:Value)(h:gl m=a++(k,v)::b):∃a' c b',m=a'++(k,c)::b'/\v=cy c.1/\a=gl a'/\b=gl b':=by
 unfold gl at h;obtain⟨a',m',rfl,ha,hm⟩:=List.map_eq_append_iff.1 h;obtain⟨p,b',rfl,hp,hb⟩:=List.map_eq_cons_iff.1 hm;obtain⟨k',c⟩:=p;simp only[lC] at hp;obtain⟨rfl,rfl⟩:=hp;exact⟨a',c,b',rfl,rfl,ha.symm,hb.symm⟩
theorem zq(a b:List (Int×Sec)):gl (a++b)=gl a++gl b:=by simp[gl]
theorem vq(m:List (Int×Sec)):(gl m).map (·.1)=m.map (·.1):=by simp[gl]
theorem sU{κ ν:Type}[DecidableEq κ]{k:κ}{m:List (κ×ν)}(h:k∉m.map (·.1)):cB k m=none:=by
 induction m with
 | nil => rfl
 | cons p m ih =>
  obtain⟨x,u⟩:=p;simp only[eV,bZ,not_or] at h;simp only[cB,h.1,if_false];exact ih h.2
theorem fo{κ ν:Type}[DecidableEq κ]{k:κ}{v:ν}{m:List (κ×ν)}(hn:(m.map (·.1)).Nodup):cB k m=some v↔(k,v)∈m:=by
 induction m with
 | nil => simp [cB]
 | cons p m ih =>
  obtain⟨x,u⟩:=p;simp only[eV,jC] at hn;simp only[cB,bZ,lC];by_cases h:k=x
  ·subst h;simp only[if_true,oF,true_and]
   constructor
   ·intro h;exact .inl h.symm
   ·rintro(h|h)
    ·exact h.symm
    ·exact absurd (List.mem_map.2 ⟨_,h,rfl⟩) hn.1
  ·simp only[h,if_false,false_and,false_or];exact ih hn.2
theorem Fl{κ ν:Type}[DecidableEq κ]{m m':List (κ×ν)}(hp:m.Perm m')(hn:(m.map (·.1)).Nodup)(k:κ):cB k m=cB k m':=by
 have hn':(m'.map (·.1)).Nodup:=(hp.map _).nodup_iff.1 hn;cases h:cB k m with
 | none =>
  cases h':cB k m' with
  | none => rfl
  | some v =>
   have:=(fo hn').1 h'
   rw[(fo hn).2 (hp.mem_iff.2 this)] at h;cases h
 | some v =>
  have:=(fo hn).1 h
  rw[(fo hn').2 (hp.mem_iff.1 this)]
theorem tQ{κ ν:Type}[DecidableEq κ](k:κ)(a b:List (κ×ν)):cB k (a++b)=(cB k a).or (cB k b):=by
 induction a with
 | nil => rfl
 | cons p a ih =>
  obtain⟨x,u⟩:=p;simp only[BT,cB];by_cases h:k=x
  ·simp[h]
  ·simp only[h,if_false];exact ih
theorem Di{m m':List (Int×Sec)}(hp:m.Perm m')(hn:(m.map (·.1)).Nodup)(k:List Sec):DSt.apply k m=DSt.apply k m':=by
 unfold DSt.apply;congr 1;funext i c;rw[Fl hp hn]
theorem yJ(k:List Sec):DSt.apply k []=k:=by
 unfold DSt.apply;apply lS;intro i;rw[yT];cases k[i]? <;> rfl
theorem nu(k:List Sec)(m:List (Int×Sec)):(DSt.apply k m).length=k.length:=by simp[DSt.apply]
theorem wR(k:List Sec)(m:List (Int×Sec))(i:Int)(c:Sec)(hi:0<=i)(hn:i∉m.map (·.1)):DSt.apply k (m++[(i,c)])=(DSt.apply k m).set i.toNat c:=by
 apply lS;intro j;unfold DSt.apply;rw[yT,yS];by_cases hj:i.toNat=j
 ·subst hj;rw[if_pos rfl,show((i.toNat:Nat):Int)=i from by omega];rw[tQ,sU hn,List.length_mapIdx];by_cases hl:i.toNat<k.length
  ·rw[if_pos hl,bM hl];simp[cB]
  ·rw[if_neg hl,nN (by omega)];rfl
 ·rw[if_neg hj,yT]
  have:cB (j:Int) (m++[(i,c)])=cB (j:Int) m:=by
   rw[tQ];have h2:¬((j:Int)=i):=by omega
   simp[cB,h2]
  rw[this]
def jz(c:UInt8):Nat:=if c=255 then 64 else c.toNat % 64
theorem Am(c:UInt8):jz c<=64:=by unfold jz;split <;> omega
def lK(was now:Sec)(c:UInt8):Sec:=⟨now.1.take (jz c)++was.1.drop (jz c),by
 have h1:=was.2;have h2:=now.2
 have:=Am c
 rw[aF,bz,bE];omega⟩
def imageOf(k:List Sec):List UInt8:=k.flatMap (·.1)
theorem CN{ν:Type}(k:Int)(v:ν)(m:List (Int×ν)):∀p∈dU k v m,p.1=k∨∃q∈m,q.1=p.1:=by
 induction m with
 | nil => intro p hp; simp [dU] at hp; subst hp; exact .inl O
 | cons q m ih =>
  obtain⟨x,u⟩:=q;intro p hp;simp only[dU] at hp;by_cases h:k=x
  ·rw[if_pos h] at hp;rcases List.mem_cons.1 hp with rfl|hp
   ·exact .inl h.symm
   ·exact .inr ⟨p,by simp[hp],rfl⟩
  ·rw[if_neg h] at hp;rcases List.mem_cons.1 hp with rfl|hp
   ·exact .inr ⟨_,by simp,rfl⟩
   ·rcases ih p hp with h1|⟨q,hq,h1⟩
    ·exact .inl h1
    ·exact .inr ⟨q,by simp[hq],h1⟩
theorem DSt.Fine.write{s:DSt}(h:s.Fine)(hs:s.steps+1<=1000000000000)(i:Int)(l:List UInt8):(s.write i l).1.Fine:=by
 obtain⟨h1,h2,h3,h4⟩:=h;have h0:s.step.Fine:=⟨hs,h2,h3,h4⟩
 unfold DSt.write
 split
 ·exact h0
 ·split
  ·exact h0
  ·rename_i hi
   have his:s.is i=true:=by simp at hi;exact hi.1
   have:0<=i/\i<s.kept.length:=by simpa [DSt.is] using his
   refine⟨hs,h2,λp hp=>?_,h4⟩;rcases CN _ _ _ p hp with h|⟨q,hq,h⟩
   ·rw[h];exact this
   ·rw[<-h];exact h3 q hq
theorem DSt.Fine.flush{s:DSt}(h:s.Fine)(hs:s.steps+1<=1000000000000):s.flush.1.Fine:=by
 obtain⟨h1,h2,h3,h4⟩:=h;unfold DSt.flush
 split
 ·exact⟨hs,h2,h3,h4⟩
 ·exact⟨hs,h2,λp hp=>by simp at hp,by show(DSt.apply _ _).length<=4000;rw[nu];exact h4⟩
theorem DSt.write_steps(s:DSt)(i:Int)(l:List UInt8):(s.write i l).1.steps=s.steps+1:=by
 unfold DSt.write;split
 ·rfl
 ·split <;> rfl
theorem DSt.flush_steps(s:DSt):s.flush.1.steps=s.steps+1:=by unfold DSt.flush;split <;> rfl
theorem DSt.write_kept(s:DSt)(i:Int)(l:List UInt8):(s.write i l).1.kept=s.kept:=by
 unfold DSt.write;split
 ·rfl
 ·split <;> rfl
theorem DSt.flush_len(s:DSt):s.flush.1.kept.length=s.kept.length:=by
 unfold DSt.flush;split
 ·rfl
 ·exact nu _ _
theorem DSt.is_iff{s:DSt}{i:Int}:s.is i=true↔0<=i/\i<s.kept.length:=by simp[DSt.is]
theorem DiskAt.turn{w w':World}{b r:Nat}{kv:Value}{s s':DSt}(h:DiskAt w b kv r s)(hb:Blk w' b [.int .i64 s'.steps,.int .i64 s'.offAt,kv,.map (some r)])(hm:Chg [b] w w')(hk:s'.kept=s.kept)(hp:s'.pend=s.pend):DiskAt w' b kv r s':=by
 obtain⟨h1,h2,h3,h4,h5,h6⟩:=h;exact⟨hb,by rw[hk];exact h2.mod hm (nb1 h5),by rw[hp];exact h3.mod hm (by simpa using Ne.symm h4),h4,h5,h6⟩
theorem qC{b r:Nat}{kv:Value}{w w':World}(h:Chg [b] w w'):Chg (DF b kv r) w w':=h.mono (λx hx _=>by simp at hx;subst hx;simp[DF])
def mh(l:List Int):List Int:=l.mergeSort (λx y=>decide (x<=y))
def j7(m:List (Int×Sec)):List Int->List UInt8->List Sec->List Sec
 | [], _, k => k
 | i :: is, ch, k => j7 m is (ch.drop 1) (k.set i.toNat (lK (k.getD i.toNat sec0) ((cB i m).getD sec0) (ch.headD 0)))
def DSt.crash(s:DSt)(ch:List UInt8):DSt:=⟨s.steps,0,j7 s.pend (mh (s.pend.map (·.1))) ch s.kept,[]⟩
theorem pP(m:List (Int×Sec))(is:List Int)(ch:List UInt8)(k:List Sec):(j7 m is ch k).length=k.length:=by
 induction is generalizing ch k with
 | nil => rfl
 | cons i is ih => rw [j7, ih, gR]
end Go.Sac

end
namespace Go.Sac
open Go Go.Maps Go.Proofs Go.Shelf
theorem AO{P:Program}{kt:TypeId}{w:World}{r:Nat}{m:List (Int×Value)}(hk:P.underlying kt=some (.int .i64))(hm:MapAt w r m)
  (hr:∀p∈m,-9223372036854775808<=p.1/\p.1<9223372036854775808) (hl:m.length<=maxLen) :
  ∃D0:DataW Unit,w.ownsMap P kt (λ_=>some (.lit (.bool true),[])) r m.length D0/\(intKeys D0).Perm (m.map (·.1))/\Maps.size D0=m.length:=by
 obtain⟨es,cl,hb,he,hn,hbn,hlt⟩:=hm;have hlen:es.size=m.length:=by have:=congrArg List.length he;simpa using this
 have hkey:∀a:Int,-9223372036854775808<=a/\a<9223372036854775808->keyOf P kt (.int .i64 a)=some (.int .i64 a):=λa ha=>by
  unfold keyOf;rw[hk];simp only[mapKey,hk];have h1:IntKind.i64.min = -9223372036854775808:=by decide
  have h2:IntKind.i64.max=9223372036854775807:=by decide
  have hw:(Lit.int .i64 a).wf=true:=by
   simp only[Lit.wf,j9,decide_eq_true_eq,h1,h2];omega
  simp[hw]
 have hes:∀x∈es.toList,∃a:Int,x.key=.int .i64 a /\ -9223372036854775808<=a/\a<9223372036854775808:=λx hx=>by
  have h1:(x.key,x.val)∈es.toList.map (λe=>(e.key,e.val)):=List.mem_map.2 ⟨x,hx,rfl⟩;rw[he] at h1;obtain⟨p,hp,h2⟩:=List.mem_map.1 h1;simp only[lC] at h2;exact⟨p.1,h2.1.symm,hr p hp⟩
 have hF:WideElems.Fit P kt (λ_=>some ((.lit (.bool true):DataW Unit),[])) es cl:=by
  refine⟨by omega,⟨hlt,hbn,?_⟩,λx hx=>?_⟩
  ·rw[oY he];unfold List.Nodup at hn ⊢;rw[ur];exact hn.imp (λh e=>h (Key.inj _ _ e))
  ·obtain⟨a,ha,har⟩:=hes x hx;exact⟨(.int .i64 a,.lit (.bool true)),by simp[WideElems.rd,ha,hkey a har]⟩
 refine⟨_,⟨es,cl,hb,hF,by omega,rfl⟩,?_,?_⟩
 ·have hp:=(Go.WideShapes.sorted_perm (es.toList.map (WideElems.rg P kt (λ_=>some ((.lit (.bool true):DataW Unit),[]))))).map (λp=>intOf p.1);refine hp.trans (List.Perm.of_eq ?_);rw[fH];have h3:es.toList.map ((λp:Lit×DataW Unit=>intOf p.1) ∘ WideElems.rg P kt (λ_=>some ((.lit (.bool true):DataW Unit),[])))=es.toList.map (λe=>match e.key with|.int _ a=>a|_=>0):=by
   apply sy;intro x hx;obtain⟨a,ha,har⟩:=hes x hx;simp[WideElems.rg,WideElems.rd,ha,hkey a har,intOf]
  rw[h3];have h4:es.toList.map (λe=>match e.key with|.int _ a=>a|_=>0)=(es.toList.map (λe=>(e.key,e.val))).map (λp=>match p.1 with|.int _ a=>a|_=>0):=by
   rw[fH];rfl
  rw[h4,he,fH];apply sy;intro p _;rfl
 ·simp[Maps.size,length_sorted,hlen]
theorem CI{w:World}{base:Nat}{e:TypeId}{v:Value}{l:List Int}(h:w.ownsRow base e 1 v l.length (l.map encZ)):Own w v l/\In v [] base:=by
 obtain⟨_,h⟩:=h;have he:bl l=l.map encZ:=Bi encZ (λ_=>rfl) l;rcases h with⟨rfl,h0⟩|⟨g,cap,cur,rfl,hb,hblk,hn,hcap,hcs,hx⟩
 ·have:l=[]:=kj h0
  subst this;exact⟨Own.nil w,In.nil⟩
 ·refine⟨⟨some ⟨g,0,none⟩,cap,rfl,hn,rfl,cur,e,(0,0),hblk,jc _,?_,λi x hi=>?_⟩,In.of_ge hb⟩
  ·show 0+cap*1<=cur.size;omega
  ·rw[he,<-hx] at hi;have h1:=ki (l:=cur.toList) (i:=l.length*1) (j:=i);rw[h1] at hi
   split at hi
   ·simp only[jO]
    simpa using hi
   ·cases hi
theorem Ar{P:Program}{ρk ρs:Ren}(Lk:SlLaysZI.n7 P ρk)(Ls:SlLaysZI.n6 P ρs)(sorts:∀m,AnyZI.SortsIn P ρs Fence.wide m)
  (e9:∀args w,(callFunc (ρs.f 9) args).run P w=.ok (.enter (ρs.f 9) args) w) (eg:∀args w,(callFunc (ρk.f 10) args).run P w=.ok (.enter (ρk.f 10) args) w)
  (hk:P.underlying (ρk.t 26)=some (.int .i64)) (w:World) (q r:Nat) (m:List (Int×Value)) (hB:Blk w q [.map (some r)]) (hm:MapAt w r m)
  (hr:∀p∈m,-9223372036854775808<=p.1/\p.1<9223372036854775808) (hl:m.length<=1000000) :
  Ret P (ρs.f 6) #[.func (.func (ρk.f 10)) #[] #[.pointer (some ⟨q,0,none⟩)]] w λv w'=>Own w' v (mh (m.map (·.1)))/\Chg [] w w'/\In v [] w.heap.size:=by
 obtain⟨D0,hown,hperm,hsz⟩:=AO hk hm hr (by unfold maxLen;omega);have hseq:SeqGives Fence.wide 2 P (ρk.f 10) #[.pointer (some ⟨q,0,none⟩)] encZ (λss=>ss.Perm (intKeys D0)) (Maps.size D0) w :=
  AnyZI.keys_gives (ρ:=ρk) { Lk with } Fence.wide _ trivial rfl (by omega) q r m.length D0 _ hB.lt (hB.c O) hown
 have cS:=AnyZI.sorted_in Ls Fence.wide 5 trivial trivial trivial trivial rfl (by omega) (sorts _) e9 (ρk.f 10) #[.pointer (some ⟨q,0,none⟩)] trivial eg _ _ (by rw[hsz];unfold maxLen;omega) (by omega) _ hseq;refine Calls.mono (callsIn_wide.1 cS) ?_;rintro e w' ⟨v,ss,rfl,hS,hrow,hnil,hb⟩;refine⟨v,rfl,?_⟩;have hss:ss.mergeSort (λx y=>decide (x<=y))=mh (m.map (·.1)):=mergeSort_of_perm_i (hS.trans hperm);have hlen:ss.length=(mh (m.map (·.1))).length:=by rw[<-hss,(yR ss _).length_eq]
 rw[hss,hlen] at hrow;obtain⟨h1,h2⟩:=CI hrow;exact⟨h1,⟨hb.size,λb hb' _=>hb.block b hb',hb.os,hb.output⟩,h2⟩
end Go.Sac
namespace Go.Sac
open Go
theorem drw(w:World):Chg [] w { w with drawn:=w.drawn+1 }:=Chg.heap rfl
theorem xc(z:Value)(n:Nat):Builtin.zeroCells #[z] n=(List.replicate n z).toArray:=by
 unfold Builtin.zeroCells;apply Array.ext
 ·simp
 ·intro i h1 h2;simp[Nat.mod_one]
section
variable {P:Program}{E:Env}{w:World}{ty t t':TypeId}{x y:Operand}
theorem DJ{α:Type}[Flat α](vs:List Value)(l:List α){e:TypeId}{i:TypeInfo}{z:Value}{n:Nat}{ps:List (Nat×Operand)}(ht:P.underlying t=some (.slice e))(hi:P.info? e=some i)(hz:i.zero=some z)(hsz:i.size=Flat.sz α)(hzs:z.cells.size=Flat.sz α)
  (hps:(ps.map λp=>(p.1,ev E p.2))=vs.zipIdx.map λx=>(x.2,x.1)) (hv:vs.map (λv=>v.cells.toList)=l.map Flat.enc) (hn:l.length=n) (hb:n*Flat.sz α<=16777216) :
  ∃v' w',exec P E (.buildSlice t n ps.toArray) ty w=.ok (.value v') w'/\(∃p c,v'=.slice p n c)/\Own w' v' l/\Chg [] w w'/\In v' [] w.heap.size:=by
 obtain⟨v',w',h1,h2,h3,h4⟩:=zl (ty:=ty) (w:=w) vs l ht hi hz hsz hzs hps hv hn hb;exact⟨v',w',h1,h2.form hn,h2,h3,h4⟩
def SubOf(α:Type)[Flat α](v v':Value)(k n:Nat):Prop:=∃b off c,v=.slice (some ⟨b,off,none⟩) n c/\v'=.slice (some ⟨b,off+k*Flat.sz α,none⟩) (n-k) (c-k)
theorem gW{α:Type}[Flat α](k:Nat){lo:Operand}{e:TypeId}{i:TypeInfo}{v:Value}{l:List α}{kd:IntKind}{j:Int}(ht:P.underlying t=some (.slice e))(hi:P.info? e=some i)(hsz:i.size=Flat.sz α)(ho:Own w v l)(hx:ev E x=v)(hl:ev E lo=.int kd j)(hj:j=k)(hk:k<l.length) :
  ∃v',(∀w',exec P E (.slice t x (some lo) none none) ty w'=.ok (.value v') w')/\SubOf α v v' k l.length:=by
 subst hj;obtain⟨p,c,rfl,hlc,hp⟩:=ho;cases p with
 | none => obtain ⟨rfl, _⟩ := hp; simp at hk
 | some a =>
  obtain⟨b,off,sp⟩:=a;obtain⟨h1,_⟩:=hp;simp only at h1;subst h1;refine⟨_,λw'=>qS ht hi hx hl (by omega),b,off,c,rfl,?_⟩;rw[jk,if_neg (by omega),hsz];simp only[z8,eD]
theorem dQ{α:Type}[Flat α]{e:TypeId}{i:TypeInfo}{v v' vy:Value}{l m:List α}{k:Nat}(ht:P.underlying t=some (.slice e))(hi:P.info? e=some i)(hsz:i.size=Flat.sz α)(ho:Own w v l)(hs:SubOf α v v' k l.length)(hk:k<l.length)(hm:Src α P w vy m)(hx:ev E x=v')(hy:ev E y=vy) :
  ∃w1,exec P E (.call { callee:=.builtin .copy,args:=#[x,y],argTypes:=#[t,t'] }) ty w=.ok (.value (.int .i64 (min m.length (l.length-k):Nat))) w1/\Own w1 v (spl l k (m.take (min m.length (l.length-k))))/\Chg (ay v) w w1/\w1.heap.size=w.heap.size:=by
 obtain⟨b,off,c,rfl,rfl⟩:=hs;obtain⟨p,cap,hpe,hlc,hp⟩:=ho;simp only[Value.slice.injEq] at hpe;obtain⟨rfl,_,rfl⟩:=hpe;obtain⟨h1,cc,ee,fr,h2,h3,h4,h5⟩:=hp;simp only at h1 h2 h4 h5;have hlm:l.length*Flat.sz α<=c*Flat.sz α:=ew _ hlc;have hkm:k*Flat.sz α+(l.length-k)*Flat.sz α=l.length*Flat.sz α:=by rw[<-eY];congr 1;omega
 have hroom:off+k*Flat.sz α+(l.length-k)*Flat.sz α<=cc.size:=by omega
 have hx':=Cb (t':=t') (ty:=ty) ht hi hsz hx hy hm h2 h3 hroom;have hml:(m.take (min m.length (l.length-k))).length=min m.length (l.length-k):=by rw[bz];omega
 have hsl:(spl l k (m.take (min m.length (l.length-k)))).length=l.length:=by
  unfold spl;simp only[aF,bz,bE];omega
 have hel:(bl (m.take (min m.length (l.length-k)))).length<=(l.length-k)*Flat.sz α:=by
  rw[aV,hml];exact ew _ (by omega)
 refine⟨_,hx',⟨some ⟨b,off,none⟩,c,by rw[hsl],by rw[hsl];exact hlc,rfl,_,ee,fr,eB (cG h2),h3.size (cY _ _ _),by rw[cY];exact h4,?_⟩,(Chg.set _ _ _).mono (λx hx _=>by simpa [ay] using hx),dS _ _ _⟩;intro j z hj;show(gn cc (off+k*Flat.sz α) (bl (m.take (min m.length (l.length-k)))))[off+j]?=some z;rw[iT _ _ _ _ (by omega)];have hsp:bl (spl l k (m.take (min m.length (l.length-k))))=(bl l).take (k*Flat.sz α)++(bl (m.take (min m.length (l.length-k)))++(bl l).drop ((k+(m.take (min m.length (l.length-k))).length)*Flat.sz α)):=by
  rw[spl,dP,dP,<-gP,<-fg,bP]
 have hkl:((bl l).take (k*Flat.sz α)).length=k*Flat.sz α:=by rw[bz,aV];exact ey (ew _ (by omega))
 rw[hsp] at hj;by_cases hlt:j<k*Flat.sz α
 ·rw[iK (by omega),ki,if_pos hlt] at hj;rw[if_neg (by omega)];exact h5 j z hj
 ·rw[fY (by omega),hkl] at hj;by_cases hlt2:j-k*Flat.sz α<(bl (m.take (min m.length (l.length-k)))).length
  ·rw[iK hlt2] at hj;rw[if_pos (by omega),show off+j-(off+k*Flat.sz α)=j-k*Flat.sz α by omega];exact hj
  ·rw[fY (by omega),kZ,aV] at hj;rw[aV] at hlt2;rw[if_neg (by rw[aV];omega)];refine h5 j z ?_;rw[<-hj,eY];congr 1;omega
theorem tA{α:Type}[Flat α](vs:List Value)(l:List α){e:TypeId}{i:TypeInfo}{z:Value}{n:Nat}{ps:List (Nat×Operand)}(ht:P.underlying t=some (.slice e))(hi:P.info? e=some i)(hz:i.zero=some z)(hsz:i.size=Flat.sz α)(hzs:z.cells.size=Flat.sz α)
  (hps:(ps.map λp=>(p.1,ev E p.2))=vs.zipIdx.map λx=>(x.2,x.1)) (hv:vs.map (λv=>v.cells.toList)=l.map Flat.enc) (hn:l.length=n) (hb:n*Flat.sz α<=16777216) (h0:0<n) :
  ∃v' w',exec P E (.buildSlice t n ps.toArray) ty w=.ok (.value v') w'/\(∃b o c,v'=.slice (some ⟨b,o,none⟩) n c)/\Own w' v' l/\Chg [] w w'/\In v' [] w.heap.size:=by
 obtain⟨v',w',h1,h2,h3,h4⟩:=zl (ty:=ty) (w:=w) vs l ht hi hz hsz hzs hps hv hn hb;exact⟨v',w',h1,h2.some hn h0,h2,h3,h4⟩
theorem hU{d:TypeId}{a:List UInt8}(hx:ev E x=str a)(ht:P.underlying d=some .string):exec P E (.call { callee:=.builtin .len,args:=#[x],argTypes:=#[d] }) ty w=.ok (.value (.int .i64 a.length)) w:=by
 rw[EI hx ht];simp[ByteArray.size]
theorem uZ{u:TypeId}{a b:List UInt8}(hx:ev E x=str a)(hy:ev E y=str b):exec P E (.binOp .eql t x y u) ty w=.ok (.value (.bool (decide (a=b)))) w:=by
 rw[x_streq hx hy];congr 3;simp only[ByteArray.toList_eq];rw[qI];simp
theorem tw{u:TypeId}{a b:List UInt8}(hx:ev E x=str a)(hy:ev E y=str b):exec P E (.binOp .neq t x y u) ty w=.ok (.value (.bool (decide (a≠b)))) w:=by
 rw[x_strne hx hy];congr 3;simp only[ByteArray.toList_eq];rw[qI];simp
theorem Gt{e:TypeId}{i:TypeInfo}{k:IntKind}{vx:Value}{l:List UInt8}{j:Int}(m:Nat)(ht:P.underlying t=some (.slice e))(ht':P.underlying t'=some (.int k))(hi:P.info? e=some i)(hz:i.zero=some (.int .u8 0))(hsz:i.size=1)
  (hby:i.bytes<=1024) (hl:Own w vx l) (hx:ev E x=vx) (hy:ev E y=.int .i64 j) (hj:j=m) (hb:l.length+m<=1073741824) :
  ∃v' w',exec P E (.call { callee:=.builtin .append,args:=#[x,y],argTypes:=#[t,t'] }) ty w=.ok (.value v') w'/\Appended vx l (List.replicate m (0:UInt8)) w v' w':=by
 subst hj;obtain⟨p,cap,rfl,hlc,hp⟩:=hl;have hown:Own w (.slice p l.length cap) l:=⟨p,cap,rfl,hlc,hp⟩
 have hzc:(Value.int .u8 0).cells=#[Value.int .u8 0]:=rfl;have henc:∀n,bl (List.replicate n (0:UInt8))=List.replicate n (.int .u8 0):=λn=>by
  rw[s8,List.map_replicate];rfl
 have key:∃v' w',(Builtin.append_ #[t,t'] ty #[.slice p l.length cap,.int .i64 m]).run P w=.ok v' w'/\Appended (.slice p l.length cap) l (List.replicate m (0:UInt8)) w v' w':=by
  unfold Builtin.append_;simp only[mI,sA,uN];rw[ar (run_underlying ht w)];simp only[];rw[ar (cx hi w)];rw[ar (run_underlying ht' w)];have happ:∀w':World,(if m*i.size=0 then (pure #[]:Sem (Array Value)) else do pure (Builtin.zeroCells (<-zeroValue e).cells m)).run P w'=.ok (bl (List.replicate m (0:UInt8))).toArray w':=λw'=>by
   rw[hsz,qL];by_cases h0:m=0
   ·rw[if_pos h0,h0];rfl
   ·rw[if_neg h0,ar (dq hi hz w'),hzc,xc,henc];rfl
  simp only[pure_bind,if_true,Bool.not_true,DA,if_false];have ha:(asInt (.int .i64 (m:Int))).run P w=.ok (m:Int) w:=rfl;rw[ar ha,jW (by omega)];rw[if_neg (by omega)];rw[ar (dF hi w)];have hnb0:¬((m:Int)*(i.bytes:Int) > 2 ^ 48):=by
   have:m*i.bytes<=1073741824*1024:=uk (by omega) hby
   have h2:((m*i.bytes:Nat):Int)<=1073741824*1024:=by omega
   rw[Int.natCast_mul] at h2;omega
  rw[if_neg hnb0];simp only[jk];by_cases hc:l.length+m<=cap
  ·rw[if_pos hc];rw[ar (happ w)];cases p with
   | none =>
    obtain⟨rfl,rfl⟩:=hp;have hm0:m=0:=by simpa using hc
    subst hm0;exact⟨_,w,rfl,⟨none,0,rfl,eh _,rfl,rfl⟩,Chg.refl' _ _,by intro b hb;simp[ay] at hb⟩
   | some a =>
    obtain⟨b,off,sp⟩:=a;obtain⟨h1,c,ee,fr,h2,h3,h4,h5⟩:=hp;simp only at h1 h2 h4 h5;subst h1;have hz1:Flat.sz UInt8=1:=rfl;rw[hz1,qL] at h4;have hlen:(bl (List.replicate m (0:UInt8))).length=m:=by rw[henc,cN]
    have hll:(bl l).length=l.length:=by rw[aV,hz1,qL]
    have hroom:off+l.length+(bl (List.replicate m (0:UInt8))).length<=c.size:=by omega
    simp only[eD,hsz,qL];rw[ar (fh _ h2 (by simpa using hroom) h3 (by simpa using gx _))];refine⟨_,_,rfl,⟨some ⟨b,off,none⟩,cap,by rw[aF,cN],by simpa using hc,rfl,_,ee,fr,eB (cG h2),h3.size (cY _ _ _),by rw[cY,hz1,qL];exact h4,?_⟩,?_,?_⟩
    ·intro k q hk;rw[dP] at hk;simp only at hk ⊢;by_cases hkl:k<(bl l).length
     ·rw[iK hkl] at hk;exact rD (by simpa using hroom) (h5 k q hk) (by omega)
     ·rw[fY (by omega)] at hk
      have:=vS (c:=c) (off:=off+l.length) (vs:=(bl (List.replicate m (0:UInt8))).toArray.toList) (by simpa using hroom) (by simpa using hk)
      rw[show off+l.length+(k-(bl l).length)=off+k from by omega] at this;exact this
    ·exact(Chg.set _ _ _).mono (λb hb _=>by simpa [ay] using hb)
    ·intro b hb;left;simpa [ay] using hb
  ·rw[if_neg hc];have hov:¬((l.length+m:Nat):Int) > IntKind.i64.max:=by
    have:IntKind.i64.max=9223372036854775807:=by decide
    omega
   rw[ar (dF hi w),if_neg (by intro h;exact absurd h.1 hov),ar (dF hi w)];have hnc:=ql (l.length+m) cap (by omega);have hnb:¬Builtin.nextslicecap (l.length+m) cap*i.bytes > 2 ^ 48:=by
    have:Builtin.nextslicecap (l.length+m) cap*i.bytes<=(4*1073741824+2000)*1024:=uk (by omega) hby
    omega
   rw[if_neg hnb];obtain⟨nc,hnc1,hch⟩:=mZ (P:=P) (w:=w) (need:=l.length+m) (cap:=cap) (e:=e);rw[ar hch];rw[ar (dF hi _),ar lN];have hf1:=((hown.sl.heap (w':={ w with drawn:=w.drawn+1 }) O).first (P:=P) l.length (aM _))
   rw[cX] at hf1;rw[hsz];have h1:Flat.sz UInt8=1:=rfl;rw[h1] at hf1;rw[ar hf1];have happ':=happ { w with drawn:=w.drawn+1 }
   rw[hsz] at happ';rw[ar happ',ar (dq hi hz _)];refine⟨.slice (some ⟨w.heap.size,0,none⟩) (l++List.replicate m (0:UInt8)).length nc,_,?_,rJ (w:={ w with drawn:=w.drawn+1 }) (l:=l++List.replicate m (0:UInt8)) (e:=e) (rest:=Builtin.zeroCells (Value.int .u8 0).cells (nc-(l.length+m))) (cap:=nc) (by simpa using hnc1) ?_,?_,?_⟩
   ·rw[aF,cN,dP];simp only[<-List.append_toArray];rfl
   ·rw[kX,aF,cN];rfl
   ·exact(Chg.push { w with drawn:=w.drawn+1 } _).mono (by simp)
   ·intro b hb;right;simp only[ay,gh] at hb;omega
 obtain⟨v',w',h1,h2⟩:=key;refine⟨v',w',?_,h2⟩;rw[sf,hx,hy];exact bh h1
end
abbrev W48:={ l:List UInt8 // l.length=48 }
def w48z:W48:=⟨List.replicate 48 0,rfl⟩
structure Slt where
 w:W48
 gen:UInt64
def slt0:Slt:=⟨w48z,0⟩
def vSlt(x:Slt):Value:=.agg (bl x.w.1++[Value.int .u64 x.gen.toNat]).toArray
structure SSt where
 full:List (Int×Slt)
 puts:UInt64
 dead:Bool
def vFull(m:List (Int×Slt)):List (Int×Value):=m.map λp=>(p.1,vSlt p.2)
def SlotAt(w:World)(sb fr b:Nat)(s:SSt):Prop :=
 Blk w sb [.pointer (some ⟨b,0,none⟩),.map (some fr),.int .u64 s.puts.toNat,.bool s.dead]/\MapAt w fr (vFull s.full)/\sb≠fr
theorem SlotAt.chg{w w':World}{sb fr b:Nat}{s:SSt}{S:List Nat}(h:SlotAt w sb fr b s)(hm:Chg S w w')(h1:sb∉S)(h2:fr∉S):SlotAt w' sb fr b s :=
 ⟨h.1.chg hm h1,h.2.1.mod hm h2,h.2.2⟩
theorem SlotAt.chg0{w w':World}{sb fr b:Nat}{s:SSt}(h:SlotAt w sb fr b s)(hm:Chg [] w w'):SlotAt w' sb fr b s:=h.chg hm (by simp) (by simp)
def eU(n:Nat)(w:List UInt8):List UInt8:=be 8 n++w++be 8 n
def Cf(l:List UInt8):UInt64:=UInt64.ofNat (dB (l.take 8))
def GF(l:List UInt8):UInt64:=UInt64.ofNat (dB (((l.drop 8).drop 48).take 8))
def EM(l:List UInt8):W48:=⟨((l.drop 8).take 48++List.replicate 48 0).take 48,by simp⟩
def dZ(l:List UInt8):UInt64×W48:=if GF l=Cf l then (Cf l,EM l) else (0,w48z)
def mn(l:List UInt8):List UInt8:=l++List.replicate (64-l.length) 0
theorem ix(n:Nat)(w:List UInt8):(eU n w).length=16+w.length:=by simp[eU,aP];omega
theorem ng(l:List UInt8)(h:l.length<=64):(mn l).length=64:=by simp[mn];omega
theorem unfW_eq(l:List UInt8)(h:l.length=64):(EM l).1=(l.drop 8).take 48:=by
 unfold EM;exact cP (by rw[bz,bE];omega)
def wrD(ds:DSt)(i:Int)(l:List UInt8):DSt×Int:=if (ds.write i (mn l)).2=0 then (ds.write i (mn l)).1.flush else ds.write i (mn l)
def SSt.died(s:SSt)(e:Int):SSt:={ s with dead:=s.dead||decide (e=61) }
def cntD(ds:DSt)(n:UInt64):DSt×Int:=wrD ds (24+((n % 2).toNat:Int)) (eU n.toNat w48z.1)
def qv(i:Int):Bool:=decide (0<=i)&&decide (i<24)
def mkW:Nat->Nat->DSt->DSt×Int
 | 0, _, ds => (ds, 0)
 | k + 1, i, ds => if (ds.write i (List.replicate 64 0)).2 = 0 then mkW k (i + 1) (ds.write i (List.replicate 64 0)).1 else ds.write i (List.replicate 64 0)
def makeD(ds:DSt):DSt×Int :=
 if ds.kept.length<64 then (ds,70)
 else if (mkW 26 0 ds).2=0 then (mkW 26 0 ds).1.flush else mkW 26 0 ds
def ss0:SSt:=⟨[],0,false⟩
def Cg(a b:UInt64):UInt64:=if a.toNat<=b.toNat then b else a
def SSt.reads(s:SSt)(i:Int)(l:List UInt8):SSt :=
 { s with puts:=Cg s.puts (dZ l).1,full:=if i<24/\0<(dZ l).1 then dU i ⟨(dZ l).2,(dZ l).1⟩ s.full else s.full }
def nF(ds:DSt)(n:Nat):SSt:=(List.range n).foldl (λ(s:SSt) (i:Nat)=>s.reads (i:Int) (ds.now (i:Int)).1) ss0
def H9(ds:DSt)(s:SSt)(i:Int)(kek key:List UInt8)(hk:key.length=32):DSt×SSt×Int :=
 if s.dead then (ds,s,260)
 else if qv i then
  let c:=cntD ds (s.puts+1)
  if c.2=0 then
   let s1:SSt:={ s.died c.2 with puts:=s.puts+1 }
   let x:Slt:=⟨⟨r8 kek i.toNat (s.puts+1).toNat key,iC _ _ _ _ hk⟩,s.puts+1⟩
   let d:=wrD c.1 i (eU x.gen.toNat x.w.1)
   if d.2=0 then (d.1,{ s1.died d.2 with full:=dU i x s1.full },0) else (d.1,s1.died d.2,d.2)
  else (c.1,s.died c.2,c.2)
 else (ds,s,70)
def wI(ds:DSt)(s:SSt)(i:Int):DSt×SSt×Int :=
 if s.dead then (ds,s,260)
 else if qv i then
  let d:=wrD ds i []
  if d.2=0 then (d.1,{ s.died d.2 with full:=kx i s.full },0) else (d.1,s.died d.2,d.2)
 else (ds,s,70)
def getS(s:SSt)(i:Int)(kek:List UInt8):List UInt8×Int :=
 if qv i then
  match cB i s.full with
  | none => (List.replicate 32 0, 120)
  | some x => if pK kek (db i.toNat x.gen.toNat) tWrap x.w.1 then (gH kek (db i.toNat x.gen.toNat) (x.w.1.take 32), 0) else (List.replicate 32 0, 50)
 else (List.replicate 32 0,70)
def usedS(s:SSt)(n:Nat):List Int:=((List.range n).map λ(i:Nat)=>(i:Int)).filter λi=>(cB i s.full).isSome
def freeS(s:SSt):Nat->Nat->Int
 | 0, _ => -1
 | k + 1, i => if (cB (i : Int) s.full).isSome then freeS s k (i + 1) else i
theorem max_u64(a b:UInt64):max (a.toNat:Int) (b.toNat:Int)=((Cg a b).toNat:Int):=by
 unfold Cg;split <;> omega
def sltC(x:Slt):List Value:=bl x.w.1++[Value.int .u64 x.gen.toNat]
theorem wrD_pos{ds:DSt}{i:Int}{l:List UInt8}(h:(ds.write i (mn l)).2=0):wrD ds i l=(ds.write i (mn l)).1.flush:=by unfold wrD;rw[if_pos h]
theorem qi(ds:DSt)(n:Nat):nF ds (n+1)=(nF ds n).reads n (ds.now n).1:=by
 unfold nF;rw[iA,l6];rfl
theorem qh(ds:DSt):nF ds 0=ss0:=rfl
def RunD(w0 w:World)(b:Nat)(kv:Value)(r:Nat)(ds:DSt):Prop:=DiskAt w b kv r ds/\Chg [] w0 w/\∀x∈DF b kv r,w0.heap.size<=x
def RunS(w0 w:World)(sb fr b:Nat)(kv:Value)(r:Nat)(s:SSt):Prop:=SlotAt w sb fr b s/\(sb∉DF b kv r/\fr∉DF b kv r)/\w0.heap.size<=sb/\w0.heap.size<=fr
theorem RunD.chg0{w0 w w':World}{b r:Nat}{kv:Value}{ds:DSt}(h:RunD w0 w b kv r ds)(hm:Chg [] w w'):RunD w0 w' b kv r ds:=⟨h.1.chg0 hm,h.2.1.tr hm,h.2.2⟩
theorem RunS.chg0{w0 w w':World}{sb fr b r:Nat}{kv:Value}{s:SSt}(h:RunS w0 w sb fr b kv r s)(hm:Chg [] w w'):RunS w0 w' sb fr b kv r s:=⟨h.1.chg0 hm,h.2⟩
attribute [irreducible] dZ nF wrD mkW makeD
end Go.Sac
section
namespace Go.Sac
open Go
abbrev PgF:=UInt32->Bool
def ko:PgF:=λ_=>false
def A8(g:Nat->Bool):UInt8:=UInt8.ofNat ((List.range 8).foldl (λn k=>n ||| (g k).toNat <<< k) 0)
theorem Dd(g:Nat->Bool)(k:Nat)(hk:k<8):(A8 g).toNat.testBit k=g k:=by
 have h:∀b0 b1 b2 b3 b4 b5 b6 b7:Bool,∀k:Fin 8,(UInt8.ofNat (0 ||| b0.toNat <<< 0 ||| b1.toNat <<< 1 ||| b2.toNat <<< 2 ||| b3.toNat <<< 3 ||| b4.toNat <<< 4 ||| b5.toNat <<< 5 ||| b6.toNat <<< 6 ||| b7.toNat <<< 7)).toNat.testBit k=[b0,b1,b2,b3,b4,b5,b6,b7].getD k false:=by decide +kernel
 have:=h (g 0) (g 1) (g 2) (g 3) (g 4) (g 5) (g 6) (g 7) ⟨k,hk⟩
 unfold A8;simp only[List.range,List.range.loop,List.foldl];rw[this];rcases k with _|_|_|_|_|_|_|_|k <;> first|rfl|omega
theorem HY{a b:UInt8}(h:∀k,k<8->a.toNat.testBit k=b.toNat.testBit k):a=b:=by
 apply UInt8.toNat_inj.1;apply Nat.eq_of_testBit_eq;intro k;by_cases hk:k<8
 ·exact h k hk
 ·have ha:=a.toNat_lt;have hb:=b.toNat_lt;have h2:2 ^ 8<=2 ^ k:=mN (by omega) (by omega);rw[Nat.testBit_lt_two_pow (by omega),Nat.testBit_lt_two_pow (by omega)]
def eP(f:PgF):List UInt8:=(List.range 50).map λi=>A8 λk=>f (UInt32.ofNat (8*i+k))
def ju(l:List UInt8)(k:Nat):Bool:=(l.getD (k / 8) 0).toNat.testBit (k % 8)
def qe(l:List UInt8):PgF:=λk=>decide (k.toNat<400)&&ju l k.toNat
theorem fw(f:PgF):(eP f).length=50:=by simp[eP]
theorem CP(f:PgF)(i:Nat)(h:i<50):(eP f).getD i 0=A8 λk=>f (UInt32.ofNat (8*i+k)):=by
 unfold eP;rw[eI,mJ,List.getElem?_range h];rfl
theorem wo(f:PgF)(k:Nat)(h:k<400):ju (eP f) k=f (UInt32.ofNat k):=by
 unfold ju;rw[CP f _ (by omega),Dd _ _ (by omega)];congr 2;omega
theorem Df{f:PgF}{l:List UInt8}(hl:l.length=50)(h:∀k,k<400->ju l k=f (UInt32.ofNat k)):l=eP f:=by
 apply lS;intro i;by_cases hi:i<50
 ·have h1:l[i]?=some (l.getD i 0):=by rw[eI,bM (by omega)];rfl
  have h2:(eP f)[i]?=some ((eP f).getD i 0):=by rw[eI,bM (by rw[fw];exact hi)];rfl
  rw[h1,h2];congr 1;apply HY;intro k hk;have q1:=h (8*i+k) (by omega);have q2:=wo f (8*i+k) (by omega);rw[<-q2] at q1;unfold ju at q1;rw[show(8*i+k) / 8=i by omega,show(8*i+k) % 8=k by omega] at q1;exact q1
 ·rw[nN (by omega),nN (by rw[fw];omega)]
theorem tJ{f:PgF}(h:∀k,f k=true->k.toNat<400):qe (eP f)=f:=by
 funext k
 unfold qe;by_cases hk:k.toNat<400
 ·rw[decide_eq_true hk,j4,wo f _ hk,z7]
 ·rw[decide_eq_false hk,Bool.false_and];cases hf:f k with
  | false => rfl
  | true => exact absurd (h k hf) hk
theorem yc{l:List UInt8}{k:UInt32}(h:qe l k=true):k.toNat<400:=by
 unfold qe at h;simp only[j9,decide_eq_true_eq] at h;exact h.1
structure Sup where
 root:UInt32
 txt:List UInt8
 used:PgF
 written:PgF
 commit:UInt64
 epoch:UInt32
def Cj:List UInt8:=[115,117,112,101,114]
def bB:List UInt8:=[112,97,103,101]
def lM(k b:List UInt8):List UInt8:=qn (bm k Cj 0) b
def iN(s:Sup):List UInt8:=be 8 s.commit.toNat++be 4 s.epoch.toNat++be 4 s.root.toNat++(be 2 s.txt.length++s.txt)++eP s.used++eP s.written
def cw(k:List UInt8)(s:Sup):List UInt8:=iN s++lM k (iN s)
theorem kJ(k b:List UInt8):(lM k b).length=32:=ea _ _
theorem pE(s:Sup):(iN s).length=118+s.txt.length:=by simp[iN,aP,fw];omega
theorem gM(k:List UInt8)(s:Sup):(cw k s).length=150+s.txt.length:=by
 rw[cw,aF,pE,kJ];omega
def txN(b:List UInt8):Nat:=dB ((b.drop 16).take 2)
def kD(b:List UInt8):Sup :=
 ⟨UInt32.ofNat (dB ((b.drop 12).take 4)),(b.drop 18).take (txN b),qe ((b.drop (18+txN b)).take 50),qe ((b.drop (68+txN b)).take 50),UInt64.ofNat (dB (b.take 8)),UInt32.ofNat (dB ((b.drop 8).take 4))⟩
def dT(k b:List UInt8):Option Sup :=
 if b.length<56∨200<txN b∨b.length<150+txN b then none
 else if (b.drop (118+txN b)).take 32=lM k (b.take (118+txN b)) then some (kD b) else none
def fJ:Nat->List UInt8->List UInt8->List UInt8
 | 0, _, _ => []
 | n + 1, nb, b => (nb ++ b.take 56 ++ List.replicate (56 - (b.take 56).length) 0 ++ nb) ++ fJ n nb (b.drop 56)
def dN(b:List UInt8)(n:UInt64):List UInt8:=fJ ((b.length+55) / 56) (be 4 n.toNat) b
def nA(nb:List UInt8):Nat->List UInt8->List UInt8
 | 0, _ => []
 | n + 1, b => if b.take 4 = nb /\ (b.drop 60).take 4 = nb then (b.drop 4).take 56 ++ nA nb n (b.drop 64) else []
def iP(b:List UInt8):List UInt8:=nA (b.take 4) (b.length / 64) b
def my:Nat->List UInt8->List UInt64
 | 0, _ => []
 | n + 1, b => UInt64.ofNat (dB (b.take 4)) :: UInt64.ofNat (dB ((b.drop 60).take 4)) :: my n (b.drop 64)
def gq(b:List UInt8):List UInt64:=my (b.length / 64) b
def m5(c x:UInt64):UInt64:=dm ((gL ((x-c).toNat:Int)).toNat:Int)
theorem FO(c x:UInt64):m5 c x=(x-c).toUInt32.toUInt64:=by unfold m5;rw[xX,sH]
def fm(c n x:UInt64):UInt64:=if m5 c x<65536 then Cg n (c+m5 c x) else n
def E3(c:UInt64)(l:List UInt64):UInt64:=l.foldl (fm c) c+1
theorem pJ:∀(n:Nat) (nb b:List UInt8),nb.length=4->(fJ n nb b).length=64*n
 | 0, _, _, _ => rfl
 | n + 1, nb, b, h => by
  rw[fJ,aF,pJ n nb _ h];simp only[aF,cN,bz,h];omega
theorem lX(b:List UInt8)(n:UInt64):(dN b n).length=64*((b.length+55) / 56):=pJ _ _ _ (aP _ _)
theorem xU(nb:List UInt8):∀(n:Nat) (b:List UInt8),b.length=64*n->∃m,(nA nb n b).length=56*m/\m<=n
 | 0, _, _ => ⟨0, rfl, aM _⟩
 | n + 1, b, h => by
  rw[nA]
  split
  ·obtain⟨m,h1,h2⟩:=xU nb n (b.drop 64) (by rw[bE];omega);exact⟨m+1,by rw[aF,h1,bz,bE];omega,by omega⟩
  ·exact⟨0,rfl,by omega⟩
theorem kM:∀(n:Nat) (b:List UInt8),(my n b).length=2*n
 | 0, _ => rfl
 | n + 1, b => by rw [my, cg, cg, kM n]; omega
namespace DSt
def wr:Nat->DSt->Int->List UInt8->DSt×Int
 | 0, s, _, _ => (s, 0)
 | n + 1, s, i, l => if (s.write i (l.take 64)).2 = 0 then wr n (s.write i (l.take 64)).1 (i + 1) (l.drop 64) else s.write i (l.take 64)
def writes(s:DSt)(i:Int)(l:List UInt8):DSt×Int:=wr ((l.length+63) / 64) s i l
def reads(s:DSt)(i:Int)(n:Nat):List UInt8:=(List.range n).flatMap λ(k:Nat)=>(s.now (i+(k:Int))).1
theorem reads_succ(s:DSt)(i:Int)(n:Nat):s.reads i (n+1)=s.reads i n++(s.now (i+(n:Int))).1:=by
 unfold reads;rw[iA,nO];simp
theorem reads_zero(s:DSt)(i:Int):s.reads i 0=[]:=rfl
theorem reads_length(s:DSt)(i:Int)(n:Nat):(s.reads i n).length=64*n:=by
 induction n with
 | zero => rfl
 | succ n ih => rw [reads_succ, aF, ih, (s.now _).2]; omega
end DSt
def iV(n:Nat):Int:=min ((max ((n:Int)-32) 0) / 8) 400
def fz(ds:DSt)(i:Nat):List UInt8:=ds.reads ((i:Int)*16) 16
def ei(k:List UInt8)(ds:DSt)(best:Option (Sup×Nat))(i:Nat):Option (Sup×Nat) :=
 match dT k (iP (fz ds i)) with
 | none => best
 | some s => match best with
  | none => some (s, i)
  | some (b, j) => if b.commit < s.commit then some (s, i) else some (b, j)
def newest(k:List UInt8)(ds:DSt):Option (Sup×Nat):=ei k ds (ei k ds none 0) 1
def jA(best:Option (Sup×Nat)):UInt64:=match best with|none=>0|some (s,_)=>s.commit
def pA(best:Option (Sup×Nat)):Int:=match best with|none => -1|some (_,j)=>j
def uc(best:Option (Sup×Nat)):UInt32:=match best with|none=>0|some (s,_)=>s.epoch
def fe(k:List UInt8)(ds:DSt):UInt64:=E3 (jA (newest k ds)) (gq (fz ds 0)++gq (fz ds 1))
def cU(k:List UInt8)(ds:DSt)(at_:Nat)(s:Sup):DSt×Int :=
 if (ds.writes ((at_:Int)*16) (dN (cw k s) s.commit)).2=0 then (ds.writes ((at_:Int)*16) (dN (cw k s) s.commit)).1.flush
 else ds.writes ((at_:Int)*16) (dN (cw k s) s.commit)
namespace DSt
theorem wr_bnd(n:Nat):∀(ds:DSt) (i:Int) (l:List UInt8),ds.Fine->ds.steps+n<=1000000000000->(wr n ds i l).1.Fine/\(wr n ds i l).1.steps<=ds.steps+n/\(wr n ds i l).1.kept=ds.kept:=by
 induction n with
 | zero => intro ds i l hf hs; exact ⟨hf, aM _, rfl⟩
 | succ n ih =>
  intro ds i l hf hs;have h1:=hf.write (by omega) i (l.take 64);have h2:=write_steps ds i (l.take 64);have h3:=write_kept ds i (l.take 64);rw[wr];by_cases h:(ds.write i (l.take 64)).2=0
  ·rw[if_pos h];obtain⟨q1,q2,q3⟩:=ih _ (i+1) (l.drop 64) h1 (by omega);exact⟨q1,by omega,by rw[q3,h3]⟩
  ·rw[if_neg h];exact⟨h1,by omega,h3⟩
end DSt
end Go.Sac

end
namespace Go.Sac
open Go
set_option maxRecDepth 100000
def keyN(n:UInt8):List UInt8:=n::(List.replicate 30 0++[200])
def sv(l:List UInt8):Option Slt:=if 0<(dZ l).1 then some ⟨(dZ l).2,(dZ l).1⟩ else none
theorem oW(n:UInt64):UInt64.ofNat (dB (be 8 n.toNat))=n:=by
 rw[gF];apply UInt64.toNat_inj.1;rw[ef]
 have:=n.toNat_lt
 have h:(256:Nat) ^ 8=18446744073709551616:=by decide
 rw[h];omega
theorem B9(n:Nat)(w:List UInt8):(eU n w).take 8=be 8 n:=by
 unfold eU;rw[bP,cP (aP 8 n)]
theorem tT(n:Nat)(w:List UInt8):(eU n w).drop 8=w++be 8 n:=by
 unfold eU;rw[bP,ej (aP 8 n)]
theorem ri(l:List UInt8):dZ l=if GF l=Cf l then (Cf l,EM l) else (0,w48z):=by unfold dZ;rfl
theorem kn(n:UInt64)(x:W48):dZ (eU n.toNat x.1)=(n,x):=by
 have h1:Cf (eU n.toNat x.1)=n:=by unfold Cf;rw[B9,oW]
 have h2:GF (eU n.toNat x.1)=n:=by
  unfold GF;rw[tT,ej x.2,cd (by rw[aP];omega),oW]
 have h3:EM (eU n.toNat x.1)=x:=by
  apply Subtype.ext;rw[unfW_eq _ (by rw[ix,x.2]),tT,cP x.2]
 rw[ri,if_pos (by rw[h1,h2]),h1,h3]
theorem pC:dZ (List.replicate 64 0)=(0,w48z):=by
 have h1:Cf (List.replicate 64 0)=0:=by decide
 have h2:GF (List.replicate 64 0)=0:=by decide
 have h3:EM (List.replicate 64 0)=w48z:=by apply Subtype.ext;decide
 rw[ri,if_pos (by rw[h1,h2]),h1,h3]
theorem DO:sv (List.replicate 64 0)=none:=by unfold sv;rw[pC];rfl
theorem y4(n:UInt64)(x:W48)(h:0<n):sv (eU n.toNat x.1)=some ⟨x,n⟩:=by
 unfold sv;rw[kn,if_pos h]
def px(l:List UInt8):Sec:=DSt.putS sec0 (mn l)
theorem zD(l:List UInt8)(h:l.length<=64):(px l).1=mn l:=by
 have hl:=ng l h;unfold px;rw[oV _ _ (by omega),hl,gj (kF sec0.2),cE]
theorem H5(c:Sec)(l:List UInt8)(h:l.length<=64):DSt.putS c (mn l)=px l:=by
 have hl:=ng l h;apply Subtype.ext;rw[zD l h,oV _ _ (by omega),hl,gj (kF c.2),cE]
theorem CH(l:List UInt8)(h:l.length=64):mn l=l:=by simp[mn,h]
theorem FM(k:List Sec)(i:Int)(c:Sec)(hi:0<=i):DSt.apply k [(i,c)]=k.set i.toNat c:=by
 have:=wR k [] i c hi (by simp)
 rwa [dG,yJ] at this
theorem Ce{ds:DSt}{i:Int}{l:List UInt8}(h0:ds.offAt=0)(hp:ds.pend=[])(hi:0<=i)(hi2:i<ds.kept.length)(hl:l.length<=64) :
  wrD ds i l=(⟨ds.steps+2,0,ds.kept.set i.toNat (px l),[]⟩,0):=by
 have hw:ds.write i (mn l)=(⟨ds.steps+1,0,ds.kept,[(i,px l)]⟩,0):=by
  have ho:ds.step.off=false:=by simp[DSt.off,DSt.step,h0]
  have his:ds.is i=true:=by simp[DSt.is,hi,hi2]
  unfold DSt.write;rw[if_neg (by rw[ho];decide),if_neg (by rw[his,decide_eq_false (by rw[ng l hl];omega)];decide),hp,H5 _ _ hl];simp[dU,DSt.step,h0]
 rw[wrD_pos (by rw[hw]),hw];unfold DSt.flush;rw[if_neg (by simp[DSt.off,DSt.step])];simp only[DSt.step,FM _ _ _ hi]
structure SInv(ds:DSt)(s:SSt):Prop where
 pend:ds.pend=[]
 len:64<=ds.kept.length
 full:∀i:Nat,i<24->cB (i:Int) s.full=sv (ds.kept.getD i sec0).1
 keys:(s.full.map (·.1)).Nodup
 gens:∀i:Nat,i<26->(dZ (ds.kept.getD i sec0).1).1.toNat<=s.puts.toNat
theorem wm{ν:Type}(i k:Int)(v:ν)(m:List (Int×ν)):cB i (dU k v m)=if i=k then some v else cB i m:=by
 induction m with
 | nil =>
  simp only[dU,cB]
 | cons p m ih =>
  obtain⟨x,u⟩:=p;simp only[dU];by_cases h:k=x
  ·subst h;simp only[if_true,cB];by_cases hi:i=k <;> simp[hi]
  ·simp only[h,if_false,cB];by_cases hi:i=x
   ·subst hi
    have:¬i=k:=λe=>h e.symm
    simp[this]
   ·simp only[hi,if_false];exact ih
theorem xq{ν:Type}(k:Int)(v:ν)(m:List (Int×ν)):(dU k v m).map (·.1)=if k∈m.map (·.1) then m.map (·.1) else m.map (·.1)++[k]:=by
 induction m with
 | nil => simp [dU]
 | cons p m ih =>
  obtain⟨x,u⟩:=p;simp only[dU];by_cases h:k=x
  ·subst h;simp
  ·simp only[h,if_false,eV,bZ,false_or,ih]
   split <;> simp
theorem tP{ν:Type}(k:Int)(v:ν)(m:List (Int×ν))(h:(m.map (·.1)).Nodup):((dU k v m).map (·.1)).Nodup:=by
 rw[xq]
 split
 ·exact h
 ·rename_i hk
  rw[kh];exact⟨h,by simp,λa ha b hb=>by simp at hb;subst hb;exact λe=>hk (e▸ha)⟩
theorem Hz{ν:Type}(k:Int)(m:List (Int×ν)):(kx k m).Sublist m:=by
 induction m with
 | nil => exact List.Sublist.refl _
 | cons p m ih =>
  obtain⟨x,u⟩:=p;simp only[kx]
  split
  ·exact um _ _
  ·exact ih.cons_cons _
theorem Fm{ν:Type}(i k:Int)(m:List (Int×ν))(h:(m.map (·.1)).Nodup):cB i (kx k m)=if i=k then none else cB i m:=by
 induction m with
 | nil => simp [kx, cB]
 | cons p m ih =>
  obtain⟨x,u⟩:=p;simp only[eV,jC] at h;simp only[kx];by_cases hk:k=x
  ·subst hk;simp only[if_true];by_cases hi:i=k
   ·subst hi;rw[if_pos rfl,sU h.1]
   ·rw[if_neg hi];simp[cB,hi]
  ·simp only[hk,if_false,cB];by_cases hi:i=x
   ·subst hi
    have:¬i=k:=λe=>hk e.symm
    simp[this]
   ·simp only[hi,if_false];exact ih h.2
theorem rV{α:Type}(l:List α)(i j:Nat)(a d:α)(h:i<l.length):(l.set i a).getD j d=if i=j then a else l.getD j d:=by
 rw[eI,yS,eI];by_cases hij:i=j
 ·subst hij;simp[h]
 ·simp[hij]
def rE(k:List Sec)(n:UInt64)(i:Nat)(w:List UInt8):List Sec :=
 (k.set (24+(n % 2).toNat) (px (eU n.toNat w48z.1))).set i (px (eU n.toNat w))
theorem DY{ds:DSt}{s:SSt}{i:Nat}{kek key:List UInt8}(hy:key.length=32)(h0:ds.offAt=0)(hp:ds.pend=[])(hl:64<=ds.kept.length)(hdd:s.dead=false)(hi:i<24) :
  H9 ds s i kek key hy=(⟨ds.steps+4,0,rE ds.kept (s.puts+1) i (r8 kek i (s.puts+1).toNat key),[]⟩,
   ⟨dU (i:Int) ⟨⟨r8 kek i (s.puts+1).toNat key,iC _ _ _ _ hy⟩,s.puts+1⟩ s.full,s.puts+1,false⟩,0):=by
 have h2:((s.puts+1) % 2).toNat<2:=by rw[UInt64.toNat_mod];exact qM _ (by decide)
 have hc:cntD ds (s.puts+1)=(⟨ds.steps+2,0,ds.kept.set (24+((s.puts+1) % 2).toNat) (px (eU (s.puts+1).toNat w48z.1)),[]⟩,0):=by
  unfold cntD;rw[Ce h0 hp (by omega) (by omega) (by rw[ix,w48z.2];decide)];congr 3
 have hw:∀l:List UInt8,l.length<=64->wrD ⟨ds.steps+2,0,ds.kept.set (24+((s.puts+1) % 2).toNat) (px (eU (s.puts+1).toNat w48z.1)),[]⟩ (i:Int) l=(⟨ds.steps+2+2,0,(ds.kept.set (24+((s.puts+1) % 2).toNat) (px (eU (s.puts+1).toNat w48z.1))).set i (px l),[]⟩,0):=by
  intro l hl';rw[Ce rfl rfl (by omega) (by simp only[gR];omega) hl'];rfl
 have his:qv (i:Int)=true:=by simp[qv];omega
 unfold H9;rw[if_neg (by rw[hdd];decide),if_pos his];simp only[hc,if_true,jk];rw[hw _ (by rw[ix,iC _ _ _ _ hy];decide)];simp only[if_true,SSt.died,hdd];rfl
theorem yy{ds:DSt}{s:SSt}{i:Nat}(h0:ds.offAt=0)(hp:ds.pend=[])(hl:64<=ds.kept.length)(hdd:s.dead=false)(hi:i<24) :
  wI ds s i=(⟨ds.steps+2,0,ds.kept.set i (px []),[]⟩,⟨kx (i:Int) s.full,s.puts,false⟩,0):=by
 have his:qv (i:Int)=true:=by simp[qv];omega
 have hw:=Ce (i:=(i:Int)) (l:=[]) h0 hp (by omega) (by omega) (by decide);unfold wI;rw[if_neg (by rw[hdd];decide),if_pos his];simp only[hw,if_true,SSt.died,hdd,jk];rfl
theorem ry(l:List UInt8)(h:l.length=64):(px l).1=l:=by rw[zD l (by omega),CH l h]
theorem vE:(px []).1=List.replicate 64 0:=zD [] (by decide)
theorem vU(k:List Sec)(n:UInt64)(i:Nat)(w:List UInt8):(rE k n i w).length=k.length:=by simp[rE]
theorem nZ(k:List Sec)(n:UInt64)(i j:Nat)(w:List UInt8)(hl:64<=k.length)(hi:i<24) :
  (rE k n i w).getD j sec0=if i=j then px (eU n.toNat w) else if 24+(n % 2).toNat=j then px (eU n.toNat w48z.1) else k.getD j sec0:=by
 have h2:(n % 2).toNat<2:=by rw[UInt64.toNat_mod];exact qM _ (by decide)
 unfold rE;rw[rV _ _ _ _ _ (by rw[gR];omega),rV _ _ _ _ _ (by omega)]
theorem SInv.put{ds:DSt}{s:SSt}{i:Nat}{kek key:List UInt8}(h:SInv ds s)(hy:key.length=32)(h0:ds.offAt=0)(hdd:s.dead=false)(hi:i<24)(hpu:s.puts.toNat<1000000000000) :
  SInv (H9 ds s i kek key hy).1 (H9 ds s i kek key hy).2.1:=by
 obtain⟨h1,h2,h3,h4,h5⟩:=h;have hn:(s.puts+1).toNat=s.puts.toNat+1:=by
  rw[oE];show(s.puts.toNat+1) % 18446744073709551616=_;omega
 have hpos:0<s.puts+1:=by rw[mL,hn];exact Nat.succ_pos _
 rw[DY hy h0 h1 h2 hdd hi]
 generalize hx:(⟨r8 kek i (s.puts+1).toNat key,iC _ _ _ _ hy⟩:W48)=x
 have hxw:r8 kek i (s.puts+1).toNat key=x.1:=by rw[<-hx]
 rw[hxw];have hfl:∀y:W48,(eU (s.puts+1).toNat y.1).length=64:=λy=>by rw[ix,y.2]
 refine⟨rfl,by simp only[vU];exact h2,λj hj=>?_,tP _ _ _ h4,λj hj=>?_⟩
 ·simp only;rw[wm,nZ _ _ _ _ _ h2 hi];by_cases hij:i=j
  ·subst hij;rw[if_pos rfl,if_pos rfl,ry _ (hfl x),y4 _ _ hpos]
  ·have:¬(j:Int)=(i:Int):=by omega
   rw[if_neg this,if_neg hij,if_neg (by omega)];exact h3 j hj
 ·simp only;rw[nZ _ _ _ _ _ h2 hi];by_cases hij:i=j
  ·rw[if_pos hij,ry _ (hfl x),kn];exact aM _
  ·rw[if_neg hij]
   split
   ·rw[ry _ (hfl w48z),kn];exact aM _
   ·have:=h5 j hj;omega
theorem SInv.erase{ds:DSt}{s:SSt}{i:Nat}(h:SInv ds s)(h0:ds.offAt=0)(hdd:s.dead=false)(hi:i<24) :
  SInv (wI ds s i).1 (wI ds s i).2.1:=by
 obtain⟨h1,h2,h3,h4,h5⟩:=h;rw[yy h0 h1 h2 hdd hi];refine⟨rfl,by simp only[gR];exact h2,λj hj=>?_,(((Hz _ _).map _).nodup h4),λj hj=>?_⟩
 ·simp only;rw[Fm _ _ _ h4,rV _ _ _ _ _ (by omega)];by_cases hij:i=j
  ·subst hij;rw[if_pos rfl,if_pos rfl,vE,DO]
  ·have:¬(j:Int)=(i:Int):=by omega
   rw[if_neg this,if_neg hij];exact h3 j hj
 ·simp only;rw[rV _ _ _ _ _ (by omega)]
  split
  ·rw[vE,pC];exact eh _
  ·exact h5 j hj
theorem vv(a b:UInt64):(Cg a b).toNat=max a.toNat b.toNat:=by unfold Cg;split <;> omega
theorem AS{ds:DSt}(h:ds.pend=[])(i:Nat):ds.now i=ds.kept.getD i sec0:=by
 unfold DSt.now;rw[h];rfl
theorem Ff(ds:DSt)(n:Nat)(i:Nat):cB (i:Int) (nF ds n).full=if i<n/\i<24 then sv (ds.now i).1 else none:=by
 induction n with
 | zero => rw [qh]; simp [ss0, cB]
 | succ n ih =>
  rw[qi];unfold SSt.reads;simp only;by_cases hc:(n:Int)<24/\0<(dZ (ds.now n).1).1
  ·rw[if_pos hc,wm];by_cases hin:i=n
   ·subst hin;rw[if_pos rfl,if_pos (by omega)];unfold sv;rw[if_pos hc.2]
   ·rw[if_neg (by omega),ih];by_cases h1:i<n/\i<24
    ·rw[if_pos h1,if_pos (by omega)]
    ·rw[if_neg h1,if_neg (by omega)]
  ·rw[if_neg hc,ih];by_cases hin:i=n
   ·subst hin;rw[if_neg (by omega)]
    split
    ·rename_i h24
     unfold sv;rw[if_neg (λh=>hc ⟨by omega,h⟩)]
    ·rfl
   ·by_cases h1:i<n/\i<24
    ·rw[if_pos h1,if_pos (by omega)]
    ·rw[if_neg h1,if_neg (by omega)]
theorem CK(ds:DSt)(n:Nat):((nF ds n).full.map (·.1)).Nodup:=by
 induction n with
 | zero => rw [qh]; simp [ss0]
 | succ n ih =>
  rw[qi];unfold SSt.reads;simp only
  split
  ·exact tP _ _ _ ih
  ·exact ih
theorem CJ(ds:DSt)(n:Nat):(∀i,i<n->(dZ (ds.now i).1).1.toNat<=(nF ds n).puts.toNat)/\∀B,(∀i:Nat,i<n->(dZ (ds.now i).1).1.toNat<=B)->(nF ds n).puts.toNat<=B:=by
 induction n with
 | zero => rw [qh]; exact ⟨λi h => by omega, λB _ => eh _⟩
 | succ n ih =>
  rw[qi];have hp:((nF ds n).reads n (ds.now n).1).puts=Cg (nF ds n).puts (dZ (ds.now n).1).1:=rfl;rw[hp,vv];refine⟨λi hi=>?_,λB hB=>?_⟩
  ·by_cases hin:i=n
   ·subst hin;omega
   ·have:=ih.1 i (by omega);omega
  ·have h1:=ih.2 B (λi hi=>hB i (by omega));have h2:=hB n (by omega);omega
theorem SInv.open{ds:DSt}(hp:ds.pend=[])(hl:64<=ds.kept.length):SInv ds (nF ds 26):=by
 refine⟨hp,hl,λi hi=>?_,CK _ _,λi hi=>?_⟩
 ·rw[Ff,if_pos (by omega),AS hp]
 ·have:=(CJ ds 26).1 i hi
  rwa [AS hp] at this
def HoldsS(ds:DSt)(C:Nat->Option (List UInt8×List UInt8)):Prop :=
 ∀i,i<24->match C i with
  | none => sv (ds.kept.getD i sec0).1 = none
  | some (k, y) => ∃ (h : y.length = 32) (g : UInt64), 0 < g /\ sv (ds.kept.getD i sec0).1 = some ⟨⟨r8 k i g.toNat y, iC _ _ _ _ h⟩, g⟩
def setC(C:Nat->Option (List UInt8×List UInt8))(i:Nat)(v:Option (List UInt8×List UInt8)):Nat->Option (List UInt8×List UInt8):=λj=>if j=i then v else C j
theorem HoldsS.is{ds:DSt}{s:SSt}{C:Nat->Option (List UInt8×List UInt8)}(h:SInv ds s)(hC:HoldsS ds C){i:Nat}(hi:i<24):(cB (i:Int) s.full).isSome=(C i).isSome:=by
 have h1:=hC i hi;rw[h.full i hi];cases hc:C i with
 | none => rw [hc] at h1; simp only at h1; rw [h1]; rfl
 | some p =>
  obtain⟨k,y⟩:=p;rw[hc] at h1;obtain⟨hy,g,hg,hsv⟩:=h1;rw[hsv];rfl
theorem HoldsS.put{ds:DSt}{s:SSt}{C:Nat->Option (List UInt8×List UInt8)}{i:Nat}{kek key:List UInt8}(h:SInv ds s)(hC:HoldsS ds C)(hy:key.length=32)(h0:ds.offAt=0)(hdd:s.dead=false)(hi:i<24)(hpu:s.puts.toNat<1000000000000) :
  HoldsS (H9 ds s i kek key hy).1 (setC C i (some (kek,key))):=by
 have hn:(s.puts+1).toNat=s.puts.toNat+1:=by
  rw[oE];show(s.puts.toNat+1) % 18446744073709551616=_;omega
 have hpos:0<s.puts+1:=by rw[mL,hn];exact Nat.succ_pos _
 rw[DY hy h0 h.pend h.len hdd hi];intro j hj;simp only;rw[nZ _ _ _ _ _ h.len hi];unfold setC;by_cases hij:j=i
 ·subst hij;rw[if_pos rfl,if_pos rfl];have hwl:=iC kek j (s.puts+1).toNat key hy;refine⟨hy,s.puts+1,hpos,?_⟩
  have:=y4 (s.puts+1) ⟨r8 kek j (s.puts+1).toNat key,hwl⟩ hpos
  rw[ry _ (by rw[ix,hwl])];exact this
 ·rw[if_neg hij,if_neg (λe=>hij e.symm),if_neg (by omega)];exact hC j hj
theorem HoldsS.erase{ds:DSt}{s:SSt}{C:Nat->Option (List UInt8×List UInt8)}{i:Nat}(h:SInv ds s)(hC:HoldsS ds C)(h0:ds.offAt=0)(hdd:s.dead=false)(hi:i<24) :
  HoldsS (wI ds s i).1 (setC C i none):=by
 rw[yy h0 h.pend h.len hdd hi];intro j hj;simp only;have hlen:=h.len;rw[rV _ _ _ _ _ (by omega)];unfold setC;by_cases hij:j=i
 ·subst hij;rw[if_pos rfl,if_pos rfl];simp only;rw[vE,DO]
 ·rw[if_neg hij,if_neg (λe=>hij e.symm)];exact hC j hj
theorem FN(k:List Sec)(m:List (Int×Sec))(j:Nat)(h:j<k.length):(DSt.apply k m).getD j sec0=(cB (j:Int) m).getD (k.getD j sec0):=by
 unfold DSt.apply;rw[eI,yT,eI,bM h];rfl
def dsN(n:Nat):DSt:=⟨0,0,List.replicate n sec0,[]⟩
theorem Bp(n:Nat)(h:n<=4000):(dsN n).Fine:=⟨eh _,eh _,λp hp=>by simp[dsN] at hp,by simpa [dsN] using h⟩
end Go.Sac
namespace Go.Sac
open Go
theorem qm{κ ν:Type}[DecidableEq κ](i k:κ)(v:ν)(m:List (κ×ν)):cB i (dU k v m)=if i=k then some v else cB i m:=by
 induction m with
 | nil =>
  simp only[dU,cB]
 | cons p m ih =>
  obtain⟨x,u⟩:=p;simp only[dU];by_cases h:k=x
  ·subst h;simp only[if_true,cB];by_cases hi:i=k <;> simp[hi]
  ·simp only[h,if_false,cB];by_cases hi:i=x
   ·subst hi
    have:¬i=k:=λe=>h e.symm
    simp[this]
   ·simp only[hi,if_false];exact ih
theorem CO{κ ν:Type}[DecidableEq κ](i k:κ)(m:List (κ×ν))(h:(m.map (·.1)).Nodup):cB i (kx k m)=if i=k then none else cB i m:=by
 induction m with
 | nil => simp [kx, cB]
 | cons p m ih =>
  obtain⟨x,u⟩:=p;simp only[eV,jC] at h;simp only[kx];by_cases hk:k=x
  ·subst hk;simp only[if_true];by_cases hi:i=k
   ·subst hi;rw[if_pos rfl,sU h.1]
   ·rw[if_neg hi];simp[cB,hi]
  ·simp only[hk,if_false,cB];by_cases hi:i=x
   ·subst hi
    have:¬i=k:=λe=>hk e.symm
    simp[this]
   ·simp only[hi,if_false];exact ih h.2
def SetAt(w:World)(r:Nat)(f:PgF):Prop:=∃m:List (UInt32×Value),MapAt w r m/\∀k,cB k m=if f k=true then some (.bool true) else none
def eX(f:PgF)(k:UInt32):PgF:=λj=>decide (j=k)||f j
def eS(f:PgF)(k:UInt32):PgF:=λj => !decide (j=k)&&f j
section
variable {w w':World}{r:Nat}{f:PgF}
theorem SetAt.mod{S:List Nat}(h:SetAt w r f)(hm:Chg S w w')(hn:r∉S):SetAt w' r f:=by
 obtain⟨m,h1,h2⟩:=h;exact⟨m,h1.mod hm hn,h2⟩
theorem SetAt.chg0(h:SetAt w r f)(hm:Chg [] w w'):SetAt w' r f:=h.mod hm (by simp)
theorem SetAt.lt(h:SetAt w r f):r<w.heap.size:=by
 obtain⟨m,h1,h2⟩:=h;exact h1.lt
theorem SetAt.nil(h:MapAt w r ([]:List (UInt32×Value))):SetAt w r ko:=⟨[],h,λk=>by simp[cB,ko]⟩
theorem SetAt.look{k:UInt32}{m:List (UInt32×Value)}(h:∀k,cB k m=if f k=true then some (.bool true) else none):(cB k m).getD (.bool false)=.bool (f k):=by
 rw[h k];cases f k <;> rfl
theorem rq{m:List (UInt32×Value)}(h:∀k,cB k m=if f k=true then some (.bool true) else none)(k:UInt32):∀j,cB j (dU k (.bool true) m)=if eX f k j=true then some (.bool true) else none:=by
 intro j;rw[qm];unfold eX;by_cases hj:j=k
 ·subst hj;simp
 ·rw[if_neg hj,h j,decide_eq_false hj,qH]
theorem En{m:List (UInt32×Value)}(h:∀k,cB k m=if f k=true then some (.bool true) else none)(hn:(m.map (·.1)).Nodup)(k:UInt32):∀j,cB j (kx k m)=if eS f k j=true then some (.bool true) else none:=by
 intro j;rw[CO _ _ _ hn];unfold eS;by_cases hj:j=k
 ·subst hj;simp
 ·rw[if_neg hj,h j,decide_eq_false hj,sE,j4]
end
theorem FK(l:List UInt8)(k j:Nat)(hk:k / 8<l.length):ju (l.set (k / 8) (l.getD (k / 8) 0 ||| Cp 1 (k % 8))) j=(decide (j=k)||ju l j):=by
 unfold ju;by_cases hj:j / 8=k / 8
 ·rw[hj,eI,List.getElem?_set_self hk,zb,UInt8.toNat_or,Nat.testBit_or];have h1:(Cp 1 (k % 8)).toNat=2 ^ (k % 8):=by
   unfold Cp;rw[iX]
   have:∀q:Fin 8,(((1:UInt8).toNat <<< q.1) % 2 ^ 8)=2 ^ q.1:=by decide
   exact this ⟨k % 8,by omega⟩
  rw[h1,Nat.testBit_two_pow,Bool.or_comm];congr 1;by_cases h2:j=k
  ·subst h2;simp
  ·rw[decide_eq_false h2,decide_eq_false (by omega)]
 ·rw[eI,List.getElem?_set_ne (λh=>hj h.symm),<-eI,decide_eq_false (λh=>hj (by rw[h])),qH]
def orBit(c:UInt8)(k:Nat):UInt8:=c ||| Cp 1 k
theorem bit_one(c:UInt8)(k:Nat)(hk:k<8):(shr8 c k &&& 1=1)↔c.toNat.testBit k=true:=by
 have:∀(c:Fin 256) (k:Fin 8),(shr8 (UInt8.ofNat c.1) k.1 &&& 1=1)↔(UInt8.ofNat c.1).toNat.testBit k.1=true:=by decide +kernel
 have:=this ⟨c.toNat,c.toNat_lt⟩ ⟨k,hk⟩
 rw[UInt8.ofNat_toNat] at this;exact this
theorem Dg(k:Nat):ju (List.replicate 50 0) k=false:=by
 unfold ju
 have:(List.replicate 50 (0:UInt8)).getD (k / 8) 0=0:=by
  rw[eI,List.getElem?_replicate];split <;> rfl
 rw[this];simp
abbrev M50:={ l:List UInt8 // l.length=50 }
instance:Flat M50:=⟨50,λs=>bl s.1,λs=>by rw[aV,s.2];rfl,λs=>gx s.1⟩
def m50(f:PgF):M50:=⟨eP f,fw f⟩
def en(s:Sup)(u r:Nat):List Value:=[.int .u32 s.root.toNat,str s.txt,.map (some u),.map (some r),.int .u64 s.commit.toNat,.int .u32 s.epoch.toNat]
def EP(s:Sup)(u r:Nat):Value:=.agg (en s u r).toArray
structure Sup.Ok(s:Sup):Prop where
 txt:s.txt.length<=200
 used:∀k,s.used k=true->k.toNat<400
 written:∀k,s.written k=true->k.toNat<400
theorem fb(s:Sup)(u r:Nat):∀q∈en s u r,fI q=true:=by
 intro q hq;simp only[en,bZ,dD,or_false] at hq;rcases hq with rfl|rfl|rfl|rfl|rfl|rfl <;> rfl
theorem Ci(n:Nat):gL ((UInt64.ofNat n).toNat:Int)=UInt32.ofNat n:=by
 rw[xX];apply UInt32.toNat_inj.1;simp
theorem supC_of(b:List UInt8)(u r:Nat):[.int .u32 (gL ((UInt64.ofNat (dB ((b.drop (8+4)).take 4))).toNat:Int)).toNat,str ((b.drop 18).take (txN b)),.map (some u),.map (some r),.int .u64 (UInt64.ofNat (dB (b.take 8))).toNat,.int .u32 (gL ((UInt64.ofNat (dB ((b.drop 8).take 4))).toNat:Int)).toNat]=en (kD b) u r:=by
 rw[Ci,Ci];rfl
theorem AJ{k b:List UInt8}(h:150+txN b<=b.length)(h2:txN b<=200):dT k b=if (b.drop (118+txN b)).take 32=lM k (b.take (118+txN b)) then some (kD b) else none:=by
 unfold dT;rw[if_neg (by omega)]
end Go.Sac
namespace Go.Sac
open Go Go.Maps Go.Proofs Go.Shelf
theorem yF{κ:Type}[Key κ]{P:Program}{ρ:Ren}(L:SlLaysW.n5 P ρ)(w:World)(r:Nat)(m:List (κ×Value))(hm:MapAt w r m) :
  Ret P (ρ.f 5) #[.map (some r)] w λv w'=>∃q,v=.map (some q)/\MapAt w' q m/\Chg [] w w'/\w.heap.size<=q:=by
 obtain⟨es,cl,hb,h⟩:=hm;refine Calls.mono (AnyW.maps_Clone L r es cl w hb) ?_;rintro e w' ⟨rfl,rfl⟩;refine⟨_,rfl,_,rfl,⟨es,cl,?_,h⟩,Chg.push w (.map es cl),aM _⟩;exact fS w (.map es cl)
theorem FI{P:Program}{ρ:Ren}(L:SlLaysW.n5 P ρ)(w:World)(r:Nat)(f:PgF)(hm:SetAt w r f) :
  Ret P (ρ.f 5) #[.map (some r)] w λv w'=>∃q,v=.map (some q)/\SetAt w' q f/\Chg [] w w'/\w.heap.size<=q:=by
 obtain⟨m,h1,h2⟩:=hm;refine Calls.mono (yF L w r m h1) ?_;rintro e w' ⟨v,rfl,q,rfl,h3,h4,h5⟩;exact⟨_,rfl,q,rfl,⟨m,h3,h2⟩,h4,h5⟩
end Go.Sac
namespace Go.Sac
open Go
structure Pst where
 root:UInt32
 txt:List UInt8
 used:PgF
 written:PgF
structure Pg where
 now:Pst
 kept:Sup
 at_:Nat
 count:UInt32
 gens:UInt32->Option UInt64
 broken:Bool
def Pg.free(P:Pg)(i:UInt32):Bool := !P.now.used i && !P.kept.used i
def Pg.fresh(P:Pg)(i:UInt32):Bool:=P.now.used i && !P.kept.used i
structure PR where
 pb:Nat
 u:Nat
 r:Nat
 ku:Nat
 kr:Nat
 g:Nat
def PF(R:PR):List Nat:=[R.pb,R.u,R.r,R.ku,R.kr,R.g]
def stC(s:Pst)(u r:Nat):List Value:=[.int .u32 s.root.toNat,str s.txt,.map (some u),.map (some r)]
def stV(s:Pst)(u r:Nat):Value:=.agg (stC s u r).toArray
def Sup.st(s:Sup):Pst:=⟨s.root,s.txt,s.used,s.written⟩
theorem vB(s:Pst)(u r:Nat):∀q∈stC s u r,fI q=true:=by
 intro q hq;simp only[stC,bZ,dD,or_false] at hq;rcases hq with rfl|rfl|rfl|rfl <;> rfl
def pgA(P:Pg)(R:PR)(b:Nat):List Value:=[.int .u32 P.now.root.toNat,str P.now.txt,.map (some R.u),.map (some R.r),.pointer (some ⟨b,0,none⟩)]
def pgC(P:Pg)(R:PR):List Value:=[.int .u32 P.kept.root.toNat,str P.kept.txt,.map (some R.ku),.map (some R.kr),.int .u64 P.kept.commit.toNat,.int .u32 P.kept.epoch.toNat,.int .i64 P.at_,.int .u32 P.count.toNat,.map (some R.g),.bool P.broken]
def pgL(k pk:List UInt8)(A C:List Value):List Value:=A++(bl k++(bl pk++C))
def GenAt(w:World)(r:Nat)(f:UInt32->Option UInt64):Prop:=∃m:List (UInt32×Value),MapAt w r m/\∀k,cB k m=(f k).map λx=>Value.int .u64 x.toNat
def PagerAt(w:World)(R:PR)(b:Nat)(k:List UInt8)(P:Pg):Prop :=
 Blk w R.pb (pgL k (bm k bB 0) (pgA P R b) (pgC P R))/\SetAt w R.u P.now.used/\SetAt w R.r P.now.written/\SetAt w R.ku P.kept.used/\SetAt w R.kr P.kept.written/\GenAt w R.g P.gens/\(PF R).Nodup
section
variable {k pk:List UInt8}{A A' C C':List Value}
theorem nK(k:List UInt8):(bl k).length=k.length:=by rw[aV];show k.length*1=_;omega
theorem fi(hk:k.length=32)(hp:pk.length=32)(hA:A.length=5)(hC:C.length=10):(pgL k pk A C).length=79:=by
 unfold pgL;simp only[aF,nK];omega
theorem pgL_a(hA:A.length=5)(i:Nat)(hi:i<5){v:Value}(h:A[i]?=some v):(pgL k pk A C)[i]?=some v:=by
 unfold pgL;rw[iK (by omega)];exact h
theorem pgL_c(hk:k.length=32)(hp:pk.length=32)(hA:A.length=5)(i:Nat){v:Value}(h:C[i]?=some v):(pgL k pk A C)[69+i]?=some v:=by
 unfold pgL;rw[fY (by omega),fY (by rw[nK];omega),fY (by rw[nK,nK];omega),nK,nK,<-h];congr 1;omega
theorem pgL_k(_:k.length=32)(hA:A.length=5):((pgL k pk A C).drop 5).take (bl k).length=bl k:=by
 unfold pgL;rw[ej hA,cP rfl]
theorem pgL_pk(hk:k.length=32)(hA:A.length=5):((pgL k pk A C).drop 37).take (bl pk).length=bl pk:=by
 unfold pgL;rw[show 37=5+32 from rfl,<-gC,ej hA,ej (by rw[nK];exact hk),cP rfl]
theorem pgL_at(hk:k.length=32)(hp:pk.length=32)(hA:A.length=5):(pgL k pk A C).drop 69=C:=by
 unfold pgL;rw[show 69=5+(32+32) from rfl,<-gC,ej hA,<-gC];have h1:(bl k).length=32:=by rw[nK];exact hk
 have h2:(bl pk).length=32:=by rw[nK];exact hp
 rw[ej h1,ej h2]
theorem rF(hA:A.length=5)(i:Nat)(l:List Value)(hi:i+l.length<=5)(h:spl A i l=A'):spl (pgL k pk A C) i l=pgL k pk A' C:=by
 subst h;unfold pgL spl;rw[lE (by omega),sC (by omega)];simp only[bP]
theorem kT(X Y l:List Value)(n i:Nat)(hX:X.length=n):spl (X++Y) (n+i) l=X++spl Y i l:=by
 unfold spl;rw[List.take_append,cd (by omega),BS,gj (by omega),show n+i-X.length=i by omega,show n+i+l.length-X.length=i+l.length by omega];simp only[bP,dG]
theorem lp(hk:k.length=32)(hp:pk.length=32)(hA:A.length=5)(i:Nat)(l:List Value)(h:spl C i l=C'):spl (pgL k pk A C) (69+i) l=pgL k pk A C':=by
 subst h;unfold pgL;rw[show 69+i=5+(32+(32+i)) by omega,kT _ _ _ 5 _ hA,kT _ _ _ 32 _ (by rw[nK];exact hk),kT _ _ _ 32 _ (by rw[nK];exact hp)]
end
section
variable {w w':World}{R:PR}{b:Nat}{k:List UInt8}{P:Pg}
theorem GenAt.mod{S:List Nat}{r:Nat}{f:UInt32->Option UInt64}(h:GenAt w r f)(hm:Chg S w w')(hn:r∉S):GenAt w' r f:=by
 obtain⟨m,h1,h2⟩:=h;exact⟨m,h1.mod hm hn,h2⟩
theorem PagerAt.chg{S:List Nat}(h:PagerAt w R b k P)(hm:Chg S w w')(hn:∀x∈PF R,x∉S):PagerAt w' R b k P:=by
 obtain⟨h1,h2,h3,h4,h5,h6,h7⟩:=h;exact⟨h1.chg hm (hn _ (by simp[PF])),h2.mod hm (hn _ (by simp[PF])),h3.mod hm (hn _ (by simp[PF])),h4.mod hm (hn _ (by simp[PF])),h5.mod hm (hn _ (by simp[PF])),h6.mod hm (hn _ (by simp[PF])),h7⟩
theorem PagerAt.chg0(h:PagerAt w R b k P)(hm:Chg [] w w'):PagerAt w' R b k P:=h.chg hm (by simp)
theorem PagerAt.lt(h:PagerAt w R b k P):∀x∈PF R,x<w.heap.size:=by
 obtain⟨h1,h2,h3,h4,h5,h6,h7⟩:=h;intro x hx;simp only[PF,bZ,dD,or_false] at hx;obtain⟨m,h6,_⟩:=h6;rcases hx with rfl|rfl|rfl|rfl|rfl|rfl
 ·exact h1.lt
 ·exact h2.lt
 ·exact h3.lt
 ·exact h4.lt
 ·exact h5.lt
 ·exact h6.lt
theorem PagerAt.a(h:PagerAt w R b k P)(i:Nat)(hi:i<5){v:Value}(hv:(pgA P R b)[i]?=some v):w.cell? ⟨R.pb,i,none⟩=some v:=h.1.c (pgL_a O i hi hv)
theorem PagerAt.c(h:PagerAt w R b k P)(hk:k.length=32)(i:Nat){v:Value}(hv:(pgC P R)[i]?=some v):w.cell? ⟨R.pb,69+i,none⟩=some v:=h.1.c (pgL_c hk (dL _ _ _) O i hv)
theorem PagerAt.atK(h:PagerAt w R b k P)(hk:k.length=32):At w R.pb 5 (bl k):=h.1.at (pgL_k hk O)
theorem PagerAt.atP(h:PagerAt w R b k P)(hk:k.length=32):At w R.pb 37 (bl (bm k bB 0)):=h.1.at (pgL_pk hk O)
end
section
variable {w w':World}{R:PR}{b:Nat}{k:List UInt8}{P:Pg}
theorem PR.apart(h:(PF R).Nodup):(R.pb≠R.u/\R.pb≠R.r/\R.pb≠R.ku/\R.pb≠R.kr/\R.pb≠R.g)/\(R.u≠R.r/\R.u≠R.ku/\R.u≠R.kr/\R.u≠R.g)/\(R.r≠R.ku/\R.r≠R.kr/\R.r≠R.g)/\(R.ku≠R.kr/\R.ku≠R.g)/\R.kr≠R.g:=by
 simp only[PF,jC,bZ,dD,or_false,not_or] at h;obtain⟨h1,h2,h3,h4,h5,_⟩:=h;exact⟨h1,h2,h3,h4,h5⟩
theorem PagerAt.updU{f:PgF}(h:PagerAt w R b k P)(hs:SetAt w' R.u f)(hc:Chg [R.u] w w'):PagerAt w' R b k { P with now:={ P.now with used:=f } }:=by
 obtain⟨h1,h2,h3,h4,h5,h6,h7⟩:=h;obtain⟨q1,q2,q3,q4,q5⟩:=PR.apart h7;exact⟨h1.nb hc q1.1,hs,h3.mod hc (by simpa using Ne.symm q2.1),h4.mod hc (by simpa using Ne.symm q2.2.1),h5.mod hc (by simpa using Ne.symm q2.2.2.1),h6.mod hc (by simpa using Ne.symm q2.2.2.2),h7⟩
theorem PagerAt.updW{f:PgF}(h:PagerAt w R b k P)(hs:SetAt w' R.r f)(hc:Chg [R.r] w w'):PagerAt w' R b k { P with now:={ P.now with written:=f } }:=by
 obtain⟨h1,h2,h3,h4,h5,h6,h7⟩:=h;obtain⟨q1,q2,q3,q4,q5⟩:=PR.apart h7;exact⟨h1.nb hc q1.2.1,h2.mod hc (by simpa using q2.1),hs,h4.mod hc (by simpa using Ne.symm q3.1),h5.mod hc (by simpa using Ne.symm q3.2.1),h6.mod hc (by simpa using Ne.symm q3.2.2),h7⟩
theorem PagerAt.updG{f:UInt32->Option UInt64}(h:PagerAt w R b k P)(hs:GenAt w' R.g f)(hc:Chg [R.g] w w'):PagerAt w' R b k { P with gens:=f }:=by
 obtain⟨h1,h2,h3,h4,h5,h6,h7⟩:=h;obtain⟨q1,q2,q3,q4,q5⟩:=PR.apart h7;exact⟨h1.nb hc q1.2.2.2.2,h2.mod hc (by simpa using q2.2.2.2),h3.mod hc (by simpa using q3.2.2),h4.mod hc (by simpa using q4.2),h5.mod hc (by simpa using q5),hs,h7⟩
theorem PagerAt.updC{P':Pg}(h:PagerAt w R b k P)(hB:Blk w' R.pb (pgL k (bm k bB 0) (pgA P' R b) (pgC P' R)))(hc:Chg [R.pb] w w')(h1:P'.now.used=P.now.used)(h2:P'.now.written=P.now.written)(h3:P'.kept.used=P.kept.used)(h4:P'.kept.written=P.kept.written)(h5:P'.gens=P.gens):PagerAt w' R b k P':=by
 obtain⟨g1,g2,g3,g4,g5,g6,g7⟩:=h;obtain⟨q1,q2,q3,q4,q5⟩:=PR.apart g7;refine⟨hB,?_,?_,?_,?_,?_,g7⟩
 ·rw[h1];exact g2.mod hc (by simpa using Ne.symm q1.1)
 ·rw[h2];exact g3.mod hc (by simpa using Ne.symm q1.2.1)
 ·rw[h3];exact g4.mod hc (by simpa using Ne.symm q1.2.2.1)
 ·rw[h4];exact g5.mod hc (by simpa using Ne.symm q1.2.2.2.1)
 ·rw[h5];exact g6.mod hc (by simpa using Ne.symm q1.2.2.2.2)
end
def fQ(P:Pg)(n:Nat):Nat:=((List.range n).filter λi=>P.free (UInt32.ofNat i)).length
theorem Cv(P:Pg)(n:Nat):fQ P (n+1)=fQ P n+(if P.free (UInt32.ofNat n)=true then 1 else 0):=by
 unfold fQ;rw[iA,pU,aF];congr 1;by_cases h:P.free (UInt32.ofNat n)=true <;> simp[h]
theorem H0(P:Pg)(n:Nat):fQ P n<=n:=by
 unfold fQ;exact bw (uL _ _) (by simp)
def dK(l:List UInt8):List UInt8:=be 2 l.length++l++List.replicate (480-l.length) 0
def gX(pk:List UInt8)(i g:Nat)(l:List UInt8):List UInt8:=be 8 g++gd pk (db i g) bB (dK l)++List.replicate 6 0
theorem lU(l:List UInt8)(h:l.length<=480):(dK l).length=482:=by simp[dK,aP];omega
theorem na(pk:List UInt8)(i g:Nat)(l:List UInt8)(h:l.length<=480):(gX pk i g l).length=512:=by
 unfold gX;simp only[aF,iD,aP,lU l h,cN]
def Pg.gen(P:Pg):UInt64:=Aw (dm (P.kept.epoch.toNat:Int)) 32 ||| dm (P.count.toNat:Int)
def sJ(f:UInt32->Option UInt64)(i:UInt32)(g:UInt64):UInt32->Option UInt64:=λj=>if j=i then some g else f j
theorem Ec{f:UInt32->Option UInt64}{m:List (UInt32×Value)}(h:∀k,cB k m=(f k).map λx=>Value.int .u64 x.toNat)(i:UInt32)(g:UInt64):∀k,cB k (dU i (.int .u64 g.toNat) m)=(sJ f i g k).map λx=>Value.int .u64 x.toNat:=by
 intro k;rw[qm];unfold sJ;by_cases hk:k=i
 ·rw[if_pos hk,if_pos hk];rfl
 ·rw[if_neg hk,if_neg hk];exact h k
theorem GN{α:Type}(a b c m:List α)(hb:b.length=m.length){k:Nat}(hk:a.length=k):spl (a++b++c) k m=a++m++c:=by
 subst hk;unfold spl;have e:a++b++c=a++(b++c):=bP _ _ _;rw[e,cP rfl,<-gC,ej rfl,ej hb]
theorem Fb(l:List UInt8)(h:l.length<=480):spl (be 2 l.length++List.replicate (482-2) (0:UInt8)) 2 l=dK l:=by
 have h2:List.replicate (482-2) (0:UInt8)=List.replicate l.length 0++List.replicate (480-l.length) 0:=by
  rw[uq];congr 1;omega
 rw[h2,<-bP];exact GN _ _ _ _ (by simp) (aP _ _)
theorem iU(g:Nat)(s:List UInt8)(h:s.length=498):spl (be 8 g++List.replicate (512-8) (0:UInt8)) 8 s=be 8 g++s++List.replicate 6 0:=by
 have h2:List.replicate (512-8) (0:UInt8)=List.replicate 498 0++List.replicate 6 0:=by
  rw[uq]
 rw[h2,<-bP];exact GN _ _ _ _ (by rw[h,cN]) (aP _ _)
theorem HK{f:UInt32->Option UInt64}{m:List (UInt32×Value)}(h:∀k,cB k m=(f k).map λx=>Value.int .u64 x.toNat)(i:UInt32):(cB i m).getD (.int .u64 0)=.int .u64 ((f i).getD 0).toNat:=by
 rw[h i];cases f i with
 | none => simp
 | some x => simp
theorem Aq(X Y l:List Value)(h:l.length=X.length):spl (X++Y) 0 l=l++Y:=by
 unfold spl;rw[mQ,dG,jO,h,ej rfl]
theorem Hd{z k pk:List UInt8}{A C:List Value}(hz:z.length=32)(hk:k.length=32)(hA:A.length=5):spl (pgL z pk A C) 5 (bl k)=pgL k pk A C:=by
 unfold pgL;rw[show 5=5+0 from rfl,kT _ _ _ 5 _ hA,Aq _ _ _ (by rw[nK,nK,hz,hk])]
theorem Hc{z k pk:List UInt8}{A C:List Value}(hk:k.length=32)(hz:z.length=32)(hp:pk.length=32)(hA:A.length=5):spl (pgL k z A C) 37 (bl pk)=pgL k pk A C:=by
 unfold pgL;rw[show 37=5+(32+0) from rfl,kT _ _ _ 5 _ hA,kT _ _ _ 32 _ (by rw[nK];exact hk),Aq _ _ _ (by rw[nK,nK,hz,hp])]
theorem fill2{place:Nat->Option (Nat×Nat)}{cs cs' l:List Value}{i off size:Nat}{v:Value}{rest:List (Nat×Value)}{r:Option (Array Value)}(hp:place i=some (off,size))(hv:v.cells.toList=l)(hl:l.length=size)(ho:off+size<=cs.length)(hs:spl cs off l=cs')
  (h:Instr.fill place cs'.toArray rest=r):Instr.fill place cs.toArray ((i,v)::rest)=r:=by
 subst hs;exact bR hp hv hl ho h
def z32:List UInt8:=List.replicate 32 0
def pgA0:List Value:=[.int .u32 0,str [],.map none,.map none,.pointer none]
def pgC0:List Value:=[.int .u32 0,str [],.map none,.map none,.int .u64 0,.int .u32 0,.int .i64 0,.int .u32 0,.map none,.bool false]
theorem qf{place:Nat->Option (Nat×Nat)}{k pk:List UInt8}(hk:k.length=32)(hpk:pk.length=32)(s:Sup)(st:Pst)(b u' r' u rr g a:Nat)(h0:place 0=some (0,4))(h1:place 1=some (4,1))(h2:place 2=some (5,32))(h3:place 3=some (37,32))(h4:place 4=some (69,6))(h5:place 5=some (75,1))(h7:place 7=some (77,1)) :
  Instr.fill place (pgL z32 z32 pgA0 pgC0).toArray [(0,stV st u' r'),(1,.pointer (some ⟨b,0,none⟩)),(2,cy k),(3,cy pk),(4,EP s u rr),(5,.int .i64 a),(7,.map (some g))] =
   some (pgL k pk (pgA ⟨st,s,a,0,λ_=>none,false⟩ ⟨0,u',r',u,rr,g⟩ b) (pgC ⟨st,s,a,0,λ_=>none,false⟩ ⟨0,u',r',u,rr,g⟩)).toArray:=by
 have hz:z32.length=32:=rfl;refine fill2 (l:=stC st u' r') h0 O O (by rw[fi hz hz rfl rfl];omega) (rF O 0 (stC st u' r') (al O) O) ?_;refine fill2 (l:=[.pointer (some ⟨b,0,none⟩)]) h1 O O (by rw[fi hz hz rfl rfl];omega) (rF O 4 [.pointer (some ⟨b,0,none⟩)] (al O) O) ?_;refine fill2 (l:=bl k) h2 O (by rw[nK];exact hk) (by rw[fi hz hz rfl rfl];omega) (Hd hz hk O) ?_;refine fill2 (l:=bl pk) h3 O (by rw[nK];exact hpk) (by rw[fi hk hz rfl rfl];omega) (Hc hk hz hpk O) ?_;refine fill2 (l:=en s u rr) h4 O O (by rw[fi hk hpk rfl rfl];omega) (lp hk hpk O 0 (en s u rr) O) ?_;refine fill2 (l:=[.int .i64 a]) h5 O O (by rw[fi hk hpk rfl rfl];omega) (lp hk hpk O 6 [.int .i64 a] O) ?_;refine fill2 (l:=[.map (some g)]) h7 O O (by rw[fi hk hpk rfl rfl];omega) (lp hk hpk O 8 [.map (some g)] O) ?_;exact eb O
theorem vl{ds:DSt}(i:Int)(l:List UInt8)(hf:ds.Fine)(h:ds.steps+(l.length+63) / 64<=1000000000000):(ds.writes i l).1.Fine/\(ds.writes i l).1.steps<=ds.steps+(l.length+63) / 64/\(ds.writes i l).1.kept=ds.kept:=DSt.wr_bnd _ ds i l hf h
theorem jf(k:List UInt8)(ds:DSt)(a:Nat)(s:Sup)(hf:ds.Fine)(ht:s.txt.length<=200)(h:ds.steps+20<=1000000000000) :
  (cU k ds a s).1.Fine/\(cU k ds a s).1.steps<=ds.steps+8/\(cU k ds a s).1.kept.length=ds.kept.length:=by
 have hl:(dN (cw k s) s.commit).length=64*((150+s.txt.length+55) / 56):=by rw[lX,gM]
 obtain⟨h1,h2,h3⟩:=vl ((a:Int)*16) (dN (cw k s) s.commit) hf (by omega);unfold cU
 split
 ·have h4:=DSt.flush_steps (ds.writes ((a:Int)*16) (dN (cw k s) s.commit)).1;exact⟨h1.flush (by omega),by omega,by rw[DSt.flush_len,h3]⟩
 ·exact⟨h1,by omega,by rw[h3]⟩
theorem Fy(ds:DSt)(h:ds.flush.2=0):ds.flush.1.off=false:=by
 unfold DSt.flush at h ⊢;by_cases hq:ds.step.off=true
 ·rw[if_pos hq] at h;exact absurd h (show ¬(61:Int)=0 by decide)
 ·rw[if_neg hq]
  have:ds.step.off=false:=by simpa using hq
  exact this
theorem Fp(k:List UInt8)(ds:DSt)(a:Nat)(s:Sup)(h:(cU k ds a s).2=0):(cU k ds a s).1.off=false:=by
 unfold cU at h ⊢
 split at h
 ·rename_i h0
  rw[if_pos h0];exact Fy _ h
 ·rename_i h0
  exact absurd h h0
theorem CF{k b:List UInt8}{s:Sup}(h:dT k b=some s):s.Ok:=by
 unfold dT at h
 split at h
 ·cases h
 ·rename_i h0
  split at h
  ·cases h;refine⟨?_,λi hi=>yc hi,λi hi=>yc hi⟩;show((b.drop 18).take (txN b)).length<=200;rw[bz];omega
  ·cases h
theorem tO{k:List UInt8}{ds:DSt}{s:Sup}{a:Nat}(h:newest k ds=some (s,a)):a<=1/\dT k (iP (fz ds a))=some s:=by
 have h0:∀(o:Option (Sup×Nat)) (i:Nat),ei k ds o i=o∨∃s,ei k ds o i=some (s,i)/\dT k (iP (fz ds i))=some s:=by
  intro o i;unfold ei
  split
  ·exact .inl O
  ·rename_i s0 hs0
   split
   ·exact .inr ⟨_,rfl,hs0⟩
   ·split
    ·exact .inr ⟨_,rfl,hs0⟩
    ·exact .inl O
 unfold newest at h;rcases h0 (ei k ds none 0) 1 with h1|⟨s1,h1,h2⟩
 ·rw[h1] at h;rcases h0 none 0 with h3|⟨s3,h3,h4⟩
  ·rw[h3] at h;cases h
  ·rw[h3] at h;cases h;exact⟨by omega,h4⟩
 ·rw[h1] at h;cases h;exact⟨by omega,h2⟩
theorem AV{k:List UInt8}{ds:DSt}(h:pA (newest k ds)<0):newest k ds=none:=by
 cases hn:newest k ds with
 | none => rfl
 | some p => obtain ⟨s, a⟩ := p; rw [hn] at h; exact absurd h (by show ¬ ((a : Int) < 0); omega)
theorem Fk{k:List UInt8}{ds:DSt}(h:¬pA (newest k ds)<0):∃s a,newest k ds=some (s,a)/\pA (newest k ds)=(a:Int):=by
 cases hn:newest k ds with
 | none => rw [hn] at h; exact absurd (by show (-1 : Int) < 0; omega) h
 | some p => obtain ⟨s, a⟩ := p; exact ⟨s, a, rfl, rfl⟩
def wj(pk:List UInt8)(i:Nat)(t:List UInt8):Option (List UInt8) :=
 if pK pk (db i (UInt64.ofNat (dB (t.take 8))).toNat) bB ((t.drop 8).take 498) then
  some (((gH pk (db i (UInt64.ofNat (dB (t.take 8))).toNat) ((t.drop 8).take 482)).drop 2).take (min (dB ((gH pk (db i (UInt64.ofNat (dB (t.take 8))).toNat) ((t.drop 8).take 482)).take 2)) 480))
 else none
def A0(ds:DSt)(i:UInt32):UInt64:=UInt64.ofNat (dB ((ds.reads (32+(i.toNat:Int)*8) 1).take 8))
def eo(P:Pg)(root:UInt32)(txt:List UInt8):Sup:=⟨root,txt,P.now.used,P.now.written,P.kept.commit+1,P.kept.epoch⟩
theorem sT(k:List UInt8)(ds:DSt):pA (newest k ds) = -1∨pA (newest k ds)=0∨pA (newest k ds)=1:=by
 have h0:∀(o:Option (Sup×Nat)) (i:Nat),ei k ds o i=o∨∃s,ei k ds o i=some (s,i):=by
  intro o i;unfold ei
  split
  ·exact .inl O
  ·split
   ·exact .inr ⟨_,rfl⟩
   ·split
    ·exact .inr ⟨_,rfl⟩
    ·exact .inl O
 unfold newest;rcases h0 (ei k ds none 0) 1 with h|⟨s,h⟩
 ·rw[h];rcases h0 none 0 with h|⟨s,h⟩
  ·rw[h];exact .inl O
  ·rw[h];exact .inr (.inl O)
 ·rw[h];exact .inr (.inr O)
def eJ(k:List UInt8)(ds:DSt)(i:Nat):Sup:=⟨0,[],ko,ko,fe k ds+dm (i:Int),uc (newest k ds)+1⟩
def fK(k:List UInt8)(ds:DSt)(i:Nat):Nat:=((pA (newest k ds)+1+i) % 2).toNat
def gw(k:List UInt8)(ds:DSt):Nat->DSt×Int
 | 0 => (ds, 0)
 | i + 1 => cU k (gw k ds i).1 (fK k ds i) (eJ k ds i)
theorem rW(k:List UInt8)(ds:DSt)(i:Nat):fK k ds i<=1:=by unfold fK;omega
theorem D4(k:List UInt8)(ds:DSt)(u r:Nat){ep:UInt32}(h:ep=uc (newest k ds)):en (eJ k ds 0) u r=[.int .u32 0,str [],.map (some u),.map (some r),.int .u64 (fe k ds).toNat,.int .u32 (ep+1).toNat]:=by
 have h0:fe k ds+dm ((0:Nat):Int)=fe k ds:=by rw[dR];exact UInt64.add_zero _
 subst h;show[Value.int .u32 0,str [],.map (some u),.map (some r),.int .u64 (fe k ds+dm ((0:Nat):Int)).toNat,.int .u32 (uc (newest k ds)+1).toNat]=_;rw[h0]
theorem Bb(k:List UInt8)(ds:DSt)(hf:ds.Fine)(h:ds.steps+60<=1000000000000):∀i,i<=3->(gw k ds i).1.Fine/\(gw k ds i).1.steps<=ds.steps+8*i/\(gw k ds i).1.kept.length=ds.kept.length
 | 0, _ => ⟨hf, aM _, rfl⟩
 | i + 1, hi => by
  obtain⟨h1,h2,h3⟩:=Bb k ds hf h i (by omega);obtain⟨q1,q2,q3⟩:=jf k (gw k ds i).1 (fK k ds i) (eJ k ds i) h1 (by show 0<=200;omega) (by omega);exact⟨q1,by show(cU k (gw k ds i).1 (fK k ds i) (eJ k ds i)).1.steps<=_;omega,by show(cU k (gw k ds i).1 (fK k ds i) (eJ k ds i)).1.kept.length=_;rw[q3,h3]⟩
theorem A1(k:List UInt8)(ds:DSt)(i:Nat):(eJ k ds i).Ok:=⟨by show 0<=200;omega,λ_ h=>Bool.noConfusion h,λ_ h=>Bool.noConfusion h⟩
def opS(k:List UInt8)(ds:DSt)(s:Sup):Sup:={ s with commit:=fe k ds,epoch:=s.epoch+1 }
section
variable {κ:Type}[Key κ][DecidableEq κ]
def EntAt(w:World)(r:Nat)(m:List (κ×Value))(k:κ)(born:Nat):Prop :=
 ∃es cl i,w.heap[r]?=some (.map es cl)/\es.findIdx? (λe=>(e.born:Int)==(born:Int))=some i /\
  ∀v,∀w2:World,w2.heap[r]?=some (.map (es.modify i λe=>{ e with val:=v }) cl)->MapAt w2 r (dU k v m)
theorem EntAt.mod{S:List Nat}{w w':World}{r:Nat}{m:List (κ×Value)}{k:κ}{born:Nat}(h:EntAt w r m k born)(hm:Chg S w w')(hn:r∉S):EntAt w' r m k born:=by
 obtain⟨es,cl,i,h1,h2⟩:=h;exact⟨es,cl,i,hm.blk h1 hn,h2⟩
variable {P:Program}{E:Env}{w:World}{ty t:TypeId}{x y z:Operand}
theorem D9:exec P E (.mapEntry t x y) ty w=(jY (Instr.mapEntry t (ev E x) (ev E y))).run P w:=rfl
theorem A3:exec P E (.entryStore t x y z) ty w=(GC (Instr.entryStore t (ev E x) (ev E y) (ev E z))).run P w:=rfl
theorem yv{es:List MapEntry}(hn:(es.map (·.born)).Nodup){i:Nat}{e:MapEntry}(he:es[i]?=some e):es.findIdx? (λx=>(x.born:Int)==(e.born:Int))=some i:=by
 rw[List.findIdx?_eq_some_iff_getElem];have hi:=(List.getElem?_eq_some_iff.1 he).1;have hv:=(List.getElem?_eq_some_iff.1 he).2;refine⟨hi,by rw[hv];simp,λj hj hb=>?_⟩;have hj':j<es.length:=by omega
 simp only[beq_iff_eq] at hb;have h1:=(List.pairwise_iff_getElem.1 hn) j i (by simpa using hj') (by simpa using hi) hj;simp only[List.getElem_map,hv] at h1;omega
theorem rX(a:Array MapEntry)(p:MapEntry->Bool):a.findIdx? p=a.toList.findIdx? p:=by
 obtain⟨l⟩:=a;simp
theorem uU{kt vt:TypeId}{nf:TypeInfo}{zv:Value}{r:Nat}{k:κ}{m:List (κ×Value)}(ht:P.underlying t=some (.map kt vt))(hk:KeyOk P kt κ)(hi:P.info? vt=some nf)(hz:nf.zero=some zv)(hx:ev E x=.map (some r))(hy:ev E y=Key.enc k)(hm:MapAt w r m) :
  ∃v w',exec P E (.mapEntry t x y) ty w=.ok (.value v) w'/\∃born u,v=.tuple #[u,.int .i64 (born:Nat)]/\EntAt w' r m k born/\Chg [r] w w'/\w'.heap.size=w.heap.size:=by
 obtain⟨es,cl,hb,he,hn,hbn,hcl⟩:=hm;have hg:(getObj r).run P w=.ok (.map es cl) w:=by
  show Sem.run P (.getObj r .pure) w=_;simp only[Sem.run,hb]
 have hset:=λv=>qw k v es.toList m 0 he;have key:∃u born o,(Instr.mapEntry t (.map (some r)) (Key.enc k)).run P w=.ok (.tuple #[u,.int .i64 (born:Nat)]) (w.setB r o)/\EntAt (w.setB r o) r m k born:=by
  unfold Instr.mapEntry;rw[ar (run_underlying ht w)];simp only[];rw[ar hg];simp only[];rw[ar (hk.chk _ k w),ar (hk.fnd k es.toList _ w (oY he))];cases hf:js k es.toList (m.map (·.1)) 0 with
  | none =>
   simp only[hf] at hset ⊢;rw[ar (dq hi hz w),ar (im hb)];refine⟨zv,cl,_,rfl,?_⟩;have hnb:(((es.push { key:=Key.enc k,val:=zv,born:=cl }).toList).map (·.born)).Nodup:=by
    simp only[G8,gi,eV,uK];refine List.nodup_append.2 ⟨hbn,by simp,?_⟩;intro a ha b hb';simp only[gh] at hb';obtain⟨e,he',rfl⟩:=List.mem_map.1 ha
    have:=hcl e he'
    omega
   refine⟨_,_,es.size,eB (cG hb),?_,λv w2 hw2=>⟨_,_,hw2,?_,?_,?_,?_⟩⟩
   ·rw[rX];exact yv hnb (e:={ key:=Key.enc k,val:=zv,born:=cl }) (by simp)
   ·have hl:((es.push { key:=Key.enc k,val:=zv,born:=cl }).modify es.size λe=>{ e with val:=v }).toList=es.toList++[{ key:=Key.enc k,val:=v,born:=cl }]:=by
     rw[uO,G8];apply lS;intro i;rw[pR];by_cases hi':es.size=i
     ·subst hi';simp
     ·simp only[hi',if_false,List.getElem?_append,DB];by_cases hlt:i<es.size
      ·simp[hlt]
      ·obtain⟨d,hd⟩:∃d,i-es.size=d+1:=⟨i-es.size-1,by omega⟩
       simp[hlt,hd]
    rw[hl,(hset v).2.1];simp[he]
   ·rw[(hset v).2.1];simp only[gi,eV,uK];exact List.nodup_append.2 ⟨hn,by simp,by simpa using λa b hab=>by intro hh;subst hh;exact(hset v).1 (List.mem_map.2 ⟨_,hab,rfl⟩)⟩
   ·have:(((es.push { key:=Key.enc k,val:=zv,born:=cl }).modify es.size λe=>{ e with val:=v }).toList.map (·.born))=((es.push { key:=Key.enc k,val:=zv,born:=cl }).toList).map (·.born):=by
     rw[uO];apply lS;intro i;simp only[mJ,pR]
     split
     ·cases (es.push { key:=Key.enc k,val:=zv,born:=cl }).toList[i]? <;> rfl
     ·cases (es.push { key:=Key.enc k,val:=zv,born:=cl }).toList[i]? <;> rfl
    rw[this];exact hnb
   ·intro e he';rw[uO] at he';obtain⟨i,hi'⟩:=List.mem_iff_getElem?.1 he';rw[pR] at hi';cases hh:(es.push { key:=Key.enc k,val:=zv,born:=cl }).toList[i]? with
    | none => rw [hh] at hi'; simp at hi'
    | some e0 =>
     rw[hh] at hi';have h0:e0.born<cl+1:=by
      have hmem:=j1 hh;simp only[G8,fX,gh] at hmem;rcases hmem with h|rfl
      ·have:=hcl e0 h;omega
      ·simp
     by_cases hij:es.size=i
     ·simp[hij] at hi';subst hi';exact h0
     ·simp[hij] at hi';subst hi';exact h0
  | some q =>
   obtain⟨j,v'⟩:=q;simp only[hf,Nat.sub_zero] at hset ⊢;obtain⟨_,h2,_,_,h5,_⟩:=hset v';have hjs:j<es.toList.length:=h2;have hej:es.toList[j]?=some es.toList[j]:=bM hjs;have hej':es[j]?=some es.toList[j]:=by rw[<-hej];simp
   have hkj:(es.toList[j]).key=Key.enc k:=by rw[hej] at h5;simpa using h5
   have hkey:((es[j]?).map (·.key)).getD (Key.enc k)=Key.enc k:=by rw[hej'];exact hkj
   rw[hkey];have hst:(Instr.keyThatStays (Key.enc k) (Key.enc k)).run P w=.ok (Key.enc k) w:=by
    unfold Instr.keyThatStays;rw[if_pos (Key.bits k)];rfl
   rw[ar hst,ar (im hb)];have hbo:((es[j]?).map (λx=>(x.born:Int))).getD 0=((es.toList[j]).born:Int):=by rw[hej'];rfl
   rw[hbo];refine⟨v',(es.toList[j]).born,_,rfl,?_⟩;have hme:es.modify j (λe=>{ e with key:=Key.enc k })=es:=by
    apply Array.ext';rw[uO];apply lS;intro i;rw[pR];by_cases hij:j=i
    ·subst hij;rw[hej];simp[<-hkj]
    ·simp[hij]
   rw[hme];refine⟨_,_,j,eB (cG hb),?_,λv w2 hw2=>⟨_,_,hw2,?_,?_,?_,?_⟩⟩
   ·rw[rX];exact yv hbn hej
   ·obtain⟨_,_,h3,_,_,_⟩:=hset v;rw[<-h3,uO];congr 1;apply lS;intro i;simp only[pR];by_cases hij:j=i
    ·subst hij;rw[hej];simp[<-hkj]
    ·simp[hij]
   ·obtain⟨_,_,_,h4,_,_⟩:=hset v;rw[h4];exact hn
   ·have:((es.modify j λe=>{ e with val:=v }).toList.map (·.born))=es.toList.map (·.born):=by
     rw[uO];apply lS;intro i;simp only[mJ,pR]
     split
     ·cases es.toList[i]? <;> rfl
     ·cases es.toList[i]? <;> rfl
    rw[this];exact hbn
   ·intro e he';rw[uO] at he';obtain⟨i,hi'⟩:=List.mem_iff_getElem?.1 he';rw[pR] at hi';cases hh:es.toList[i]? with
    | none => rw [hh] at hi'; simp at hi'
    | some e0 =>
     rw[hh] at hi'
     have:=hcl e0 (j1 hh)
     by_cases hij:j=i
     ·subst hij;simp at hi';subst hi';exact this
     ·simp[hij] at hi';subst hi';exact this
 obtain⟨u,born,o,h1,h2⟩:=key;refine⟨_,_,?_,born,u,rfl,h2,Chg.set _ _ _,dS _ _ _⟩;rw[D9,hx,hy];exact bh h1
theorem qR{r:Nat}{k:κ}{v:Value}{m:List (κ×Value)}{born:Nat}(hx:ev E x=.map (some r))(hy:ev E y=.int .i64 born)(hv:ev E z=v)(hm:EntAt w r m k born) :
  ∃w',exec P E (.entryStore t x y z) ty w=.ok .skip w'/\MapAt w' r (dU k v m)/\Chg [r] w w'/\w'.heap.size=w.heap.size:=by
 obtain⟨es,cl,i,hb,hf,hs⟩:=hm;have hg:(getObj r).run P w=.ok (.map es cl) w:=by
  show Sem.run P (.getObj r .pure) w=_;simp only[Sem.run,hb]
 refine⟨w.setB r (.map (es.modify i λe=>{ e with val:=v }) cl),?_,hs v _ (eB (cG hb)),Chg.set _ _ _,dS _ _ _⟩
 rw[A3,hx,hy,hv];have key:(Instr.entryStore t (.map (some r)) (.int .i64 born) v).run P w=.ok () (w.setB r (.map (es.modify i λe=>{ e with val:=v }) cl)):=by
  unfold Instr.entryStore;simp only[];rw[ar hg];simp only[];have ha:(asInt (.int .i64 (born:Int))).run P w=.ok (born:Int) w:=rfl;rw[ar ha];simp only[hf];exact im hb
 exact vH key
end
def SlE{α:Type}[Flat α](w:World)(v:Value)(l:List α):Prop:=Sl w v l∨(l=[]/\∃p c,v=.slice p 0 c)
section
variable {α:Type}[Flat α]{P:Program}{E:Env}{w w':World}{v:Value}{l:List α}{S:List Nat}{ty t u:TypeId}{x:Operand}
theorem SlE.form(h:SlE w v l):∃p c,v=.slice p l.length c:=by
 rcases h with h|⟨rfl,p,c,rfl⟩
 ·exact h.form O
 ·exact⟨p,c,rfl⟩
theorem SlE.mod(h:SlE w v l)(hm:Chg S w w')(hn:l≠[]->∀b∈ay v,b∉S):SlE w' v l:=by
 by_cases hl:l=[]
 ·subst hl;obtain⟨p,c,rfl⟩:=h.form;exact .inr ⟨rfl,p,c,rfl⟩
 ·rcases h with h|⟨h,_⟩
  ·exact .inl (h.mod hm (hn hl))
  ·exact absurd h hl
theorem SlE.mod0(h:SlE w v l)(hm:Chg [] w w'):SlE w' v l:=h.mod hm (λ_ _ _=>by simp)
theorem SlE.lt(h:SlE w v l)(hl:l≠[]):∀b∈ay v,b<w.heap.size:=by
 rcases h with h|⟨h,_⟩
 ·exact h.lt
 ·exact absurd h hl
theorem SlE.src(h:SlE w v l):Src α P w v l:=by
 rcases h with h|⟨rfl,p,c,rfl⟩
 ·exact h.src
 ·refine⟨rfl,λw' _ n hn=>?_⟩;obtain rfl:n=0:=by simpa using hn
  cases p with
  | none => rfl
  | some a =>
   show(loadCells a (0*Flat.sz α)).run P w'=_;rw[oG];rfl
end
def chS(l:List UInt8)(q:Nat):Sec:=DSt.putS sec0 ((l.drop (64*q)).take 64)
theorem H6(c c':Sec)(l:List UInt8)(h:l.length=64):DSt.putS c l=DSt.putS c' l:=by
 apply Subtype.ext;rw[oV _ _ (by omega),oV _ _ (by omega),gj (by rw[c.2];omega),gj (by rw[c'.2];omega)]
theorem A7(l:List UInt8)(q n:Nat)(h:l.length=64*n)(hq:q<n):(chS l q).1=(l.drop (64*q)).take 64:=by
 have hl:((l.drop (64*q)).take 64).length=64:=by rw[bz,bE];omega
 unfold chS;rw[oV _ _ (by omega),hl,show sec0.1.drop 64=[] from gj (by rw[sec0.2];omega),cE]
theorem HW(l:List UInt8)(q:Nat):chS (l.drop 64) q=chS l (q+1):=by
 unfold chS;rw[gC,show 64+64*q=64*(q+1) by omega]
structure Put(s s':DSt)(i:Int)(l:List UInt8)(m:Nat):Prop where
 kept:s'.kept=s.kept
 offAt:s'.offAt=s.offAt
 pend:∀j,cB j s'.pend=if i<=j/\j<i+m then some (chS l (j-i).toNat) else cB j s.pend
theorem wr_put(n:Nat):∀(s:DSt) (i:Int) (l:List UInt8),l.length=64*n->0<=i->i+n<=s.kept.length ->
  ∃m,m<=n/\Put s (DSt.wr n s i l).1 i l m/\(((DSt.wr n s i l).2=0/\m=n)∨((DSt.wr n s i l).2=61/\m<n/\0<s.offAt)):=by
 induction n with
 | zero =>
  intro s i l _ _ _;refine⟨0,aM _,⟨rfl,rfl,λj=>?_⟩,.inl ⟨rfl,rfl⟩⟩;rw[if_neg (by omega)];rfl
 | succ n ih =>
  intro s i l hl hi hn;have hl1:(l.take 64).length=64:=by rw[bz];omega
  by_cases hoff:s.step.off=true
  ·have hw:s.write i (l.take 64)=(s.step,61):=by unfold DSt.write;rw[if_pos hoff]
   have hr:DSt.wr (n+1) s i l=(s.step,61):=by rw[DSt.wr,hw,if_neg (show ¬(61:Int)=0 by decide)]
   refine⟨0,by omega,?_,.inr ⟨by rw[hr],by omega,?_⟩⟩
   ·rw[hr];refine⟨rfl,rfl,λj=>?_⟩;rw[if_neg (by omega)];rfl
   ·have:s.step.offAt=s.offAt:=rfl
    unfold DSt.off at hoff;simp only[j9,decide_eq_true_eq] at hoff;omega
  ·have his:s.is i=true:=DSt.is_iff.2 (by omega);have hw:s.write i (l.take 64)=({ s.step with pend:=dU i (DSt.putS (s.now i) (l.take 64)) s.pend },0):=by
    unfold DSt.write;rw[if_neg hoff,if_neg (by rw[his,hl1];decide)]
   have hr:DSt.wr (n+1) s i l=DSt.wr n { s.step with pend:=dU i (DSt.putS (s.now i) (l.take 64)) s.pend } (i+1) (l.drop 64):=by rw[DSt.wr,hw,if_pos rfl]
   obtain⟨m,hm,⟨h1,h2,h3⟩,h4⟩:=ih { s.step with pend:=dU i (DSt.putS (s.now i) (l.take 64)) s.pend } (i+1) (l.drop 64) (by rw[bE];omega) (by omega) (by show i+1+(n:Int)<=(s.kept.length:Int);omega);rw[hr];refine⟨m+1,by omega,⟨h1,h2,λj=>?_⟩,?_⟩
   ·rw[h3 j,qm];by_cases hj:j=i
    ·subst hj;rw[if_neg (by omega),if_pos rfl,if_pos (by omega)];congr 1;rw[H6 _ sec0 _ hl1];unfold chS;rw[show(j-j).toNat=0 by omega,Nat.mul_zero,gS]
    ·rw[if_neg hj];by_cases hj2:i+1<=j/\j<i+1+m
     ·rw[if_pos hj2,if_pos (by omega),HW];congr 2;omega
     ·rw[if_neg hj2,if_neg (by omega)]
   ·rcases h4 with⟨q1,q2⟩|⟨q1,q2,q3⟩
    ·exact .inl ⟨q1,by omega⟩
    ·exact .inr ⟨q1,by omega,q3⟩
theorem vj(n:Nat)(s:DSt)(i:Int)(l:List UInt8)(hl:l.length=64*n)(hi:0<=i)(hn:i+n<=s.kept.length) :
  ∃m,m<=n/\Put s (s.writes i l).1 i l m/\(((s.writes i l).2=0/\m=n)∨((s.writes i l).2=61/\m<n/\0<s.offAt)):=by
 unfold DSt.writes;rw[show(l.length+63) / 64=n by omega];exact wr_put n s i l hl hi hn
theorem xP(n:Nat)(s:DSt)(i:Int)(l:List UInt8)(ho:s.offAt=0)(hl:l.length=64*n)(hi:0<=i)(hn:i+n<=s.kept.length):(s.writes i l).2=0/\Put s (s.writes i l).1 i l n:=by
 obtain⟨m,_,h1,h2⟩:=vj n s i l hl hi hn;rcases h2 with⟨q1,rfl⟩|⟨_,_,q⟩
 ·exact⟨q1,h1⟩
 ·omega
theorem Put.now{s s':DSt}{i:Int}{l:List UInt8}{m:Nat}(h:Put s s' i l m)(j:Int):s'.now j=if i<=j/\j<i+m then chS l (j-i).toNat else s.now j:=by
 unfold DSt.now;rw[h.pend j,h.kept];by_cases hj:i<=j/\j<i+m
 ·rw[if_pos hj,if_pos hj];rfl
 ·rw[if_neg hj,if_neg hj]
theorem lO{s s':DSt}{i:Int}{n:Nat}(h:∀q:Nat,q<n->s'.now (i+q)=s.now (i+q)):s'.reads i n=s.reads i n:=by
 induction n with
 | zero => rfl
 | succ n ih => rw [DSt.reads_succ, DSt.reads_succ, ih (λq hq => h q (by omega)), h n (by omega)]
theorem AG{s:DSt}{i:Int}{l:List UInt8}{n:Nat}(hl:64*n<=l.length)(h:∀q:Nat,q<n->(s.now (i+q)).1=(l.drop (64*q)).take 64):s.reads i n=l.take (64*n):=by
 induction n with
 | zero => rfl
 | succ n ih =>
  rw[DSt.reads_succ,ih (by omega) (λq hq=>h q (by omega)),h n (by omega),show 64*(n+1)=64*n+64 by omega,List.take_add]
theorem Put.reads{s s':DSt}{i:Int}{l:List UInt8}{n:Nat}(h:Put s s' i l n)(hl:l.length=64*n):s'.reads i n=l:=by
 rw[AG (l:=l) (by omega) (λq hq=>?_),<-hl,cX];rw[h.now,if_pos (by omega),show(i+(q:Int)-i).toNat=q by omega,A7 l q n hl hq]
theorem Put.other{s s':DSt}{i:Int}{l:List UInt8}{m:Nat}(h:Put s s' i l m){j:Int}{n:Nat}(hd:j+n<=i∨i+m<=j):s'.reads j n=s.reads j n :=
 lO λq hq=>by rw[h.now,if_neg (by omega)]
theorem td{s:DSt}(h:s.flush.2=0){j:Int}(h0:0<=j)(h1:j<s.kept.length):s.flush.1.now j=s.now j:=by
 unfold DSt.flush at h ⊢;by_cases hq:s.step.off=true
 ·rw[if_pos hq] at h;exact absurd h (show ¬(61:Int)=0 by decide)
 ·rw[if_neg hq];obtain⟨n,rfl⟩:∃n:Nat,j=n:=⟨j.toNat,by omega⟩
  show(DSt.apply s.kept s.pend).getD (n:Int).toNat sec0=_;rw[show(n:Int).toNat=n from rfl,FN _ _ _ (by omega)];rfl
theorem D5{s:DSt}(h:s.flush.2=0):s.flush.1.pend=[]:=by
 unfold DSt.flush at h ⊢;by_cases hq:s.step.off=true
 ·rw[if_pos hq] at h;exact absurd h (show ¬(61:Int)=0 by decide)
 ·rw[if_neg hq]
theorem tU(s:DSt):s.flush.1.offAt=s.offAt:=by unfold DSt.flush;split <;> rfl
theorem yu(s:DSt):s.flush.2=0∨(s.flush.2=61/\s.flush.1=s.step/\0<s.offAt):=by
 unfold DSt.flush;by_cases hq:s.step.off=true
 ·rw[if_pos hq];refine .inr ⟨rfl,rfl,?_⟩;unfold DSt.off at hq;simp only[j9,decide_eq_true_eq] at hq;exact hq.1
 ·rw[if_neg hq];exact .inl O
theorem HM{s:DSt}(h:s.offAt=0):s.flush.2=0:=by
 rcases yu s with h1|⟨_,_,h1⟩
 ·exact h1
 ·omega
def j5(s:Sup):Nat:=(150+s.txt.length+55) / 56
theorem kV(k:List UInt8)(s:Sup):(dN (cw k s) s.commit).length=64*j5 s:=by rw[lX,gM];rfl
theorem mY{s:Sup}(h:s.txt.length<=200):3<=j5 s/\j5 s<=7:=by unfold j5;omega
structure Laid(k:List UInt8)(ds ds':DSt)(a:Nat)(s:Sup):Prop where
 pend:ds'.pend=[]
 offAt:ds'.offAt=ds.offAt
 now:∀j:Int,0<=j->j<ds.kept.length->ds'.now j=if (a:Int)*16<=j/\j<(a:Int)*16+j5 s then chS (dN (cw k s) s.commit) (j-(a:Int)*16).toNat else ds.now j
 len:ds'.kept.length=ds.kept.length
theorem B0(k:List UInt8)(ds:DSt)(a:Nat)(s:Sup)(ha:a<=1)(hl:32<=ds.kept.length)(ht:s.txt.length<=200) :
  ((cU k ds a s).2=0/\Laid k ds (cU k ds a s).1 a s)∨((cU k ds a s).2=61/\0<ds.offAt/\∃m,m<=j5 s/\Put ds (cU k ds a s).1 ((a:Int)*16) (dN (cw k s) s.commit) m):=by
 have hn:=mY ht;obtain⟨m,hm,hp,hr⟩:=vj (j5 s) ds ((a:Int)*16) (dN (cw k s) s.commit) (kV k s) (by omega) (by omega);unfold cU;rcases hr with⟨h0,rfl⟩|⟨h0,_,h2⟩
 ·rw[if_pos h0];rcases yu (ds.writes ((a:Int)*16) (dN (cw k s) s.commit)).1 with hf|⟨hf,hf2,hf3⟩
  ·refine .inl ⟨hf,D5 hf,by rw[tU,hp.offAt],λj hj0 hj1=>?_,by rw[DSt.flush_len,hp.kept]⟩;rw[td hf hj0 (by rw[hp.kept];exact hj1),hp.now]
  ·refine .inr ⟨hf,by rw[hp.offAt] at hf3;exact hf3,j5 s,aM _,?_⟩;rw[hf2];exact⟨hp.kept,hp.offAt,hp.pend⟩
 ·rw[if_neg (by rw[h0];decide)];exact .inr ⟨h0,h2,m,hm,hp⟩
theorem mC{k:List UInt8}{ds:DSt}{a:Nat}{s:Sup}(ho:ds.offAt=0)(ha:a<=1)(hl:32<=ds.kept.length)(ht:s.txt.length<=200):(cU k ds a s).2=0/\Laid k ds (cU k ds a s).1 a s:=by
 rcases B0 k ds a s ha hl ht with h|⟨_,h,_⟩
 ·exact h
 ·omega
section
variable {k:List UInt8}{ds ds':DSt}{a:Nat}{s:Sup}
theorem Laid.other(h:Laid k ds ds' a s){j:Int}{n:Nat}(h0:0<=j)(h1:j+n<=ds.kept.length)(hd:j+n<=(a:Int)*16∨(a:Int)*16+j5 s<=j):ds'.reads j n=ds.reads j n :=
 lO λq hq=>by rw[h.now _ (by omega) (by omega),if_neg (by omega)]
theorem oU(ds:DSt)(i:Int)(m n:Nat):ds.reads i (m+n)=ds.reads i m++ds.reads (i+m) n:=by
 induction n with
 | zero => rw [qN, DSt.reads_zero, cE]
 | succ n ih =>
  rw[<-mP,DSt.reads_succ,ih,DSt.reads_succ,bP,show i+((m+n:Nat):Int)=i+(m:Int)+(n:Int) by omega]
theorem Laid.reg(h:Laid k ds ds' a s)(ha:a<=1)(hl:32<=ds.kept.length)(ht:s.txt.length<=200):fz ds' a=dN (cw k s) s.commit++ds.reads ((a:Int)*16+j5 s) (16-j5 s):=by
 have hn:=mY ht;unfold fz;have hsp:=oU ds' ((a:Int)*16) (j5 s) (16-j5 s);rw[show j5 s+(16-j5 s)=16 by omega] at hsp;rw[hsp];congr 1
 ·rw[AG (l:=dN (cw k s) s.commit) (by rw[kV];omega) (λq hq=>?_),<-kV k s,cX];rw[h.now _ (by omega) (by omega),if_pos (by omega),show((a:Int)*16+(q:Int)-(a:Int)*16).toNat=q by omega,A7 _ q _ (kV k s) hq]
 ·exact h.other (n:=16-j5 s) (by omega) (by omega) (.inr (Int.le_refl _))
end
def Stands(ds:DSt)(pk:List UInt8)(i:Nat)(g:UInt64)(l:List UInt8):Prop:=ds.reads (32+(i:Int)*8) 8=gX pk i g.toNat l/\l.length<=480
theorem sP(pk:List UInt8)(i:Nat)(g:UInt64)(l:List UInt8):UInt64.ofNat (dB ((gX pk i g.toNat l).take 8))=g:=by
 unfold gX;rw[bP,cP (aP _ _),oW]
theorem AP(pk:List UInt8)(i:Nat)(g:UInt64)(l:List UInt8)(h:l.length<=480):wj pk i (gX pk i g.toNat l)=some l:=by
 have hpl:=lU l h;have hsl:(gd pk (db i g.toNat) bB (dK l)).length=498:=by rw[iD,hpl]
 have h8:((gX pk i g.toNat l).drop 8)=gd pk (db i g.toNat) bB (dK l)++List.replicate 6 0:=by
  unfold gX;rw[bP,ej (aP _ _)]
 have h498:((gX pk i g.toNat l).drop 8).take 498=gd pk (db i g.toNat) bB (dK l):=by rw[h8,cP hsl]
 have h482:((gX pk i g.toNat l).drop 8).take 482=(gd pk (db i g.toNat) bB (dK l)).take ((gd pk (db i g.toNat) bB (dK l)).length-16):=by
  rw[h8,hsl,lE (by omega)]
 unfold wj;rw[sP,h498,if_pos (EX _ _ _ _),h482,Cr];have hd:(dK l).drop 2=l++List.replicate (480-l.length) 0:=by
  unfold dK;rw[bP,ej (aP _ _)]
 have htk:dB ((dK l).take 2)=l.length:=by
  unfold dK;rw[bP,cP (aP _ _),gF];exact fp (by omega)
 rw[hd,htk,ey h,cP rfl]
theorem gA{α:Type}{a b:List α}{n m:Nat}(h:a.length=m)(hm:m<=n):(a++b).drop n=b.drop (n-m):=by
 rw[BS,gj (by omega),dG,h]
def Hk(n:Nat)(b:List UInt8):List UInt8:=b++List.replicate (56*n-b.length) 0
theorem Fc(n:Nat)(b:List UInt8)(h:b.length<=56*(n+1)):(b.take 56++List.replicate (56-(b.take 56).length) 0)++Hk n (b.drop 56)=Hk (n+1) b:=by
 unfold Hk;by_cases hb:b.length<=56
 ·rw[cd hb,gj hb,dG,bP,uq];congr 2;simp only[kY];omega
 ·have h1:(b.take 56).length=56:=by rw[bz];omega
  rw[h1,Nat.sub_self,uo,cE,<-bP,eZ,bE];congr 2;omega
theorem lP(n:Nat)(nb b:List UInt8)(rest:List UInt8)(hn:nb.length=4) :
  ((fJ (n+1) nb b++rest).take 4=nb)/\(((fJ (n+1) nb b++rest).drop 60).take 4=nb)/\(((fJ (n+1) nb b++rest).drop 4).take 56=b.take 56++List.replicate (56-(b.take 56).length) 0)/\((fJ (n+1) nb b++rest).drop 64=fJ n nb (b.drop 56)++rest):=by
 have hp:(b.take 56++List.replicate (56-(b.take 56).length) (0:UInt8)).length=56:=by
  rw[aF,cN,bz];omega
 generalize hP:b.take 56++List.replicate (56-(b.take 56).length) (0:UInt8)=p at hp
 have hf:fJ (n+1) nb b++rest=nb++(p++(nb++(fJ n nb (b.drop 56)++rest))):=by
  rw[fJ,<-hP];simp only[bP]
 rw[hf];refine⟨cP hn,?_,?_,?_⟩
 ·rw[gA hn (by omega),gA hp (by omega),gS,cP hn]
 ·rw[ej hn,cP hp]
 ·rw[gA hn (by omega),gA hp (by omega),gA hn (by omega)];rfl
theorem vr(nb:List UInt8)(hn:nb.length=4)(rest:List UInt8):∀(n N:Nat) (b:List UInt8),n<=N->b.length<=56*n ->
  nA nb N (fJ n nb b++rest)=Hk n b++nA nb (N-n) rest
 | 0, N, b, _, hb => by
  have:b=[]:=kj (by omega)
  subst this;rfl
 | n + 1, N, b, hN, hb => by
  obtain⟨N,rfl⟩:∃q,N=q+1:=⟨N-1,by omega⟩
  obtain⟨h1,h2,h3,h4⟩:=lP n nb b rest hn;rw[nA,if_pos ⟨h1,h2⟩,h3,h4,vr nb hn rest n N (b.drop 56) (by omega) (by rw[bE];omega),<-bP,Fc n b hb,show N+1-(n+1)=N-n by omega]
theorem GD(k:List UInt8)(s:Sup)(rest:List UInt8)(h:j5 s<=16)(hr:rest.length=64*(16-j5 s)):∃z,iP (dN (cw k s) s.commit++rest)=cw k s++z:=by
 have hl:(dN (cw k s) s.commit++rest).length=1024:=by rw[aF,kV,hr];omega
 have hsl:=gM k s;have hN:j5 s=((cw k s).length+55) / 56:=by rw[hsl];rfl
 have h3:2<=j5 s:=by unfold j5;omega
 have hfr:dN (cw k s) s.commit=fJ (j5 s) (be 4 s.commit.toNat) (cw k s):=by unfold dN;rw[<-hN]
 unfold iP;rw[hl,hfr];obtain⟨m,hm⟩:∃m,j5 s=m+1:=⟨j5 s-1,by omega⟩
 have hh:=(lP m (be 4 s.commit.toNat) (cw k s) rest (aP _ _)).1;rw[<-hm] at hh;rw[hh,show 1024 / 64=16 from rfl,vr _ (aP _ _) rest (j5 s) 16 (cw k s) h (by rw[hN];omega)];exact⟨_,by unfold Hk;rw[bP]⟩
theorem gD(k:List UInt8)(s:Sup)(z:List UInt8):cw k s++z=be 8 s.commit.toNat++(be 4 s.epoch.toNat++(be 4 s.root.toNat++(be 2 s.txt.length++(s.txt++(eP s.used++(eP s.written++(lM k (iN s)++z))))))):=by
 unfold cw
 generalize lM k (iN s)=t
 unfold iN;simp only[bP]
theorem DM(k:List UInt8)(s:Sup)(z:List UInt8)(h:s.txt.length<=200):txN (cw k s++z)=s.txt.length:=by
 unfold txN;rw[gD,gA (aP _ _) (by omega),gA (aP _ _) (by omega),gA (aP _ _) (by omega),gS,cP (aP _ _),gF];exact fp (by omega)
theorem ER(k:List UInt8)(s:Sup)(z:List UInt8)(h:s.Ok):kD (cw k s++z)=s:=by
 have ht:=DM k s z h.txt;have h1:=fw s.used;have h2:=fw s.written;have hb:UInt32.ofNat (dB (be 4 s.root.toNat))=s.root:=by rw[gF];apply UInt32.toNat_inj.1;rw[fL];have:=s.root.toNat_lt;omega
 have he:UInt32.ofNat (dB (be 4 s.epoch.toNat))=s.epoch:=by rw[gF];apply UInt32.toNat_inj.1;rw[fL];have:=s.epoch.toNat_lt;omega
 have e1:((cw k s++z).drop 12).take 4=be 4 s.root.toNat:=by rw[gD,gA (aP _ _) (by omega),gA (aP _ _) (by omega),gS,cP (aP _ _)]
 have e2:((cw k s++z).drop 18).take s.txt.length=s.txt:=by rw[gD,gA (aP _ _) (by omega),gA (aP _ _) (by omega),gA (aP _ _) (by omega),gA (aP _ _) (by omega),gS,cP rfl]
 have e3:((cw k s++z).drop (18+s.txt.length)).take 50=eP s.used:=by rw[gD,gA (aP _ _) (by omega),gA (aP _ _) (by omega),gA (aP _ _) (by omega),gA (aP _ _) (by omega),gA rfl (by omega),show 18+s.txt.length-8-4-4-2-s.txt.length=0 by omega,gS,cP h1]
 have e4:((cw k s++z).drop (68+s.txt.length)).take 50=eP s.written:=by rw[gD,gA (aP _ _) (by omega),gA (aP _ _) (by omega),gA (aP _ _) (by omega),gA (aP _ _) (by omega),gA rfl (by omega),gA h1 (by omega),show 68+s.txt.length-8-4-4-2-s.txt.length-50=0 by omega,gS,cP h2]
 have e5:(cw k s++z).take 8=be 8 s.commit.toNat:=by rw[gD,cP (aP _ _)]
 have e6:((cw k s++z).drop 8).take 4=be 4 s.epoch.toNat:=by rw[gD,gA (aP _ _) (by omega),gS,cP (aP _ _)]
 unfold kD;rw[ht,e1,e2,e3,e4,e5,e6,hb,he,oW,tJ h.used,tJ h.written]
theorem sup_tag(k:List UInt8)(s:Sup)(z:List UInt8):((cw k s++z).drop (118+s.txt.length)).take 32=lM k (iN s)/\(cw k s++z).take (118+s.txt.length)=iN s:=by
 have hp:=pE s;have e:cw k s++z=iN s++(lM k (iN s)++z):=by unfold cw;rw[bP]
 rw[e,ej hp,cP hp,cP (kJ _ _)];exact⟨rfl,rfl⟩
theorem CE(k k2:List UInt8)(s:Sup)(z:List UInt8)(h:s.Ok):dT k2 (cw k s++z)=if lM k (iN s)=lM k2 (iN s) then some s else none:=by
 have ht:=DM k s z h.txt;have hl:(cw k s++z).length=150+s.txt.length+z.length:=by rw[aF,gM]
 have h3:=h.txt;obtain⟨h4,h5⟩:=sup_tag k s z;unfold dT;rw[ht,if_neg (by omega),h4,h5,ER k s z h]
theorem CD(k:List UInt8)(s:Sup)(z:List UInt8)(h:s.Ok):dT k (cw k s++z)=some s:=by
 rw[CE k k s z h,if_pos rfl]
def zE(c:Sec):Nat:=dB (c.1.take 4)
def zC(c:Sec):Nat:=dB ((c.1.drop 60).take 4)
theorem DX(c:Sec):zE c<4294967296:=by
 have:=oX (c.1.take 4)
 have h2:(c.1.take 4).length<=4:=by rw[bz];omega
 have h3:256 ^ (c.1.take 4).length<=256 ^ 4:=mN (by omega) h2;unfold zE
 have:(256:Nat) ^ 4=4294967296:=rfl
 omega
theorem DW(c:Sec):zC c<4294967296:=by
 have:=oX ((c.1.drop 60).take 4)
 have h2:((c.1.drop 60).take 4).length<=4:=by rw[bz];omega
 have h3:256 ^ ((c.1.drop 60).take 4).length<=256 ^ 4:=mN (by omega) h2;unfold zC
 have:(256:Nat) ^ 4=4294967296:=rfl
 omega
theorem AR(ds:DSt):∀(n:Nat) (i:Int) (x:UInt64),x∈my n (ds.reads i n)->∃q:Nat,q<n/\(x.toNat=zE (ds.now (i+q))∨x.toNat=zC (ds.now (i+q)))
 | 0, _, _, h => by simp [my] at h
 | n + 1, i, x, h => by
  have hr:ds.reads i (n+1)=(ds.now i).1++ds.reads (i+1) n:=by
   rw[Nat.add_comm n 1,oU];congr 1;rw[DSt.reads_succ,DSt.reads_zero,dG];simp
  have hs:=(ds.now i).2;have e1:(ds.reads i (n+1)).take 4=(ds.now i).1.take 4:=by rw[hr,lE (by omega)]
  have e2:((ds.reads i (n+1)).drop 60).take 4=((ds.now i).1.drop 60).take 4:=by rw[hr,sC (by omega),lE (by rw[bE];omega)]
  have e3:(ds.reads i (n+1)).drop 64=ds.reads (i+1) n:=by rw[hr,ej hs]
  rw[my,e1,e2,e3] at h;have h1:=DX (ds.now i);have h2:=DW (ds.now i);have hi:i+((0:Nat):Int)=i:=by simp
  rcases List.mem_cons.1 h with rfl|h
  ·refine⟨0,by omega,.inl ?_⟩;rw[hi,ef];exact fp (by unfold zE at h1;omega)
  ·rcases List.mem_cons.1 h with rfl|h
   ·refine⟨0,by omega,.inr ?_⟩;rw[hi,ef];exact fp (by unfold zC at h2;omega)
   ·obtain⟨q,hq,hx⟩:=AR ds n (i+1) x h;exact⟨q+1,by omega,by rw[show i+((q+1:Nat):Int)=i+1+(q:Int) by omega];exact hx⟩
theorem E1(ds:DSt):∀(n:Nat) (i:Int) (q:Nat),q<n->UInt64.ofNat (zE (ds.now (i+q)))∈my n (ds.reads i n)/\UInt64.ofNat (zC (ds.now (i+q)))∈my n (ds.reads i n)
 | 0, _, _, h => by omega
 | n + 1, i, q, h => by
  have hr:ds.reads i (n+1)=(ds.now i).1++ds.reads (i+1) n:=by
   rw[Nat.add_comm n 1,oU];congr 1;rw[DSt.reads_succ,DSt.reads_zero,dG];simp
  have hs:=(ds.now i).2;have e1:(ds.reads i (n+1)).take 4=(ds.now i).1.take 4:=by rw[hr,lE (by omega)]
  have e2:((ds.reads i (n+1)).drop 60).take 4=((ds.now i).1.drop 60).take 4:=by rw[hr,sC (by omega),lE (by rw[bE];omega)]
  have e3:(ds.reads i (n+1)).drop 64=ds.reads (i+1) n:=by rw[hr,ej hs]
  rw[my,e1,e2,e3];rcases q with _|q
  ·rw[show i+((0:Nat):Int)=i by simp];exact⟨cM ..,bN _ (cM ..)⟩
  ·obtain⟨h1,h2⟩:=E1 ds n (i+1) q (by omega);rw[show i+((q+1:Nat):Int)=i+1+(q:Int) by omega];exact⟨bN _ (bN _ h1),bN _ (bN _ h2)⟩
def NumLe(ds:DSt)(M:Nat):Prop:=∀j:Int,0<=j->j<32->zE (ds.now j)<=M/\zC (ds.now j)<=M
theorem NumLe.mem{ds:DSt}{M:Nat}(h:NumLe ds M){x:UInt64}(hx:x∈gq (fz ds 0)++gq (fz ds 1)):x.toNat<=M:=by
 have h0:∀a:Nat,a<=1->x∈gq (fz ds a)->x.toNat<=M:=λa ha hx=>by
  unfold gq fz at hx;rw[DSt.reads_length,show 64*16 / 64=16 from rfl] at hx;obtain⟨q,hq,h1⟩:=AR ds 16 _ x hx
  have:=h ((a:Int)*16+q) (by omega) (by omega)
  omega
 rcases List.mem_append.1 hx with hx|hx
 ·exact h0 0 (by omega) hx
 ·exact h0 1 (by omega) hx
theorem Dl(c x:UInt64)(hc:c.toNat<65536)(hx:x.toNat<65536):(m5 c x).toNat=if c.toNat<=x.toNat then x.toNat-c.toNat else 4294967296-(c.toNat-x.toNat):=by
 rw[FO,UInt32.toNat_toUInt64,UInt64.toNat_toUInt32,UInt64.toNat_sub]
 split <;> omega
theorem zR(c n x:UInt64)(hc:c.toNat<65536)(hx:x.toNat<65536)(hn:c.toNat<=n.toNat):(fm c n x).toNat=max n.toNat x.toNat:=by
 have h:=Dl c x hc hx;unfold fm;by_cases hcx:c.toNat<=x.toNat
 ·rw[if_pos hcx] at h;have hlt:m5 c x<65536:=by rw[mL,h];show x.toNat-c.toNat<65536;omega
  rw[if_pos hlt];have ha:(c+m5 c x).toNat=x.toNat:=by rw[oE,h];omega
  rw[vv,ha]
 ·rw[if_neg hcx] at h;have hlt:¬m5 c x<65536:=by rw[mL,h];show ¬_<65536;omega
  rw[if_neg hlt];omega
theorem yj(c:UInt64)(hc:c.toNat<65536):∀(l:List UInt64) (n:UInt64),(∀x∈l,x.toNat<65536)->c.toNat<=n.toNat ->
  n.toNat<=(l.foldl (fm c) n).toNat/\(∀x∈l,x.toNat<=(l.foldl (fm c) n).toNat)/\((l.foldl (fm c) n).toNat=n.toNat∨∃x∈l,(l.foldl (fm c) n).toNat=x.toNat)
 | [], n, _, _ => ⟨aM _, by simp, .inl rfl⟩
 | y :: l, n, hl, hn => by
  have hy:=zR c n y hc (hl y (by simp)) hn;obtain⟨h1,h2,h3⟩:=yj c hc l (fm c n y) (λx hx=>hl x (by simp[hx])) (by omega);rw[pS];refine⟨by omega,λx hx=>?_,?_⟩
  ·rcases List.mem_cons.1 hx with rfl|hx
   ·omega
   ·exact h2 x hx
  ·rcases h3 with h3|⟨x,hx,h3⟩
   ·by_cases hh:n.toNat<=y.toNat
    ·exact .inr ⟨y,by simp,by omega⟩
    ·exact .inl (by omega)
   ·exact .inr ⟨x,by simp[hx],h3⟩
theorem og{k:List UInt8}{ds:DSt}{M:Nat}(h:NumLe ds M)(hM:M<60000)(hc:(jA (newest k ds)).toNat<=M):(jA (newest k ds)).toNat<(fe k ds).toNat/\(fe k ds).toNat<=M+1/\NumLe ds ((fe k ds).toNat-1):=by
 have hl:∀x∈gq (fz ds 0)++gq (fz ds 1),x.toNat<65536:=λx hx=>by have:=h.mem hx;omega
 obtain⟨h1,h2,h3⟩:=yj (jA (newest k ds)) (by omega) _ (jA (newest k ds)) hl (aM _);have hr:((gq (fz ds 0)++gq (fz ds 1)).foldl (fm (jA (newest k ds))) (jA (newest k ds))).toNat<=M:=by
  rcases h3 with h3|⟨x,hx,h3⟩
  ·omega
  ·have:=h.mem hx;omega
 have hn:(fe k ds).toNat=((gq (fz ds 0)++gq (fz ds 1)).foldl (fm (jA (newest k ds))) (jA (newest k ds))).toNat+1:=by
  unfold fe E3;rw[oE];exact fp (by show _+1<_;omega)
 refine⟨by omega,by omega,λj hj0 hj1=>?_⟩;rw[hn];have hmem:∀a:Nat,a<=1->∀q:Nat,q<16->UInt64.ofNat (zE (ds.now ((a:Int)*16+q)))∈gq (fz ds a)/\UInt64.ofNat (zC (ds.now ((a:Int)*16+q)))∈gq (fz ds a):=by
  intro a ha q hq;unfold gq fz;rw[DSt.reads_length,show 64*16 / 64=16 from rfl];exact E1 ds 16 _ q hq
 have hmem2:∀x:UInt64,(∃a:Nat,a<=1/\x∈gq (fz ds a))->x∈gq (fz ds 0)++gq (fz ds 1):=by
  rintro x ⟨a,ha,hx⟩;rcases(by omega:a=0∨a=1) with rfl|rfl
  ·exact cL _ hx
  ·exact cf _ hx
 obtain⟨a,ha,q,hq,rfl⟩:∃a:Nat,a<=1/\∃q:Nat,q<16/\j=(a:Int)*16+q:=by
  by_cases hj:j<16
  ·exact⟨0,by omega,j.toNat,by omega,by omega⟩
  ·exact⟨1,by omega,(j-16).toNat,by omega,by omega⟩
 obtain⟨m1,m2⟩:=hmem a ha q hq;have g1:=h2 _ (hmem2 _ ⟨a,ha,m1⟩);have g2:=h2 _ (hmem2 _ ⟨a,ha,m2⟩);have b1:=DX (ds.now ((a:Int)*16+q));have b2:=DW (ds.now ((a:Int)*16+q));rw[ef] at g1 g2;omega
structure POK(n k:Nat)(key:List UInt8)(ds:DSt)(P:Pg)(V:UInt32->List UInt8):Prop where
 off:ds.offAt=0
 fine:ds.Fine
 len:ds.kept.length=32+8*n
 size:4<=n/\n<=400
 steps:ds.steps<=100*k
 few:k<=1000000
 broken:P.broken=false
 at_:P.at_<=1
 used:∀i,P.now.used i=true->i.toNat<n
 kused:∀i,P.kept.used i=true->i.toNat<n
 written:∀i,P.now.written i=true->P.now.used i=true
 kwritten:∀i,P.kept.written i=true->P.kept.used i=true
 wok:∀i,P.now.written i=true->P.kept.used i=false∨P.kept.written i=true
 pages:∀i,P.now.written i=true∨P.kept.written i=true->∃g,P.gens i=some g/\Stands ds (bm key bB 0) i.toNat g (V i)
def xg(V:UInt32->List UInt8)(i:UInt32)(l:List UInt8):UInt32->List UInt8:=λj=>if j=i then l else V j
theorem rO{n L:Nat}(h:L=32+8*n)(h2:n<=400):iV L=n:=by unfold iV;omega
section
variable {n k:Nat}{key:List UInt8}{ds:DSt}{P:Pg}{V:UInt32->List UInt8}
theorem POK.many(h:POK n k key ds P V):iV ds.kept.length=n:=rO h.len h.size.2
theorem POK.small(h:POK n k key ds P V):ds.kept.length<=4000:=by have:=h.len;have:=h.size;omega
theorem POK.offF(h:POK n k key ds P V):ds.off=false:=by
 unfold DSt.off;rw[h.off];rfl
theorem POK.inn(h:POK n k key ds P V){i:UInt32}(hi:P.now.used i=true):40+i.toNat*8<=ds.kept.length:=by
 have:=h.used i hi
 have:=h.len
 omega
theorem fresh_iff{P:Pg}{i:UInt32}:P.fresh i=true↔P.now.used i=true/\P.kept.used i=false:=by
 unfold Pg.fresh;simp
theorem free_iff{P:Pg}{i:UInt32}:P.free i=true↔P.now.used i=false/\P.kept.used i=false:=by
 unfold Pg.free;simp
theorem POK.alloc(h:POK n k key ds P V)(i:UInt32)(hi:i.toNat<n):POK n k key ds { P with now:={ P.now with used:=eX P.now.used i } } V where
 off:=h.off
 fine:=h.fine
 len:=h.len
 size:=h.size
 steps:=h.steps
 few:=h.few
 broken:=h.broken
 at_:=h.at_
 used:=λj hj=>by
  have hj:eX P.now.used i j=true:=hj;unfold eX at hj;simp only[mR,decide_eq_true_eq] at hj;rcases hj with rfl|hj
  ·exact hi
  ·exact h.used j hj
 kused:=h.kused
 written:=λj hj=>by
  show eX P.now.used i j=true;unfold eX;rw[h.written j hj,Bool.or_true]
 kwritten:=h.kwritten
 wok:=h.wok
 pages:=h.pages
theorem POK.free(h:POK n k key ds P V)(i:UInt32):POK n k key ds { P with now:={ P.now with used:=eS P.now.used i,written:=eS P.now.written i } } V where
 off:=h.off
 fine:=h.fine
 len:=h.len
 size:=h.size
 steps:=h.steps
 few:=h.few
 broken:=h.broken
 at_:=h.at_
 used:=λj hj=>h.used j (by
  have hj:eS P.now.used i j=true:=hj;unfold eS at hj;simp only[j9] at hj;exact hj.2)
 kused:=h.kused
 written:=λj hj=>by
  have hj:eS P.now.written i j=true:=hj;unfold eS at hj;simp only[j9] at hj;show eS P.now.used i j=true;unfold eS;rw[hj.1,h.written j hj.2];rfl
 kwritten:=h.kwritten
 wok:=λj hj=>h.wok j (by
  have hj:eS P.now.written i j=true:=hj;unfold eS at hj;simp only[j9] at hj;exact hj.2)
 pages:=λj hj=>h.pages j (by
  rcases hj with hj|hj
  ·have hj:eS P.now.written i j=true:=hj;unfold eS at hj;simp only[j9] at hj;exact .inl hj.2
  ·exact .inr hj)
theorem POK.undo(h:POK n k key ds P V):POK n k key ds { P with now:=P.kept.st } V where
 off:=h.off
 fine:=h.fine
 len:=h.len
 size:=h.size
 steps:=h.steps
 few:=h.few
 broken:=h.broken
 at_:=h.at_
 used:=h.kused
 kused:=h.kused
 written:=h.kwritten
 kwritten:=h.kwritten
 wok:=λj hj=>.inr hj
 pages:=λj hj=>h.pages j (.inr (by rcases hj with hj|hj <;> exact hj))
theorem Stands.other{ds ds':DSt}{pk:List UInt8}{i:Nat}{g:UInt64}{l:List UInt8}(h:Stands ds pk i g l)(hc:∀q:Nat,q<8->ds'.now (32+(i:Int)*8+q)=ds.now (32+(i:Int)*8+q)):Stands ds' pk i g l:=⟨by rw[lO hc];exact h.1,h.2⟩
theorem POK.write(h:POK n k key ds P V)(hk:k+1<=1000000)(i:UInt32)(hi:P.fresh i=true)(l:List UInt8)(hl:l.length<=480) :
  (ds.writes (32+(i.toNat:Int)*8) (gX (bm key bB 0) i.toNat P.gen.toNat l)).2=0 /\
  POK n (k+1) key (ds.writes (32+(i.toNat:Int)*8) (gX (bm key bB 0) i.toNat P.gen.toNat l)).1 { P with count:=P.count+1,now:={ P.now with written:=eX P.now.written i },gens:=sJ P.gens i P.gen } (xg V i l):=by
 obtain⟨hu,hku⟩:=fresh_iff.1 hi;have hin:=h.used i hu;have hlen:=h.len;have hpl:=na (bm key bB 0) i.toNat P.gen.toNat l hl;obtain⟨h0,hp⟩:=xP 8 ds (32+(i.toNat:Int)*8) (gX (bm key bB 0) i.toNat P.gen.toNat l) h.off hpl (by omega) (by omega);have hsteps:=h.steps;have hbn:=vl (32+(i.toNat:Int)*8) (gX (bm key bB 0) i.toNat P.gen.toNat l) h.fine (by omega);refine⟨h0,by rw[hp.offAt];exact h.off,hbn.1,by rw[hbn.2.2];exact hlen,h.size,by omega,hk,h.broken,h.at_,h.used,h.kused,λj hj=>?_,h.kwritten,λj hj=>?_,λj hj=>?_⟩
 ·have hj:eX P.now.written i j=true:=hj;unfold eX at hj;simp only[mR,decide_eq_true_eq] at hj;rcases hj with rfl|hj
  ·exact hu
  ·exact h.written j hj
 ·have hj:eX P.now.written i j=true:=hj;unfold eX at hj;simp only[mR,decide_eq_true_eq] at hj;rcases hj with rfl|hj
  ·exact .inl hku
  ·exact h.wok j hj
 ·by_cases hji:j=i
  ·subst hji;refine⟨P.gen,by show sJ P.gens j P.gen j=_;unfold sJ;rw[if_pos rfl],?_,by unfold xg;rw[if_pos rfl];exact hl⟩;rw[hp.reads hpl];unfold xg;rw[if_pos rfl]
  ·have hj2:P.now.written j=true∨P.kept.written j=true:=by
    rcases hj with hj|hj
    ·have hj:eX P.now.written i j=true:=hj;unfold eX at hj;rw[decide_eq_false hji,qH] at hj;exact .inl hj
    ·exact .inr hj
   obtain⟨g,hg,hs⟩:=h.pages j hj2;have hjn:j.toNat≠i.toNat:=λhh=>hji (UInt32.toNat_inj.1 hh);refine⟨g,by show sJ P.gens i P.gen j=_;unfold sJ;rw[if_neg hji];exact hg,?_⟩;unfold xg;rw[if_neg hji];exact hs.other λq hq=>by rw[hp.now,if_neg (by omega)]
theorem POK.read(h:POK n k key ds P V){i:UInt32}(hi:P.now.written i=true) :
  UInt64.ofNat (dB ((ds.reads (32+(i.toNat:Int)*8) 8).take 8))=(P.gens i).getD 0/\wj (bm key bB 0) i.toNat (ds.reads (32+(i.toNat:Int)*8) 8)=some (V i):=by
 obtain⟨g,hg,hs,hl⟩:=h.pages i (.inl hi);rw[hs,sP,hg,AP _ _ _ _ hl];exact⟨rfl,rfl⟩
theorem POK.commit(h:POK n k key ds P V)(hk:k+1<=1000000)(root:UInt32)(txt:List UInt8)(ht:txt.length<=200) :
  ds.flush.2=0/\(cU key ds.flush.1 ((P.at_+1) % 2) (eo P root txt)).2=0 /\
  POK n (k+1) key (cU key ds.flush.1 ((P.at_+1) % 2) (eo P root txt)).1 { P with now:=(eo P root txt).st,kept:=eo P root txt,at_:=(P.at_+1) % 2 } V /\
  Laid key ds.flush.1 (cU key ds.flush.1 ((P.at_+1) % 2) (eo P root txt)).1 ((P.at_+1) % 2) (eo P root txt):=by
 have hsteps:=h.steps;have hlen:=h.len;have hsz:=h.size;have h0:=HM h.off;have hfs:=DSt.flush_steps ds;have hff:=h.fine.flush (by omega);have hfl:=DSt.flush_len ds;have hfo:ds.flush.1.offAt=0:=by rw[tU];exact h.off
 have ht2:(eo P root txt).txt.length<=200:=ht;obtain⟨h1,hL⟩:=mC (k:=key) (a:=(P.at_+1) % 2) (s:=eo P root txt) hfo (by omega) (by omega) ht2;have hbn:=jf key ds.flush.1 ((P.at_+1) % 2) (eo P root txt) hff ht2 (by omega);have hsn:=mY ht2;refine⟨h0,h1,⟨by rw[hL.offAt];exact hfo,hbn.1,by rw[hL.len,hfl];exact hlen,hsz,by omega,hk,h.broken,by show(P.at_+1) % 2<=1;omega,h.used,h.used,h.written,h.written,λj hj=>.inr hj,λj hj=>?_⟩,hL⟩;have hj:P.now.written j=true:=by rcases hj with hj|hj <;> exact hj
 obtain⟨g,hg,hs⟩:=h.pages j (.inl hj);have hjn:=h.used j (h.written j hj);refine⟨g,hg,hs.other λq hq=>?_⟩;rw[hL.now _ (by omega) (by rw[hfl];omega),if_neg (by omega),td h0 (by omega) (by omega)]
end
theorem yr(nb:List UInt8)(hn:nb.length=4)(rest:List UInt8):∀(n q:Nat) (b:List UInt8),q<n->(fJ n nb b++rest).drop (64*q)=fJ (n-q) nb (b.drop (56*q))++rest
 | n, 0, b, _ => by simp
 | 0, q + 1, b, h => by omega
 | n + 1, q + 1, b, h => by
  rw[show 64*(q+1)=64+64*q by omega,<-gC,(lP n nb b rest hn).2.2.2,yr nb hn rest n q (b.drop 56) (by omega),gC,show n+1-(q+1)=n-q by omega,show 56+56*q=56*(q+1) by omega]
theorem CZ(k:List UInt8)(s:Sup)(hc:s.commit.toNat<4294967296)(q:Nat)(hq:q<j5 s):zE (chS (dN (cw k s) s.commit) q)=s.commit.toNat/\zC (chS (dN (cw k s) s.commit) q)=s.commit.toNat:=by
 have hsl:=gM k s;have hN:j5 s=((cw k s).length+55) / 56:=by rw[hsl];rfl
 have hfr:dN (cw k s) s.commit=fJ (j5 s) (be 4 s.commit.toNat) (cw k s)++[]:=by unfold dN;rw[<-hN,cE]
 obtain⟨m,hm⟩:∃m,j5 s-q=m+1:=⟨j5 s-q-1,by omega⟩
 have hv:=A7 (dN (cw k s) s.commit) q _ (kV k s) hq;have hd:(dN (cw k s) s.commit).drop (64*q)=fJ (m+1) (be 4 s.commit.toNat) ((cw k s).drop (56*q))++[]:=by
  rw[hfr,yr _ (aP _ _) _ _ _ _ hq,hm]
 obtain⟨h1,h2,h3,h4⟩:=lP m (be 4 s.commit.toNat) ((cw k s).drop (56*q)) [] (aP _ _);rw[<-hd] at h1 h2;have hb:dB (be 4 s.commit.toNat)=s.commit.toNat:=by rw[gF];exact fp hc
 unfold zE zC;rw[hv];refine⟨?_,?_⟩
 ·rw[qO,show min 4 64=4 from rfl,h1,hb]
 ·rw[List.drop_take,qO,show min 4 (64-60)=4 from rfl,h2,hb]
structure SupAt(key:List UInt8)(ds:DSt)(a:Nat)(s:Sup):Prop where
 a_:a<=1
 ok:s.Ok
 reg:∃rest,rest.length=64*(16-j5 s)/\fz ds a=dN (cw key s) s.commit++rest
 oth:∀s',dT key (iP (fz ds ((a+1) % 2)))=some s'->s'.commit<s.commit
 nums:NumLe ds s.commit.toNat
section
variable {key:List UInt8}{ds ds':DSt}{a:Nat}{s:Sup}
theorem SupAt.par(h:SupAt key ds a s):dT key (iP (fz ds a))=some s:=by
 obtain⟨rest,hr,he⟩:=h.reg
 have:=mY h.ok.txt
 obtain⟨z,hz⟩:=GD key s rest (by omega) hr;rw[he,hz,CD key s z h.ok]
theorem rM{k:List UInt8}{ds:DSt}{best:Option (Sup×Nat)}{i:Nat}(h:dT k (iP (fz ds i))=none):ei k ds best i=best:=by unfold ei;rw[h]
theorem SupAt.newest(h:SupAt key ds a s):newest key ds=some (s,a):=by
 have hp:=h.par;have ho:=h.oth;unfold Go.Sac.newest;rcases(by have:=h.a_;omega:a=0∨a=1) with rfl|rfl
 ·have h0:ei key ds none 0=some (s,0):=by unfold ei;rw[hp]
  rw[h0];cases hq:dT key (iP (fz ds 1)) with
  | none => exact rM hq
  | some s' =>
   have:=ho s' hq
   unfold ei;rw[hq];show(if s.commit<s'.commit then some (s',1) else some (s,0))=some (s,0);rw[if_neg];intro hh;rw[mL] at this hh;omega
 ·cases hq:dT key (iP (fz ds 0)) with
  | none =>
   rw[rM hq];unfold ei;rw[hp]
  | some s' =>
   have:=ho s' hq
   have h0:ei key ds none 0=some (s',0):=by unfold ei;rw[hq]
   rw[h0];unfold ei;rw[hp];show(if s'.commit<s.commit then some (s,1) else some (s',0))=some (s,1);rw[if_pos this]
theorem NumLe.mono{M M':Nat}(h:NumLe ds M)(hm:M<=M'):NumLe ds M':=λj h0 h1=>by have:=h j h0 h1;omega
theorem NumLe.congr{M:Nat}(h:NumLe ds M)(hc:∀j:Int,0<=j->j<32->ds'.now j=ds.now j):NumLe ds' M:=λj h0 h1=>by rw[hc j h0 h1];exact h j h0 h1
theorem vN(ha:a<=1)(hc:∀j:Int,0<=j->j<32->ds'.now j=ds.now j):fz ds' a=fz ds a:=lO λq hq=>hc _ (by omega) (by omega)
theorem SupAt.congr(h:SupAt key ds a s)(hc:∀j:Int,0<=j->j<32->ds'.now j=ds.now j):SupAt key ds' a s:=by
 refine⟨h.a_,h.ok,?_,?_,h.nums.congr hc⟩
 ·rw[vN h.a_ hc];exact h.reg
 ·rw[vN (by omega) hc];exact h.oth
theorem Laid.othReg(h:Laid key ds ds' a s)(_:a<=1)(hl:32<=ds.kept.length)(ht:s.txt.length<=200):fz ds' ((a+1) % 2)=fz ds ((a+1) % 2):=by
 have:=mY ht
 exact h.other (by omega) (by omega) (by omega)
theorem Laid.nums(h:Laid key ds ds' a s)(hl:32<=ds.kept.length){M:Nat}(hn:NumLe ds M)(hM:M<=s.commit.toNat)(hc:s.commit.toNat<4294967296):NumLe ds' s.commit.toNat:=by
 intro j h0 h1;rw[h.now j h0 (by omega)]
 split
 ·rename_i hj
  obtain⟨q1,q2⟩:=CZ key s hc (j-(a:Int)*16).toNat (by omega)
  omega
 ·have:=hn j h0 h1
  omega
theorem Laid.sup(h:Laid key ds ds' a s)(ha:a<=1)(hl:32<=ds.kept.length)(hok:s.Ok){M:Nat}(hn:NumLe ds M)(hM:M<=s.commit.toNat)(hc:s.commit.toNat<4294967296)
  (ho:∀s',dT key (iP (fz ds ((a+1) % 2)))=some s'->s'.commit<s.commit):SupAt key ds' a s:=by
 refine⟨ha,hok,⟨_,DSt.reads_length _ _ _,h.reg ha hl hok.txt⟩,?_,h.nums hl hn hM hc⟩;rw[h.othReg ha hl hok.txt];exact ho
theorem SupAt.next(h:SupAt key ds a s){s':Sup}(hL:Laid key ds ds' ((a+1) % 2) s')(hl:32<=ds.kept.length)(hok:s'.Ok)(hlt:s.commit.toNat<s'.commit.toNat)(hc:s'.commit.toNat<4294967296):SupAt key ds' ((a+1) % 2) s':=by
 have ha:=h.a_;refine hL.sup (by omega) hl hok h.nums (by omega) hc ?_;rw[show((a+1) % 2+1) % 2=a by omega,h.par];intro s2 h2;cases h2;rw[mL];exact hlt
end
theorem Em(n:Nat)(j:Int):(dsN n).now j=sec0:=by
 unfold DSt.now dsN;show(none:Option Sec).getD ((List.replicate n sec0).getD j.toNat sec0)=sec0;rw[Option.getD_none,eI,List.getElem?_replicate]
 split <;> rfl
theorem Bo(n:Nat):NumLe (dsN n) 0:=λj _ _=>by rw[Em];decide
theorem rH{k b:List UInt8}{s:Sup}(h:dT k b=some s):s=kD b:=by
 unfold dT at h
 split at h
 ·cases h
 ·split at h
  ·cases h;rfl
  ·cases h
theorem reads_zero(n:Nat)(i:Int):∀m,(dsN n).reads i m=List.replicate (64*m) 0
 | 0 => rfl
 | m + 1 => by
  rw[DSt.reads_succ,reads_zero n i m,Em];show List.replicate (64*m) (0:UInt8)++List.replicate 64 0=_;rw[uq];rfl
theorem xT:iP (List.replicate (64*16) 0)=List.replicate 896 0:=by decide +kernel
theorem oe(k:List UInt8)(n:Nat):jA (newest k (dsN n))=0/\uc (newest k (dsN n))=0:=by
 cases h:newest k (dsN n) with
 | none => exact ⟨rfl, rfl⟩
 | some p =>
  obtain⟨s,a⟩:=p;obtain⟨_,h1⟩:=tO h;have h2:=rH h1;unfold fz at h2;rw[reads_zero,xT] at h2;subst h2;have hz:(kD (List.replicate 896 0)).commit=0/\(kD (List.replicate 896 0)).epoch=0:=by decide +kernel
  exact hz
theorem HL(k:List UInt8)(n:Nat):fe k (dsN n)=1:=by
 have h:=og (k:=k) (Bo n) (by omega) (by rw[(oe k n).1];decide);apply UInt64.toNat_inj.1;show _=1;omega
theorem yt(k:List UInt8)(n i:Nat)(hi:i<=1):eJ k (dsN n) i=⟨0,[],ko,ko,UInt64.ofNat (i+1),1⟩:=by
 unfold eJ;rw[HL,(oe k n).2];rcases(by omega:i=0∨i=1) with rfl|rfl <;> rfl
theorem Fx(k:List UInt8)(ds:DSt):fK k ds 1=(fK k ds 0+1) % 2:=by
 have:=sT k ds
 unfold fK;omega
def pgZ(a:Nat):Pg:=⟨⟨0,[],ko,ko⟩,⟨0,[],ko,ko,2,1⟩,a,0,λ_=>none,false⟩
theorem Ba(key:List UInt8)(n:Nat)(hn:4<=n/\n<=400)(V:UInt32->List UInt8) :
  (∀j,j<=2->(gw key (dsN (32+8*n)) j).2=0)/\(⟨(eJ key (dsN (32+8*n)) 1).st,eJ key (dsN (32+8*n)) 1,fK key (dsN (32+8*n)) 1,0,λ_=>none,false⟩:Pg)=pgZ (fK key (dsN (32+8*n)) 1) /\
  POK n 1 key (gw key (dsN (32+8*n)) 2).1 (pgZ (fK key (dsN (32+8*n)) 1)) V/\SupAt key (gw key (dsN (32+8*n)) 2).1 (fK key (dsN (32+8*n)) 1) ⟨0,[],ko,ko,2,1⟩/\(gw key (dsN (32+8*n)) 2).1.pend=[]:=by
 generalize hds:dsN (32+8*n)=ds
 have hz0:=yt key (32+8*n) 0 (by omega);have hz1:=yt key (32+8*n) 1 (by omega);have hnm:=Bo (32+8*n);have hf:=Bp (32+8*n) (by omega);have hl:ds.kept.length=32+8*n:=by rw[<-hds];exact cN
 have hoff:ds.offAt=0:=by rw[<-hds];rfl
 have hst:ds.steps=0:=by rw[<-hds];rfl
 have hnz:=oe key (32+8*n);have hpar:∀(a:Nat) (s':Sup),dT key (iP (fz ds a))=some s'->s'.commit<1:=by
  intro a s' h;have h2:=rH h;rw[<-hds] at h2;unfold fz at h2;rw[reads_zero,xT] at h2;subst h2;decide +kernel
 rw[hds] at hz0 hz1 hnm hf hnz;have ha0:=rW key ds 0;have ha1:=Fx key ds;have ok0:(eJ key ds 0).Ok:=by rw[hz0];exact⟨eh _,λ_ h=>Bool.noConfusion h,λ_ h=>Bool.noConfusion h⟩
 have ok1:(eJ key ds 1).Ok:=by rw[hz1];exact⟨eh _,λ_ h=>Bool.noConfusion h,λ_ h=>Bool.noConfusion h⟩
 have c0:(eJ key ds 0).commit.toNat=1:=by rw[hz0];rfl
 have c1:(eJ key ds 1).commit.toNat=2:=by rw[hz1];rfl
 obtain⟨r0,hL0⟩:=mC (k:=key) (a:=fK key ds 0) (s:=eJ key ds 0) hoff ha0 (by omega) ok0.txt;have b0:=jf key ds (fK key ds 0) (eJ key ds 0) hf ok0.txt (by omega);have hS0:=hL0.sup ha0 (by omega) ok0 hnm (by omega) (by omega) (λs' h=>by
  have:=hpar _ s' h
  rw[mL] at this ⊢;have e:(1:UInt64).toNat=1:=rfl
  omega)
 have hd1:gw key ds 1=cU key ds (fK key ds 0) (eJ key ds 0):=rfl;obtain⟨r1,hL1⟩:=mC (k:=key) (ds:=(gw key ds 1).1) (a:=fK key ds 1) (s:=eJ key ds 1) (by rw[hd1,hL0.offAt];exact hoff) (by omega) (by rw[hd1,hL0.len];omega) ok1.txt;have b1:=jf key (gw key ds 1).1 (fK key ds 1) (eJ key ds 1) (by rw[hd1];exact b0.1) ok1.txt (by rw[hd1];omega);have hd2:gw key ds 2=cU key (gw key ds 1).1 (fK key ds 1) (eJ key ds 1):=rfl;have hS1:SupAt key (gw key ds 2).1 (fK key ds 1) (eJ key ds 1):=by
  rw[ha1] at hL1 ⊢;have h:=hS0.next (s':=eJ key ds 1) (ds':=(cU key (gw key ds 1).1 ((fK key ds 0+1) % 2) (eJ key ds 1)).1) hL1 (by rw[hL0.len];omega) ok1 (by omega) (by omega);rw[hd2,ha1];exact h
 refine⟨λj hj=>?_,?_,⟨?_,?_,?_,hn,?_,by omega,rfl,?_,λi h=>Bool.noConfusion h,λi h=>Bool.noConfusion h,λi h=>Bool.noConfusion h,λi h=>Bool.noConfusion h,λi h=>Bool.noConfusion h,λi h=>by rcases h with h|h <;> exact Bool.noConfusion h⟩,?_,?_⟩
 ·rcases(by omega:j=0∨j=1∨j=2) with rfl|rfl|rfl
  ·rfl
  ·rw[hd1];exact r0
  ·rw[hd2];exact r1
 ·rw[hz1];rfl
 ·rw[hd2,hL1.offAt,hd1,hL0.offAt];exact hoff
 ·rw[hd2];exact b1.1
 ·rw[hd2,hL1.len,hd1,hL0.len];exact hl
 ·rw[hd2];rw[hd1] at b1 ⊢;omega
 ·show fK key ds 1<=1;omega
 ·rw[hz1] at hS1;exact hS1
 ·rw[hd2];exact hL1.pend
theorem Ho{n k:Nat}{key:List UInt8}{ds:DSt}{a:Nat}{s:Sup}{V:UInt32->List UInt8}(hS:SupAt key ds a s)(hoff:ds.offAt=0)(hf:ds.Fine)(hl:ds.kept.length=32+8*n)(hn:4<=n/\n<=400)(hst:ds.steps<=100*k)(hk:k+1<=1000000)(hc:s.commit.toNat<50000)
  (hu:∀i,s.used i=true->i.toNat<n) (hw:∀i,s.written i=true->s.used i=true) (hp:∀i,s.written i=true->∃g,Stands ds (bm key bB 0) i.toNat g (V i)) :
  (cU key ds ((a+1) % 2) (opS key ds s)).2=0 /\
  (∀f:UInt32->Option UInt64,(∀i,s.written i=true->f i=some (A0 (cU key ds ((a+1) % 2) (opS key ds s)).1 i))->POK n (k+1) key (cU key ds ((a+1) % 2) (opS key ds s)).1 ⟨s.st,opS key ds s,(a+1) % 2,0,f,false⟩ V) /\
  SupAt key (cU key ds ((a+1) % 2) (opS key ds s)).1 ((a+1) % 2) (opS key ds s)/\Laid key ds (cU key ds ((a+1) % 2) (opS key ds s)).1 ((a+1) % 2) (opS key ds s)/\(opS key ds s).commit.toNat=s.commit.toNat+1:=by
 have ha:=hS.a_;have hok:=hS.ok;have hok2:(opS key ds s).Ok:=⟨hok.txt,hok.used,hok.written⟩
 have hnx:=og (k:=key) hS.nums (by omega) (by rw[hS.newest];exact aM _);have hcm:jA (newest key ds)=s.commit:=by rw[hS.newest];rfl
 rw[hcm] at hnx;have hc2:(opS key ds s).commit.toNat=s.commit.toNat+1:=by show(fe key ds).toNat=_;omega
 obtain⟨r0,hL⟩:=mC (k:=key) (a:=(a+1) % 2) (s:=opS key ds s) hoff (by omega) (by omega) hok2.txt;have hb:=jf key ds ((a+1) % 2) (opS key ds s) hf hok2.txt (by omega);have hsn:=mY hok2.txt;have hS2:=hS.next hL (by omega) hok2 (by omega) (by omega);refine⟨r0,λf hff=>⟨by rw[hL.offAt];exact hoff,hb.1,by rw[hL.len];exact hl,hn,by omega,hk,rfl,by show(a+1) % 2<=1;omega,hu,hu,hw,hw,λi hi=>.inr hi,λi hi=>?_⟩,hS2,hL,hc2⟩;have hi:s.written i=true:=by rcases hi with hi|hi <;> exact hi
 obtain⟨g,hg⟩:=hp i hi;have hin:=hu i (hw i hi);have hg2:Stands (cU key ds ((a+1) % 2) (opS key ds s)).1 (bm key bB 0) i.toNat g (V i):=hg.other λq hq=>by
  rw[hL.now _ (by omega) (by omega),if_neg (by omega)]
 refine⟨g,?_,hg2⟩;show f i=some g;rw[hff i hi];unfold A0;have e8:(cU key ds ((a+1) % 2) (opS key ds s)).1.reads (32+(i.toNat:Int)*8) 8=(cU key ds ((a+1) % 2) (opS key ds s)).1.reads (32+(i.toNat:Int)*8) 1++(cU key ds ((a+1) % 2) (opS key ds s)).1.reads (32+(i.toNat:Int)*8+(1:Nat)) 7:=oU _ _ 1 7;have h1:((cU key ds ((a+1) % 2) (opS key ds s)).1.reads (32+(i.toNat:Int)*8) 1).length=64:=DSt.reads_length _ _ _;rw[hg2.1] at e8;have e9:(gX (bm key bB 0) i.toNat g.toNat (V i)).take 8=((cU key ds ((a+1) % 2) (opS key ds s)).1.reads (32+(i.toNat:Int)*8) 1).take 8:=by rw[e8,lE (by omega)]
 rw[<-e9,sP]
theorem mget_no{κ ν:Type}[DecidableEq κ]{k:κ}{m:List (κ×ν)}(h:cB k m=none):k∉m.map (·.1):=by
 induction m with
 | nil => simp
 | cons p m ih =>
  obtain⟨x,u⟩:=p;simp only[cB] at h;by_cases hx:k=x
  ·rw[if_pos hx] at h;cases h
  ·rw[if_neg hx] at h;simp only[eV,bZ,not_or];exact⟨hx,ih h⟩
theorem sg(m:List (Int×Sec))(j:Nat):∀(is:List Int) (ch:List UInt8) (k:List Sec),(∀i∈is,i.toNat≠j)->(j7 m is ch k).getD j sec0=k.getD j sec0
 | [], _, _, _ => rfl
 | i :: is, ch, k, h => by
  rw[j7,sg m j is _ _ (λx hx=>h x (by simp[hx]))];have hi:=h i (by simp);rw[eI,List.getElem?_set_ne hi,<-eI]
theorem yE{ds:DSt}(hf:ds.Fine)(ch:List UInt8){j:Int}(hj:0<=j)(hp:cB j ds.pend=none):(ds.crash ch).now j=ds.now j:=by
 have hno:=mget_no hp;unfold DSt.now;rw[hp];show((none:Option Sec).getD ((j7 ds.pend (mh (ds.pend.map (·.1))) ch ds.kept).getD j.toNat sec0))=_;rw[Option.getD_none,Option.getD_none];refine sg _ _ _ _ _ (λi hi hh=>hno ?_);unfold mh at hi;rw[List.mem_mergeSort] at hi;obtain⟨p,hp1,hp2⟩:=List.mem_map.1 hi
 have:=hf.keys p hp1
 rw[show j=i by omega];exact hi
theorem Db{ds:DSt}(hf:ds.Fine)(ch:List UInt8):(ds.crash ch).Fine:=⟨hf.steps,eh _,λp hp=>by simp[DSt.crash] at hp,by show(j7 _ _ _ _).length<=4000;rw[pP];exact hf.size⟩
theorem FH(ds:DSt)(ch:List UInt8):(ds.crash ch).kept.length=ds.kept.length:=pP _ _ _ _
structure PInv(n k:Nat)(key:List UInt8)(ds:DSt)(P:Pg)(V:UInt32->List UInt8):Prop where
 ok:POK n k key ds P V
 sup:k<=40000->SupAt key ds P.at_ P.kept
 com:k<=40000->P.kept.commit.toNat<=k+1
 few:k<=1000000
 dur0:∀j:Int,0<=j->j<32->cB j ds.pend=none
 dur1:∀i,P.kept.written i=true->∀q:Nat,q<8->cB (32+(i.toNat:Int)*8+q) ds.pend=none
structure PCra(n k:Nat)(key:List UInt8)(ds:DSt)(a:Nat)(s:Sup)(V:UInt32->List UInt8):Prop where
 off:ds.offAt=0
 fine:ds.Fine
 pend:ds.pend=[]
 len:ds.kept.length=32+8*n
 size:4<=n/\n<=400
 steps:ds.steps<=100*k
 few:k<=40000
 sup:SupAt key ds a s
 com:s.commit.toNat<=k+1
 used:∀i,s.used i=true->i.toNat<n
 written:∀i,s.written i=true->s.used i=true
 pages:∀i,s.written i=true->∃g,Stands ds (bm key bB 0) i.toNat g (V i)
section
variable {n k:Nat}{key:List UInt8}{ds:DSt}{P:Pg}{V:UInt32->List UInt8}
theorem PInv.alloc(h:PInv n k key ds P V)(i:UInt32)(hi:i.toNat<n):PInv n k key ds { P with now:={ P.now with used:=eX P.now.used i } } V :=
 ⟨h.ok.alloc i hi,h.sup,h.com,h.few,h.dur0,h.dur1⟩
theorem PInv.free(h:PInv n k key ds P V)(i:UInt32):PInv n k key ds { P with now:={ P.now with used:=eS P.now.used i,written:=eS P.now.written i } } V :=
 ⟨h.ok.free i,h.sup,h.com,h.few,h.dur0,h.dur1⟩
theorem PInv.undo(h:PInv n k key ds P V):PInv n k key ds { P with now:=P.kept.st } V:=⟨h.ok.undo,h.sup,h.com,h.few,h.dur0,h.dur1⟩
theorem PInv.write(h:PInv n k key ds P V)(hk:k+1<=40000)(i:UInt32)(hi:P.fresh i=true)(l:List UInt8)(hl:l.length<=480) :
  (ds.writes (32+(i.toNat:Int)*8) (gX (bm key bB 0) i.toNat P.gen.toNat l)).2=0 /\
  PInv n (k+1) key (ds.writes (32+(i.toNat:Int)*8) (gX (bm key bB 0) i.toNat P.gen.toNat l)).1 { P with count:=P.count+1,now:={ P.now with written:=eX P.now.written i },gens:=sJ P.gens i P.gen } (xg V i l):=by
 obtain⟨h0,h1⟩:=h.ok.write (by omega) i hi l hl;have hlen:=h.ok.len;obtain⟨hu,hku⟩:=fresh_iff.1 hi;have hin:=h.ok.used i hu;have hpl:=na (bm key bB 0) i.toNat P.gen.toNat l hl;obtain⟨_,hp⟩:=xP 8 ds (32+(i.toNat:Int)*8) (gX (bm key bB 0) i.toNat P.gen.toNat l) h.ok.off hpl (by omega) (by omega);refine⟨h0,h1,λ_=>(h.sup (by omega)).congr λj hj0 hj1=>by rw[hp.now,if_neg (by omega)],λ_=>by have:=h.com (by omega);show P.kept.commit.toNat<=_;omega,by omega,λj hj0 hj1=>by rw[hp.pend,if_neg (by omega)];exact h.dur0 j hj0 hj1,λj hj q hq=>?_⟩;have hj:P.kept.written j=true:=hj;have hjn:j.toNat≠i.toNat:=λhh=>by
  have:=h.ok.kwritten j hj
  rw[UInt32.toNat_inj.1 hh,hku] at this;cases this
 rw[hp.pend,if_neg (by omega)];exact h.dur1 j hj q hq
theorem HV{s:UInt64}(h:s.toNat<=50000):(s+1).toNat=s.toNat+1:=by
 rw[oE];exact fp (by show s.toNat+1<_;omega)
theorem PInv.commit(h:PInv n k key ds P V)(hk:k+1<=40000)(root:UInt32)(txt:List UInt8)(ht:txt.length<=200) :
  ds.flush.2=0/\(cU key ds.flush.1 ((P.at_+1) % 2) (eo P root txt)).2=0 /\
  PInv n (k+1) key (cU key ds.flush.1 ((P.at_+1) % 2) (eo P root txt)).1 { P with now:=(eo P root txt).st,kept:=eo P root txt,at_:=(P.at_+1) % 2 } V /\
  Laid key ds.flush.1 (cU key ds.flush.1 ((P.at_+1) % 2) (eo P root txt)).1 ((P.at_+1) % 2) (eo P root txt)/\SupAt key ds.flush.1 P.at_ P.kept:=by
 obtain⟨h0,h1,h2,hL⟩:=h.ok.commit (by omega) root txt ht;have hlen:=h.ok.len;have hfl:=DSt.flush_len ds;have hsz:=h.ok.size;have hcom:=h.com (by omega);have hfew:=h.few;have hS1:SupAt key ds.flush.1 P.at_ P.kept:=(h.sup (by omega)).congr λj hj0 hj1=>td h0 hj0 (by omega);have hcn:(eo P root txt).commit.toNat=P.kept.commit.toNat+1:=HV (by omega);have hok:(eo P root txt).Ok:=⟨ht,λi hi=>by have:=h.ok.used i hi;omega,λi hi=>by have:=h.ok.used i (h.ok.written i hi);omega⟩
 have hS2:=hS1.next hL (by omega) hok (by omega) (by omega);refine⟨h0,h1,⟨h2,λ_=>hS2,λ_=>by show(eo P root txt).commit.toNat<=_;omega,by omega,λj _ _=>by rw[hL.pend];rfl,λi _ q _=>by rw[hL.pend];rfl⟩,hL,hS1⟩
theorem PInv.crash(h:PInv n k key ds P V)(hk:k<=40000)(ch:List UInt8):PCra n k key (ds.crash ch) P.at_ P.kept V:=by
 have hf:=h.ok.fine;refine⟨rfl,Db hf ch,rfl,by rw[FH];exact h.ok.len,h.ok.size,h.ok.steps,hk,(h.sup hk).congr λj hj0 hj1=>yE hf ch hj0 (h.dur0 j hj0 hj1),h.com hk,h.ok.kused,h.ok.kwritten,λi hi=>?_⟩;obtain⟨g,_,hg⟩:=h.ok.pages i (.inr hi);exact⟨g,hg.other λq hq=>yE hf ch (by omega) (h.dur1 i hi q hq)⟩
theorem PCra.open{a:Nat}{s:Sup}(h:PCra n k key ds a s V)(hk:k+1<=40000) :
  newest key ds=some (s,a)/\(cU key ds ((a+1) % 2) (opS key ds s)).2=0 /\
  (∀f:UInt32->Option UInt64,(∀i,s.written i=true->f i=some (A0 (cU key ds ((a+1) % 2) (opS key ds s)).1 i))->PInv n (k+1) key (cU key ds ((a+1) % 2) (opS key ds s)).1 ⟨s.st,opS key ds s,(a+1) % 2,0,f,false⟩ V) /\
  Laid key ds (cU key ds ((a+1) % 2) (opS key ds s)).1 ((a+1) % 2) (opS key ds s)/\(opS key ds s).commit.toNat=s.commit.toNat+1:=by
 have hc:=h.com;have hfew:=h.few;obtain⟨h0,h1,h2,h3,h4⟩:=Ho h.sup h.off h.fine h.len h.size h.steps (by omega) (by omega) h.used h.written h.pages;exact⟨h.sup.newest,h0,λf hf=>⟨h1 f hf,λ_=>h2,λ_=>by show(opS key ds s).commit.toNat<=_;omega,by omega,λj _ _=>by rw[h3.pend];rfl,λi _ q _=>by rw[h3.pend];rfl⟩,h3,h4⟩
end
theorem PInv.zero(key:List UInt8)(n:Nat)(hn:4<=n/\n<=400)(V:UInt32->List UInt8) :
  (∀j,j<=2->(gw key (dsN (32+8*n)) j).2=0)/\(⟨(eJ key (dsN (32+8*n)) 1).st,eJ key (dsN (32+8*n)) 1,fK key (dsN (32+8*n)) 1,0,λ_=>none,false⟩:Pg)=pgZ (fK key (dsN (32+8*n)) 1) /\
  PInv n 1 key (gw key (dsN (32+8*n)) 2).1 (pgZ (fK key (dsN (32+8*n)) 1)) V:=by
 obtain⟨h1,h2,h3,h4,h5⟩:=Ba key n hn V;exact⟨h1,h2,h3,λ_=>h4,λ_=>aM 2,by omega,λj _ _=>by rw[h5];rfl,λi hi=>Bool.noConfusion hi⟩
def pgY(c:UInt64)(e:UInt32)(a:Nat):Pg:=⟨⟨0,[],ko,ko⟩,⟨0,[],ko,ko,c,e⟩,a,0,λ_=>none,false⟩
theorem D2{n k:Nat}{key:List UInt8}{ds:DSt}{a:Nat}{s:Sup}{V:UInt32->List UInt8}(h:PCra n k key ds a s V)(hk:k+2<=40000)(V':UInt32->List UInt8) :
  (∀j,j<=2->(gw key ds j).2=0)/\PInv n (k+2) key (gw key ds 2).1 (pgY (eJ key ds 1).commit (eJ key ds 1).epoch (fK key ds 1)) V'/\(gw key ds 2).1.pend=[]:=by
 have hnew:=h.sup.newest;have hlen:=h.len;have hcom:=h.com;have hst:=h.steps;have ha0:fK key ds 0=(a+1) % 2:=by
  unfold fK;rw[hnew];show(((a:Int)+1+(0:Nat)) % 2).toNat=_;omega
 have ha1:fK key ds 1=((a+1) % 2+1) % 2:=by
  unfold fK;rw[hnew];show(((a:Int)+1+(1:Nat)) % 2).toNat=_;omega
 have hnx:=og (k:=key) h.sup.nums (by omega) (by rw[hnew];exact aM _);have hcm:jA (newest key ds)=s.commit:=by rw[hnew];rfl
 rw[hcm] at hnx;have c0:(eJ key ds 0).commit.toNat=s.commit.toNat+1:=by
  have e:(eJ key ds 0).commit=fe key ds:=UInt64.add_zero _;rw[e];omega
 have c1:(eJ key ds 1).commit.toNat=s.commit.toNat+2:=by
  show(fe key ds+1).toNat=_;rw[oE,fp (by show _+1<18446744073709551616;omega)];show _+1=_;omega
 have ok0:=A1 key ds 0;have ok1:=A1 key ds 1;obtain⟨r0,hL0⟩:=mC (k:=key) (a:=fK key ds 0) (s:=eJ key ds 0) h.off (rW _ _ _) (by omega) ok0.txt;have b0:=jf key ds (fK key ds 0) (eJ key ds 0) h.fine ok0.txt (by omega);have hd1:gw key ds 1=cU key ds (fK key ds 0) (eJ key ds 0):=rfl;have hS0:SupAt key (gw key ds 1).1 ((a+1) % 2) (eJ key ds 0):=by
  rw[hd1,<-ha0];rw[ha0] at hL0 ⊢;exact h.sup.next hL0 (by omega) ok0 (by omega) (by omega)
 obtain⟨r1,hL1⟩:=mC (k:=key) (ds:=(gw key ds 1).1) (a:=fK key ds 1) (s:=eJ key ds 1) (by rw[hd1,hL0.offAt];exact h.off) (rW _ _ _) (by rw[hd1,hL0.len];omega) ok1.txt;have b1:=jf key (gw key ds 1).1 (fK key ds 1) (eJ key ds 1) (by rw[hd1];exact b0.1) ok1.txt (by rw[hd1];omega);have hd2:gw key ds 2=cU key (gw key ds 1).1 (fK key ds 1) (eJ key ds 1):=rfl;have hS1:SupAt key (gw key ds 2).1 (fK key ds 1) (eJ key ds 1):=by
  rw[hd2];rw[ha1] at hL1 ⊢;exact hS0.next hL1 (by rw[hd1,hL0.len];omega) ok1 (by omega) (by omega)
 refine⟨λj hj=>?_,⟨⟨?_,?_,?_,h.size,?_,by omega,rfl,rW _ _ _,λi h=>Bool.noConfusion h,λi h=>Bool.noConfusion h,λi h=>Bool.noConfusion h,λi h=>Bool.noConfusion h,λi h=>Bool.noConfusion h,λi h=>by rcases h with h|h <;> exact Bool.noConfusion h⟩,λ_=>hS1,λ_=>?_,by omega,λj _ _=>?_,λi hi=>Bool.noConfusion hi⟩,?_⟩
 ·rcases(by omega:j=0∨j=1∨j=2) with rfl|rfl|rfl
  ·rfl
  ·rw[hd1];exact r0
  ·rw[hd2];exact r1
 ·rw[hd2,hL1.offAt,hd1,hL0.offAt];exact h.off
 ·rw[hd2];exact b1.1
 ·rw[hd2,hL1.len,hd1,hL0.len];exact hlen
 ·rw[hd2];rw[hd1] at b1 ⊢;omega
 ·show(eJ key ds 1).commit.toNat<=_;omega
 ·rw[hd2,hL1.pend];rfl
 ·rw[hd2];exact hL1.pend
theorem PInv.away{n k:Nat}{key:List UInt8}{ds ds':DSt}{P:Pg}{V:UInt32->List UInt8}(h:PInv n k key ds P V)(hoff:ds'.offAt=0)(hf:ds'.Fine)(hl:ds'.kept.length=ds.kept.length)(hst:ds'.steps<=5000000)(hp:ds'.pend=[])(hn:∀j:Int,32<=j->j<32+8*n->ds'.now j=ds.now j):PInv n 50000 key ds' P V:=by
 have ok:=h.ok;refine⟨⟨hoff,hf,by rw[hl];exact ok.len,ok.size,by omega,by omega,ok.broken,ok.at_,ok.used,ok.kused,ok.written,ok.kwritten,ok.wok,λi hi=>?_⟩,λq=>by omega,λq=>by omega,by omega,λj _ _=>by rw[hp];rfl,λi _ q _=>by rw[hp];rfl⟩;obtain⟨g,h1,h2⟩:=ok.pages i hi;have hin:i.toNat<n:=by
  rcases hi with hi|hi
  ·exact ok.used i (ok.written i hi)
  ·exact ok.kused i (ok.kwritten i hi)
 exact⟨g,h1,h2.other λq hq=>hn _ (by omega) (by omega)⟩
abbrev Bs:=List UInt8
abbrev ltB:Bs->Bs->Bool:=Op.bytesLess
theorem uC(a:Bs):ltB a []=false:=by cases a <;> rfl
theorem rQ(a b:UInt8)(x y:Bs):ltB (a::x) (b::y)=(decide (a<b)||(a==b&&ltB x y)):=rfl
theorem iq:∀a:Bs,ltB a a=false
 | [] => rfl
 | a :: x => by rw [rQ, iq x, decide_eq_false (uj a), Bool.and_false]; rfl
theorem ff:∀{a b c:Bs},ltB a b=true->ltB b c=true->ltB a c=true
 | _, _, [], _, h => by rw [uC] at h; cases h
 | _, [], _ :: _, h, _ => by rw [uC] at h; cases h
 | [], _ :: _, _ :: _, _, _ => rfl
 | a :: x, b :: y, c :: z, h1, h2 => by
  rw[rQ] at h1 h2 ⊢;simp only[mR,decide_eq_true_eq,j9,beq_iff_eq] at h1 h2 ⊢;rcases h1 with h1|⟨rfl,h1⟩
  ·rcases h2 with h2|⟨rfl,h2⟩
   ·exact .inl (UInt8.lt_trans h1 h2)
   ·exact .inl h1
  ·rcases h2 with h2|⟨rfl,h2⟩
   ·exact .inl h2
   ·exact .inr ⟨rfl,ff h1 h2⟩
theorem rP:∀{a b:Bs},ltB a b=false->ltB b a=false->a=b
 | [], [], _, _ => rfl
 | [], _ :: _, h, _ => by cases h
 | _ :: _, [], _, h => by cases h
 | a :: x, b :: y, h1, h2 => by
  rw[rQ] at h1 h2;simp only[Bool.or_eq_false_iff,decide_eq_false_iff_not,Bool.and_eq_false_iff,beq_eq_false_iff_ne] at h1 h2;have hab:a=b:=UInt8.le_antisymm (UInt8.not_lt.1 h2.1) (UInt8.not_lt.1 h1.1);subst hab;rw[rP (h1.2.resolve_left (λh=>h O)) (h2.2.resolve_left (λh=>h O))]
theorem jd{a b:Bs}(h:ltB a b=true):ltB b a=false:=by
 cases hb:ltB b a with
 | false => rfl
 | true => have := ff h hb; rw [iq] at this; cases this
theorem qo{a b:Bs}(h:ltB a b=true):a≠b:=λe=>by subst e;rw[iq] at h;cases h
theorem CQ{a b c:Bs}(h1:ltB a b=true)(h2:ltB c b=false):ltB a c=true:=by
 cases h3:ltB b c with
 | true => exact ff h1 h3
 | false => rw [<- rP h3 h2]; exact h1
theorem qq{a b c:Bs}(h1:ltB b a=false)(h2:ltB b c=true):ltB a c=true:=by
 cases h3:ltB a b with
 | true => exact ff h3 h2
 | false => rw [rP h3 h1]; exact h2
abbrev Pr:=Bs×Bs
def kE(l:List Bs):Prop:=l.Pairwise λa b=>ltB a b=true
def ec(l:List Pr):Prop:=l.Pairwise λp q=>ltB p.1 q.1=true
theorem sortP_keys{l:List Pr}:ec l↔kE (l.map (·.1)):=by unfold ec kE;rw[ur]
theorem ET{α:Type}{f:α->Bs}{l:List α}{x:α}(h:l.Pairwise λa b=>ltB (f a) (f b)=true)(hx:∀hp:l.length-1<l.length,ltB (f (l[l.length-1]'hp)) (f x)=true):(l++[x]).Pairwise λa b=>ltB (f a) (f b)=true:=by
 rw[oL];refine⟨h,zh _ _,λa ha b hb=>?_⟩;rw[gh] at hb;subst hb;obtain⟨i,hi,rfl⟩:=jD ha;have h2:=hx (by omega);by_cases hl:i=l.length-1
 ·subst hl;exact h2
 ·exact ff (List.pairwise_iff_getElem.1 h i (l.length-1) hi (by omega) (by omega)) h2
def gy(l:List Bs)(x:Bs):Nat:=(l.takeWhile λy=>ltB y x).length
theorem sk(l:List Bs)(x:Bs):gy l x<=l.length:=by
 unfold gy;exact(List.takeWhile_sublist _).length_le
theorem A6{l:List Bs}{x:Bs}:∀{i:Nat} (hi:i<gy l x),ltB (l[i]'(iz hi (sk l x))) x=true:=by
 induction l with
 | nil => intro i hi; exact absurd hi (by simp [gy])
 | cons a l ih =>
  intro i hi;unfold gy at hi;rw[List.takeWhile_cons] at hi
  split at hi
  ·rename_i h
   cases i with
   | zero => exact h
   | succ i => exact ih (i := i) (by simpa [gy] using hi)
  ·simp at hi
theorem tk{l:List Bs}{x:Bs}(h:gy l x<l.length):ltB (l[gy l x]'h) x=false:=by
 induction l with
 | nil => simp at h
 | cons a l ih =>
  by_cases ha:ltB a x=true
  ·have e:gy (a::l) x=gy l x+1:=by unfold gy;rw[List.takeWhile_cons,if_pos ha];rfl
   have h':gy l x<l.length:=by rw[e,cg] at h;omega
   have:=ih h'
   have q:(a::l)[gy (a::l) x]'h=l[gy l x]'h':=by
    have:(a::l)[gy (a::l) x]?=l[gy l x]?:=by rw[e];rfl
    rw[bM h,bM h'] at this;exact qK this
   rw[q];exact this
  ·have e:gy (a::l) x=0:=by unfold gy;rw[List.takeWhile_cons,if_neg ha];rfl
   have q:(a::l)[gy (a::l) x]'h=a:=by
    have:(a::l)[gy (a::l) x]?=some a:=by rw[e];rfl
    rw[bM h] at this;exact qK this
   rw[q];simpa using ha
theorem Ep{l:List Bs}{x:Bs}(hs:kE l){i:Nat}(hi:i<l.length)(hc:gy l x<=i):ltB l[i] x=false:=by
 have hcl:gy l x<l.length:=by omega
 have h0:=tk hcl;by_cases he:gy l x=i
 ·have q:l[i]=l[gy l x]:=by simp only[he]
  rw[q];exact h0
 ·have:=List.pairwise_iff_getElem.1 hs (gy l x) i hcl hi (by omega)
  cases h:ltB l[i] x with
  | false => rfl
  | true => rw [ff this h] at h0; cases h0
theorem Er{l:List Bs}{x:Bs}{n:Nat}(hn:n<=l.length)(h1:∀i (h:i<l.length),i<n->ltB l[i] x=true)(h2:∀h:n<l.length,ltB l[n] x=false):gy l x=n:=by
 rcases Nat.lt_trichotomy (gy l x) n with h|h|h
 ·have hl:gy l x<l.length:=by omega
  have:=tk hl
  rw[h1 _ hl h] at this;cases this
 ·exact h
 ·have hl:n<l.length:=by have:=sk l x;omega
  have:=A6 h
  rw[h2 hl] at this;cases this
def yo(l:List Pr):List Bs:=l.map (·.1)
def lW(l:List Pr)(k:Bs):Option Bs:=(l.find? λp=>p.1==k).map (·.2)
def g0(l:List Pr)(p:Pr):List Pr:=l.filter (λq=>ltB q.1 p.1)++p::l.filter λq=>ltB p.1 q.1
def kz(l:List Pr)(k:Bs):List Pr:=l.filter λq => !(q.1==k)
theorem zy{l:List Pr}(f:Pr->Bool)(h:ec l):ec (l.filter f):=h.sublist List.filter_sublist
theorem yC{l:List Pr}(k:Bs)(h:ec l):ec (kz l k):=zy _ h
def txt(s:Bs):Bs:=be 2 s.length++s
theorem ig(s:Bs):(txt s).length=s.length+2:=by unfold txt;rw[aF,aP];omega
def prB(p:Pr):Bs:=txt p.1++txt p.2
theorem Cy(p:Pr):(prB p).length=p.1.length+p.2.length+4:=by unfold prB;rw[aF,ig,ig];omega
def rS(l:List Pr):Bs:=(1:UInt8)::(be 2 l.length++l.flatMap prB)
def kP(ids:List UInt32):Bs:=ids.flatMap λi=>be 4 i.toNat
def brB(ks:List Bs)(ids:List UInt32):Bs:=(2:UInt8)::(be 2 ks.length++(ks.flatMap txt++kP ids))
def cT(l:List Pr):Nat:=3+(l.map λp=>p.1.length+p.2.length+4).sum
def dj(ks:List Bs):Nat:=(ks.map λk=>k.length+2).sum
def brZ(ks:List Bs)(ids:List UInt32):Nat:=3+4*ids.length+dj ks
theorem jh{α:Type}(f:α->Bs)(g:α->Nat)(h:∀a,(f a).length=g a):∀l:List α,(l.flatMap f).length=(l.map g).sum
 | [] => rfl
 | a :: l => by rw [pT, aF, jh f g h l, h, eV, List.sum_cons]
theorem ni(l:List Pr):(rS l).length=cT l:=by
 unfold rS cT;rw[cg,aF,aP,jh prB _ Cy];omega
theorem fx(ids:List UInt32):(kP ids).length=4*ids.length:=by
 unfold kP;rw[jh _ (λ_=>4) (λa=>aP _ _),List.map_const',List.sum_replicate_nat];omega
theorem wQ(ks:List Bs)(ids:List UInt32):(brB ks ids).length=brZ ks ids:=by
 unfold brB brZ dj;rw[cg,aF,aF,aP,jh txt _ ig,fx];omega
theorem eC(l m:List Pr):cT (l++m)+3=cT l+cT m:=by
 unfold cT;rw[gi,List.sum_append_nat];omega
theorem iF(p:Pr):cT [p]=p.1.length+p.2.length+7:=by simp[cT];omega
theorem iG(l m:List Bs):dj (l++m)=dj l+dj m:=by
 unfold dj;rw[gi,List.sum_append_nat]
theorem jK(a:Bs)(l:List Bs):dj (a::l)=a.length+2+dj l:=by simp[dj]
theorem mB:∀l:List Pr,3+4*l.length<=cT l
 | [] => aM _
 | p :: l => by
  have h1:=mB l;have h3:=eC [p] l;rw[iF,gV] at h3;rw[cg];omega
abbrev mD(k:Bs):Prop:=1<=k.length/\k.length<=60
abbrev oc(p:Pr):Prop:=mD p.1/\p.2.length<=150
def fU(l:List Pr):Prop:=(∀p∈l,oc p)/\ec l
def zW(l:List Bs):Prop:=(∀k∈l,mD k)/\kE l
def leafOk(l:List Pr):Prop:=fU l/\cT l<=480
def brOk(ks:List Bs)(ids:List UInt32):Prop:=ks≠[]/\ids.length=ks.length+1/\zW ks/\brZ ks ids<=480
theorem rR:∀l:List Pr,(∀p∈l,oc p)->cT l<=3+214*l.length/\3+5*l.length<=cT l
 | [], _ => by simp [cT]
 | p :: l, h => by
  have h1:=rR l (λq hq=>h q (bN _ hq));have h2:=h p cM;have h3:=eC [p] l;rw[iF] at h3;rw[gV] at h3;rw[cg];omega
theorem wv:∀l:List Bs,(∀k∈l,mD k)->dj l<=62*l.length/\3*l.length<=dj l
 | [], _ => by simp [dj]
 | p :: l, h => by
  have h1:=wv l (λq hq=>h q (bN _ hq));have h2:=h p cM;rw[jK,cg];omega
theorem leafOk.few{l:List Pr}(h:leafOk l):l.length<=95:=by
 have h1:=(rR l h.1.1).2;have h2:=h.2;omega
theorem brOk.few{ks:List Bs}{ids:List UInt32}(h:brOk ks ids):ks.length<=67/\ids.length<=68:=by
 obtain⟨_,h2,⟨h3,_⟩,h4⟩:=h;have h5:=(wv ks h3).2;unfold brZ at h4;omega
theorem Eu{n:Nat}(hn:n<65536)(z:Bs):dB ((be 2 n++z).take 2)=n:=by
 rw[cP (aP _ _),gF];omega
theorem GJ{s:Bs}(hs:s.length<65536)(z:Bs):dB ((txt s++z).take 2)=s.length:=by
 unfold txt;rw[bP];exact Eu hs _
theorem GH(s z:Bs):((txt s++z).drop 2).take s.length=s:=by
 unfold txt;rw[bP,ej (aP _ _),cP rfl]
theorem GI(s z:Bs):(txt s++z).drop (2+s.length)=z:=by
 rw[ej (by rw[ig];omega)]
theorem F8(x:UInt32):fR x=be 4 x.toNat:=by
 have hx:=x.toNat_lt;have h:∀s,s<32->(jo x s).toUInt8=UInt8.ofNat (x.toNat >>> s):=λs hs=>by
  apply UInt8.toNat_inj.1;unfold jo;have h1:x.toNat >>> s<=x.toNat:=Nat.shiftRight_le _ _;rw[UInt32.toNat_toUInt8,fL,iX,fp (a:=x.toNat >>> s) (by omega)]
 have h0:x.toUInt8=UInt8.ofNat (x.toNat >>> 0):=by
  apply UInt8.toNat_inj.1;rw[UInt32.toNat_toUInt8,iX];rfl
 unfold fR;rw[h 24 (by decide),h 16 (by decide),h 8 (by decide),h0];rfl
theorem id_head(i:UInt32)(z:Bs):UInt32.ofNat (dB ((be 4 i.toNat++z).take 4))=i:=by
 have hi:=i.toNat_lt;rw[cP (aP _ _),gF];apply UInt32.toNat_inj.1;rw[fL];omega
theorem id_rest(i:UInt32)(z:Bs):(be 4 i.toNat++z).drop 4=z:=ej (aP _ _)
theorem ti{α:Type}(f:α->Bs){l:List α}{i:Nat}(h:i<l.length):(l.drop i).flatMap f=f l[i]++(l.drop (i+1)).flatMap f:=by
 rw[jE h,pT]
abbrev Kd:=UInt32×List UInt32×List Pr
def bs(ts:List Kd):List UInt32:=ts.map (·.1)
def msT(ts:List Kd):List (List Pr):=ts.map (·.2.2)
def pgT(ts:List Kd):List UInt32:=ts.flatMap (·.2.1)
def prT(ts:List Kd):List Pr:=ts.flatMap (·.2.2)
theorem iw(a b:List Kd):bs (a++b)=bs a++bs b:=gi
theorem gG(a b:List Kd):msT (a++b)=msT a++msT b:=gi
theorem eO(a b:List Kd):pgT (a++b)=pgT a++pgT b:=nO
theorem g9(a b:List Kd):prT (a++b)=prT a++prT b:=nO
theorem eM(a:Kd)(b:List Kd):pgT (a::b)=a.2.1++pgT b:=pT
theorem fT(a:Kd)(b:List Kd):prT (a::b)=a.2.2++prT b:=pT
theorem ln(ts:List Kd):(msT ts).flatten=prT ts:=(List.flatMap_def ..).symm
def Below(m:List Pr)(k:Bs):Prop:=∀p∈m,ltB p.1 k=true
def Above(m:List Pr)(k:Bs):Prop:=∀p∈m,ltB p.1 k=false
theorem Below.app{a b:List Pr}{k:Bs}:Below (a++b) k↔Below a k/\Below b k:=by unfold Below;simp only[fX,or_imp,forall_and]
theorem Above.app{a b:List Pr}{k:Bs}:Above (a++b) k↔Above a k/\Above b k:=by unfold Above;simp only[fX,or_imp,forall_and]
def Seps:List Bs->List (List Pr)->Prop
 | [], [_] => True
 | k :: ks, m :: ms => Below m k /\ Above ms.flatten k /\ Seps ks ms
 | _, _ => False
theorem Seps.len:∀{ks:List Bs} {ms:List (List Pr)},Seps ks ms->ms.length=ks.length+1
 | [], [], h => h.elim
 | [], [_], _ => rfl
 | [], _ :: _ :: _, h => h.elim
 | _ :: _, [], h => h.elim
 | k :: ks, m :: ms, h => by rw [cg, cg, Seps.len h.2.2]
theorem Seps.one(m:List Pr):Seps [] [m]:=trivial
theorem Seps.sort:∀{ks:List Bs} {ms:List (List Pr)},Seps ks ms->(∀m∈ms,ec m)->ec ms.flatten
 | [], [m], _, h => by rw [hG, List.flatten_nil, cE]; exact h m cM
 | k :: ks, m :: ms, hs, h => by
  rw[hG];unfold ec;rw[oL];exact⟨h m cM,Seps.sort hs.2.2 (λx hx=>h x (bN _ hx)),λa ha b hb=>CQ (hs.1 a ha) (hs.2.1 b hb)⟩
theorem Seps.join{k:Bs}{K2:List Bs}{B:List (List Pr)}(hB:Seps K2 B)(h2:Above B.flatten k):∀{K1:List Bs} {A:List (List Pr)},Seps K1 A->Below A.flatten k->(∀x∈K1,ltB x k=true)->Seps (K1++k::K2) (A++B)
 | [], [m], _, h1, _ => ⟨by rw [hG, List.flatten_nil, cE] at h1; exact h1, h2, hB⟩
 | c :: K1, m :: A, hs, h1, h3 => by
  rw[hG,Below.app] at h1;refine⟨hs.1,?_,Seps.join hB h2 hs.2.2 h1.2 (λx hx=>h3 x (bN _ hx))⟩;show Above (A++B).flatten c;rw[lR,Above.app];refine⟨hs.2.1,λp hp=>?_⟩;have q1:=h3 c cM;have q2:=h2 p hp;cases h:ltB p.1 c with
  | false => rfl
  | true => rw [ff h q1] at q2; cases q2
theorem Seps.cut{k:Bs}{K2:List Bs}{B:List (List Pr)}:∀{K1:List Bs} {A:List (List Pr)},A.length=K1.length+1->kE (K1++k::K2)->Seps (K1++k::K2) (A++B)->Seps K1 A/\Seps K2 B/\Below A.flatten k/\Above B.flatten k
 | [], [m], _, _, h => ⟨trivial, h.2.2, by rw [hG, List.flatten_nil, cE]; exact h.1, h.2.1⟩
 | [], [], h, _, _ => by simp at h
 | [], _ :: _ :: _, h, _, _ => by simp at h
 | _ :: _, [], h, _, _ => by simp at h
 | c :: K1, m :: A, hl, hs, h => by
  have hs':kE (K1++k::K2):=(List.pairwise_cons.1 hs).2;have hck:ltB c k=true:=(List.pairwise_cons.1 hs).1 k (by simp);obtain⟨h1,h2,h3⟩:=h;obtain⟨q1,q2,q3,q4⟩:=Seps.cut (by simpa using hl) hs' h3;have h2':Above (A++B).flatten c:=h2;rw[lR,Above.app] at h2';exact⟨⟨h1,h2'.1,q1⟩,q2,by rw[hG,Below.app];exact⟨λp hp=>ff (h1 p hp) hck,q3⟩,q4⟩
theorem Seps.set{m m':List Pr}{K2:List Bs}{B:List (List Pr)}:∀{K1:List Bs} {A:List (List Pr)},A.length=K1.length->Seps (K1++K2) (A++m::B)->(∀k∈K1,Above m' k)->(∀k,K2.head?=some k->Below m' k)->Seps (K1++K2) (A++m'::B)
 | [], [], _, h, _, h2 => by
  cases K2 with
  | nil => cases B with
   | nil => trivial
   | cons => exact h.elim
  | cons k K2 => exact ⟨h2 k rfl, h.2⟩
 | [], _ :: _, h, _, _, _ => by simp at h
 | _ :: _, [], h, _, _, _ => by simp at h
 | c :: K1, a :: A, hl, h, h1, h2 => by
  obtain⟨q1,q2,q3⟩:=h;refine⟨q1,?_,Seps.set (by simpa using hl) q3 (λk hk=>h1 k (bN _ hk)) h2⟩;have q2':Above (A++m::B).flatten c:=q2;show Above (A++m'::B).flatten c;rw[lR,hG,Above.app,Above.app] at q2' ⊢;exact⟨q2'.1,h1 c cM,q2'.2.2⟩
theorem Seps.split{m1 m2:List Pr}{k:Bs}(hb:Below m1 k)(ha:Above m2 k){K2:List Bs}{B:List (List Pr)}(h3:Above B.flatten k):∀{K1:List Bs} {A:List (List Pr)},A.length=K1.length->Seps (K1++K2) (A++(m1++m2)::B)->Seps (K1++k::K2) (A++m1::m2::B)
 | [], [], _, h => by
  refine⟨hb,by show Above (m2::B).flatten k;rw[hG,Above.app];exact⟨ha,h3⟩,?_⟩;cases K2 with
  | nil => cases B with
   | nil => trivial
   | cons => exact h.elim
  | cons c K2 => exact ⟨(Below.app.1 h.1).2, h.2⟩
 | [], _ :: _, h, _ => by simp at h
 | _ :: _, [], h, _ => by simp at h
 | c :: K1, a :: A, hl, h => by
  obtain⟨q1,q2,q3⟩:=h;refine⟨q1,?_,Seps.split hb ha h3 (by simpa using hl) q3⟩;have q2':Above (A++(m1++m2)::B).flatten c:=q2;show Above (A++m1::m2::B).flatten c;simp only[lR,hG,Above.app] at q2' ⊢;exact⟨q2'.1,q2'.2.1.1,q2'.2.1.2,q2'.2.2⟩
theorem Seps.merge{m1 m2:List Pr}{k:Bs}{K2:List Bs}{B:List (List Pr)}:∀{K1:List Bs} {A:List (List Pr)},A.length=K1.length->kE (K1++k::K2)->Seps (K1++k::K2) (A++m1::m2::B)->Seps (K1++K2) (A++(m1++m2)::B)
 | [], [], _, hs, h => by
  obtain⟨q1,q2,q3⟩:=h;cases K2 with
  | nil => cases B with
   | nil => trivial
   | cons => exact q3.elim
  | cons c K2 =>
   have hkc:ltB k c=true:=(List.pairwise_cons.1 hs).1 c cM;exact⟨Below.app.2 ⟨λp hp=>ff (q1 p hp) hkc,q3.1⟩,q3.2⟩
 | [], _ :: _, h, _, _ => by simp at h
 | _ :: _, [], h, _, _ => by simp at h
 | c :: K1, a :: A, hl, hs, h => by
  obtain⟨q1,q2,q3⟩:=h;refine⟨q1,?_,Seps.merge (by simpa using hl) (List.pairwise_cons.1 hs).2 q3⟩;have q2':Above (A++m1::m2::B).flatten c:=q2;show Above (A++(m1++m2)::B).flatten c;simp only[lR,hG,Above.app] at q2' ⊢;exact⟨q2'.1,⟨q2'.2.1,q2'.2.2.1⟩,q2'.2.2.2⟩
def isT(V:UInt32->Bs):Nat->UInt32->List UInt32->List Pr->Prop
 | 0, id, pg, m => pg = [id] /\ leafOk m /\ V id = rS m
 | d + 1, id, pg, m => ∃ (ks : List Bs) (ts : List Kd), brOk ks (bs ts) /\ V id = brB ks (bs ts) /\ pg = id :: pgT ts /\ m = prT ts /\ Seps ks (msT ts) /\ ∀ t ∈ ts, isT V d t.1 t.2.1 t.2.2 /\ t.2.2 ≠ []
theorem iW{V V':UInt32->Bs}:∀{d:Nat} {id:UInt32} {pg:List UInt32} {m:List Pr},isT V d id pg m->(∀x∈pg,V' x=V x)->isT V' d id pg m
 | 0, id, pg, m, ⟨h1, h2, h3⟩, h => ⟨h1, h2, by rw [h id (by rw [h1]; exact cM)]; exact h3⟩
 | d + 1, id, pg, m, ⟨ks, ts, h1, h2, h3, h4, h5, h6⟩, h => by
  subst h3;refine⟨ks,ts,h1,by rw[h id cM];exact h2,rfl,h4,h5,λt ht=>⟨iW (h6 t ht).1 (λx hx=>h x (bN _ (List.mem_flatMap.2 ⟨t,ht,hx⟩))),(h6 t ht).2⟩⟩
theorem B2{V:UInt32->Bs}:∀{d:Nat} {id:UInt32} {pg:List UInt32} {m:List Pr},isT V d id pg m->∃q,pg=id::q
 | 0, _, _, _, ⟨h1, _⟩ => ⟨[], h1⟩
 | _ + 1, _, _, _, ⟨_, ts, _, _, h3, _⟩ => ⟨pgT ts, h3⟩
theorem jg{V:UInt32->Bs}:∀{d:Nat} {id:UInt32} {pg:List UInt32} {m:List Pr},isT V d id pg m->fU m
 | 0, _, _, _, ⟨_, h, _⟩ => h.1
 | d + 1, _, _, _, ⟨ks, ts, _, _, _, h4, h5, h6⟩ => by
  subst h4;refine⟨λp hp=>?_,?_⟩
  ·obtain⟨t,ht,hpt⟩:=List.mem_flatMap.1 hp;exact(jg (h6 t ht).1).1 p hpt
  ·rw[<-ln];refine h5.sort (λm hm=>?_);obtain⟨t,ht,rfl⟩:=List.mem_map.1 hm;exact(jg (h6 t ht).1).2
theorem wA{ks:List Bs}{ts:List Kd}(h:brOk ks (bs ts)):2<=ts.length:=by
 obtain⟨h1,h2,_⟩:=h
 have:0<ks.length:=List.length_pos_iff.2 h1
 rw[bs,dr] at h2;omega
theorem B3{V:UInt32->Bs}:∀{d:Nat} {id:UInt32} {pg:List UInt32} {m:List Pr},isT V d id pg m->2 ^ (d+1)<=pg.length+1
 | 0, _, _, _, ⟨h1, _⟩ => by subst h1; simp
 | d + 1, id, pg, m, ⟨ks, ts, h1, _, h3, _, _, h6⟩ => by
  subst h3;have h2:=wA h1;have hx:∀ts:List Kd,(∀t∈ts,isT V d t.1 t.2.1 t.2.2/\t.2.2≠[])->ts.length*(2 ^ (d+1)-1)<=(pgT ts).length:=by
   intro ts
   induction ts with
   | nil => intro _; simp
   | cons t ts ih =>
    intro h;have q1:=B3 (h t cM).1;have q2:=ih (λx hx=>h x (bN _ hx));rw[eM,aF,cg,Nat.succ_mul];omega
  have h4:=hx ts h6;have h5:2*(2 ^ (d+1)-1)<=ts.length*(2 ^ (d+1)-1):=ew _ h2;rw[cg,Nat.pow_succ];omega
theorem E8{V:UInt32->Bs}:∀{d:Nat} {id:UInt32} {pg:List UInt32} {m:List Pr},isT V d id pg m->m≠[]->pg.length+1<=2*m.length
 | 0, _, _, m, ⟨h1, _⟩, h => by subst h1; have := List.length_pos_iff.2 h; simp; omega
 | d + 1, id, pg, m, ⟨ks, ts, h1, _, h3, h4, _, h6⟩, _ => by
  subst h3;subst h4;have h2:=wA h1;have hx:∀ts:List Kd,(∀t∈ts,isT V d t.1 t.2.1 t.2.2/\t.2.2≠[])->(pgT ts).length+ts.length<=2*(prT ts).length:=by
   intro ts
   induction ts with
   | nil => intro _; simp [pgT, prT]
   | cons t ts ih =>
    intro h;have q1:=E8 (h t cM).1 (h t cM).2;have q2:=ih (λx hx=>h x (bN _ hx));rw[eM,fT,aF,aF,cg];omega
  have:=hx ts h6
  rw[cg];omega
inductive Cn where
 | leaf (ps : List Pr)
 | br (ks : List Bs) (ids : List UInt32)
def cnB:Cn->Bs
 | .leaf ps => rS ps
 | .br ks ids => brB ks ids
def cnZ:Cn->Nat
 | .leaf ps => cT ps
 | .br ks ids => brZ ks ids
def jM:Cn->Prop
 | .leaf _ => True
 | .br ks _ => ks ≠ []
theorem nt(c:Cn):(cnB c).length=cnZ c:=by cases c with
 | leaf => exact ni _
 | br => exact wQ _ _
def KidsT(V:UInt32->Bs)(d:Nat)(ts:List Kd):Prop:=∀t∈ts,isT V d t.1 t.2.1 t.2.2/\t.2.2≠[]
theorem KidsT.app{V:UInt32->Bs}{d:Nat}{a b:List Kd}:KidsT V d (a++b)↔KidsT V d a/\KidsT V d b :=
 ⟨λh=>⟨λt ht=>h t (cL _ ht),λt ht=>h t (cf _ ht)⟩,λh t ht=>(List.mem_append.1 ht).elim (h.1 t) (h.2 t)⟩
theorem zT{α:Type}{c k:α}{a b:List α}(h:c∈a++b):c∈a++k::b:=(List.mem_append.1 h).elim (λh=>cL _ h) (λh=>cf _ (bN _ h))
theorem KidsT.cons{V:UInt32->Bs}{d:Nat}{a:Kd}{b:List Kd}:KidsT V d (a::b)↔(isT V d a.1 a.2.1 a.2.2/\a.2.2≠[])/\KidsT V d b:=by unfold KidsT;simp only[bZ,forall_eq_or_imp]
theorem KidsT.mono{V V':UInt32->Bs}{d:Nat}{ts:List Kd}(h:KidsT V d ts)(hv:∀x∈pgT ts,V' x=V x):KidsT V' d ts:=λt ht =>
 ⟨iW (h t ht).1 (λx hx=>hv x (List.mem_flatMap.2 ⟨t,ht,hx⟩)),(h t ht).2⟩
def CT(V:UInt32->Bs):Nat->Cn->List UInt32->List Pr->Prop
 | 0, .leaf ps, pg, m => ps = m /\ pg = [] /\ fU m
 | d + 1, .br ks ids, pg, m => ∃ ts, ids = bs ts /\ zW ks /\ pg = pgT ts /\ m = prT ts /\ Seps ks (msT ts) /\ KidsT V d ts
 | _, _, _, _ => False
theorem CT.mono{V V':UInt32->Bs}:∀{d:Nat} {c:Cn} {pg:List UInt32} {m:List Pr},CT V d c pg m->(∀x∈pg,V' x=V x)->CT V' d c pg m
 | 0, .leaf _, _, _, h, _ => h
 | 0, .br _ _, _, _, h, _ => h.elim
 | _ + 1, .leaf _, _, _, h, _ => h.elim
 | _ + 1, .br _ _, _, _, ⟨ts, h1, h2, h3, h4, h5, h6⟩, hv => ⟨ts, h1, h2, h3, h4, h5, h6.mono (by subst h3; exact hv)⟩
theorem CT.saved{V:UInt32->Bs}:∀{d:Nat} {c:Cn} {pg:List UInt32} {m:List Pr} {id:UInt32},CT V d c pg m->cnZ c<=480->jM c->V id=cnB c->isT V d id (id::pg) m
 | 0, .leaf _, _, _, _, ⟨h1, h2, h3⟩, hz, _, hv => by subst h1; subst h2; exact ⟨rfl, ⟨h3, hz⟩, hv⟩
 | 0, .br _ _, _, _, _, h, _, _, _ => h.elim
 | _ + 1, .leaf _, _, _, _, h, _, _, _ => h.elim
 | _ + 1, .br ks _, _, _, _, ⟨ts, h1, h2, h3, h4, h5, h6⟩, hz, hf, hv => by
  subst h1;subst h3
  have:=h5.len
  rw[msT,dr] at this;exact⟨ks,ts,⟨hf,by rw[bs,dr];exact this,h2,hz⟩,hv,rfl,h4,h5,h6⟩
theorem mE{V:UInt32->Bs}:∀{d:Nat} {id:UInt32} {pg:List UInt32} {m:List Pr},isT V d id pg m->∃c pg0,pg=id::pg0/\CT V d c pg0 m/\V id=cnB c/\cnZ c<=480/\jM c
 | 0, _, _, _, ⟨h1, h2, h3⟩ => ⟨.leaf _, [], h1, ⟨rfl, rfl, h2.1⟩, h3, h2.2, trivial⟩
 | _ + 1, _, _, _, ⟨ks, ts, h1, h2, h3, h4, h5, h6⟩ => ⟨.br ks (bs ts), pgT ts, h3, ⟨ts, rfl, h1.2.2.1, rfl, h4, h5, h6⟩, h2, h1.2.2.2, h1.1⟩
theorem CT.pairs{V:UInt32->Bs}:∀{d:Nat} {c:Cn} {pg:List UInt32} {m:List Pr},CT V d c pg m->fU m
 | 0, .leaf _, _, _, h => h.2.2
 | 0, .br _ _, _, _, h => h.elim
 | _ + 1, .leaf _, _, _, h => h.elim
 | _ + 1, .br _ _, _, _, ⟨ts, _, _, _, h4, h5, h6⟩ => by
  subst h4;refine⟨λp hp=>?_,?_⟩
  ·obtain⟨t,ht,hpt⟩:=List.mem_flatMap.1 hp;exact(jg (h6 t ht).1).1 p hpt
  ·rw[<-ln];refine h5.sort (λm hm=>?_);obtain⟨t,ht,rfl⟩:=List.mem_map.1 hm;exact(jg (h6 t ht).1).2
def plc(ks:List Bs)(x:Bs):Nat:=if ks[gy ks x]?=some x then gy ks x+1 else gy ks x
theorem CA(ks:List Bs)(x:Bs):plc ks x<=ks.length:=by
 unfold plc
 split
 ·rename_i h;exact(List.getElem?_eq_some_iff.1 h).1
 ·exact sk _ _
theorem plc_lo{ks:List Bs}{x:Bs}{i:Nat}(hi:i<plc ks x):ltB x (ks[i]'(iz hi (CA ks x)))=false:=by
 have hl:=iz hi (CA ks x);unfold plc at hi;by_cases hc:i<gy ks x
 ·exact jd (A6 hc)
 ·split at hi
  ·rename_i h
   have:i=gy ks x:=by omega
   subst this
   have:=(List.getElem?_eq_some_iff.1 h).2
   rw[this];exact iq x
  ·omega
theorem plc_hi{ks:List Bs}{x:Bs}(hs:kE ks){i:Nat}(hi:plc ks x<=i)(hl:i<ks.length):ltB x ks[i]=true:=by
 have hcl:gy ks x<ks.length:=by unfold plc at hi;split at hi <;> omega
 unfold plc at hi
 split at hi
 ·rename_i h
  have e:=(List.getElem?_eq_some_iff.1 h).2
  have:=List.pairwise_iff_getElem.1 hs (gy ks x) i hcl hl (by omega)
  rw[e] at this;exact this
 ·rename_i h
  rw[bM hcl] at h;have h1:ltB ks[i] x=false:=Ep hs hl hi;cases h2:ltB x ks[i] with
  | true => rfl
  | false =>
   have e:=rP h1 h2;by_cases he:gy ks x=i
   ·subst he;exact absurd (congrArg some e) h
   ·have:=List.pairwise_iff_getElem.1 hs (gy ks x) i hcl hl (by omega)
    rw[e] at this;have h0:=tk hcl;rw[this] at h0;cases h0
theorem Fa{ks:List Bs}{x:Bs}(hs:kE ks):∃K1 K2,ks=K1++K2/\K1.length=plc ks x/\(∀k∈K1,ltB x k=false)/\∀k∈K2,ltB x k=true:=by
 refine⟨ks.take (plc ks x),ks.drop (plc ks x),(eZ _ _).symm,by rw[bz];have:=CA ks x;omega,λk hk=>?_,λk hk=>?_⟩
 ·obtain⟨i,hi,rfl⟩:=jD hk;rw[bz] at hi;rw[pQ];exact plc_lo (by omega)
 ·obtain⟨i,hi,rfl⟩:=jD hk;rw[bE] at hi;rw[uM];exact plc_hi hs (by omega) (by omega)
theorem Seps.before{x:Bs}{K2:List Bs}{M:List (List Pr)}:∀{K1:List Bs} {A:List (List Pr)},A.length=K1.length->Seps (K1++K2) (A++M)->(∀k∈K1,ltB x k=false)->Below A.flatten x
 | [], [], _, _, _ => λp hp => by simp at hp
 | [], _ :: _, h, _, _ => by simp at h
 | _ :: _, [], h, _, _ => by simp at h
 | c :: K1, a :: A, hl, h, h1 => by
  rw[hG,Below.app];exact⟨λp hp=>CQ (h.1 p hp) (h1 c cM),Seps.before (by simpa using hl) h.2.2 (λk hk=>h1 k (bN _ hk))⟩
theorem Seps.behind{x:Bs}{m:List Pr}:∀{K2:List Bs} {B:List (List Pr)},Seps K2 (m::B)->(∀k∈K2,ltB x k=true)->∀p∈B.flatten,ltB x p.1=true
 | [], [], _, _ => λp hp => by simp at hp
 | [], _ :: _, h, _ => h.elim
 | c :: K2, B, h, h1 => λp hp => by
  have q1:=h1 c cM;have q2:=h.2.1 p hp;exact CQ q1 q2
theorem Seps.drop{K2:List Bs}{M:List (List Pr)}:∀{K1:List Bs} {A:List (List Pr)},A.length=K1.length->Seps (K1++K2) (A++M)->Seps K2 M
 | [], [], _, h => h
 | [], _ :: _, h, _ => by simp at h
 | _ :: _, [], h, _ => by simp at h
 | _ :: K1, _ :: A, hl, h => Seps.drop (K1 := K1) (A := A) (by simpa using hl) h.2.2
theorem Seps.above{m:List Pr}{K2:List Bs}{B:List (List Pr)}:∀{K1:List Bs} {A:List (List Pr)},A.length=K1.length->Seps (K1++K2) (A++m::B)->∀k∈K1,Above m k
 | [], _, _, _ => λk hk => by simp at hk
 | _ :: _, [], h, _ => by simp at h
 | c :: K1, a :: A, hl, h => λk hk => by
  rcases List.mem_cons.1 hk with rfl|hk
  ·have:Above (A++m::B).flatten k:=h.2.1
   rw[lR,hG,Above.app,Above.app] at this;exact this.2.1
  ·exact Seps.above (by simpa using hl) h.2.2 k hk
theorem Seps.below{m:List Pr}{K1 K2:List Bs}{A B:List (List Pr)}(hl:A.length=K1.length)(h:Seps (K1++K2) (A++m::B)):∀k,K2.head?=some k->Below m k:=λk hk=>by
 cases K2 with
 | nil => cases hk
 | cons c K2 => cases hk; exact (Seps.drop hl h).1
structure Hole(V:UInt32->Bs)(d:Nat)(K1 K2:List Bs)(A B:List Kd)(m:List Pr):Prop where
 keys:zW (K1++K2)
 la:A.length=K1.length
 seps:Seps (K1++K2) (msT A++m::msT B)
 ka:KidsT V d A
 kb:KidsT V d B
section
variable {V V':UInt32->Bs}{d:Nat}{K1 K2:List Bs}{A B:List Kd}{m m' m1 m2:List Pr}{x:Bs}
theorem Hole.lm(h:Hole V d K1 K2 A B m):(msT A).length=K1.length:=by rw[msT,dr];exact h.la
theorem Hole.lb(h:Hole V d K1 K2 A B m):B.length=K2.length:=by
 have h1:=h.seps.len;have h2:=h.la;rw[aF,aF,cg,msT,msT,dr,dr] at h1;omega
theorem Hole.mono(h:Hole V d K1 K2 A B m)(hv:∀y∈pgT A++pgT B,V' y=V y):Hole V' d K1 K2 A B m :=
 ⟨h.keys,h.la,h.seps,h.ka.mono (λy hy=>hv y (cL _ hy)),h.kb.mono (λy hy=>hv y (cf _ hy))⟩
theorem Hole.set(h:Hole V d K1 K2 A B m)(h1:∀k∈K1,Above m' k)(h2:∀k,K2.head?=some k->Below m' k):Hole V d K1 K2 A B m' :=
 ⟨h.keys,h.la,h.seps.set h.lm h1 h2,h.ka,h.kb⟩
theorem Hole.sub(h:Hole V d K1 K2 A B m)(hs:∀p∈m',p∈m):Hole V d K1 K2 A B m' :=
 h.set (λk hk p hp=>h.seps.above h.lm k hk p (hs p hp)) (λk hk p hp=>h.seps.below h.lm k hk p (hs p hp))
theorem Hole.fill{id:UInt32}{pg:List UInt32}(h:Hole V d K1 K2 A B m)(ht:isT V d id pg m)(hne:m≠[]):CT V (d+1) (.br (K1++K2) (bs A++id::bs B)) (pgT A++(pg++pgT B)) (prT A++(m++prT B)) :=
 ⟨A++(id,pg,m)::B,by rw[iw];rfl,h.keys,by rw[eO,eM],by rw[g9,fT],by rw[gG];exact h.seps,KidsT.app.2 ⟨h.ka,KidsT.cons.2 ⟨⟨ht,hne⟩,h.kb⟩⟩⟩
theorem Hole.fill2{id1 id2:UInt32}{pg1 pg2:List UInt32}{k:Bs}(h:Hole V d K1 K2 A B (m1++m2))(ht1:isT V d id1 pg1 m1)(ht2:isT V d id2 pg2 m2)(hn1:m1≠[])(hn2:m2≠[])(hk:mD k)(hb:Below m1 k)(ha:Above m2 k) :
  CT V (d+1) (.br (K1++k::K2) (bs A++id1::id2::bs B)) (pgT A++(pg1++(pg2++pgT B))) (prT A++(m1++m2++prT B)):=by
 obtain⟨p1,hp1⟩:=yW _ hn1;obtain⟨p2,hp2⟩:=yW _ hn2;have hlo:∀c∈K1,ltB c k=true:=λc hc=>qq (h.seps.above h.lm c hc p1 (cL _ hp1)) (hb p1 hp1);have hhi:∀c,K2.head?=some c->ltB k c=true:=λc hc=>qq (ha p2 hp2) (h.seps.below h.lm c hc p2 (cf _ hp2));have hs:=h.keys.2;unfold kE at hs;rw[oL] at hs;have hall:∀c∈K2,ltB k c=true:=λc hc=>by
  cases K2 with
  | nil => simp at hc
  | cons e K2 =>
   rcases List.mem_cons.1 hc with rfl|hc
   ·exact hhi c O
   ·exact ff (hhi e O) ((List.pairwise_cons.1 hs.2.1).1 c hc)
 have h3:Above (msT B).flatten k:=λp hp=>jd (Seps.behind (Seps.drop h.lm h.seps) hall p hp);refine⟨A++(id1,pg1,m1)::(id2,pg2,m2)::B,by rw[iw];rfl,⟨λc hc=>?_,?_⟩,by rw[eO,eM,eM],by rw[g9,fT,fT,bP],by rw[gG];exact Seps.split hb ha h3 h.lm h.seps,KidsT.app.2 ⟨h.ka,KidsT.cons.2 ⟨⟨ht1,hn1⟩,KidsT.cons.2 ⟨⟨ht2,hn2⟩,h.kb⟩⟩⟩⟩
 ·rcases List.mem_append.1 hc with hc|hc
  ·exact h.keys.1 c (cL _ hc)
  ·rcases List.mem_cons.1 hc with rfl|hc
   ·exact hk
   ·exact h.keys.1 c (cf _ hc)
 ·unfold kE;rw[oL];refine⟨hs.1,List.pairwise_cons.2 ⟨hall,hs.2.1⟩,λa hA b hB=>?_⟩;rcases List.mem_cons.1 hB with rfl|hB
  ·exact hlo a hA
  ·exact hs.2.2 a hA b hB
theorem Hole.gone{k:Bs}(h:Hole V d (K1++[k]) K2 A B []):CT V (d+1) (.br (K1++K2) (bs A++bs B)) (pgT A++pgT B) (prT A++prT B):=by
 have hl:=h.la;rw[aF,gB] at hl;have hne:A≠[]:=λe=>by rw[e] at hl;simp at hl
 obtain⟨A',t,rfl⟩:∃A' t,A=A'++[t]:=⟨A.dropLast,A.getLast hne,(yY hne).symm⟩
 rw[aF,gB] at hl;have hs:=h.seps;rw[gG,bP,bP,gV] at hs;have hkeys:=h.keys;rw[bP,gV] at hkeys;have h2:=Seps.merge (by rw[msT,dr];omega) hkeys.2 (show Seps (K1++k::K2) (msT A'++t.2.2::[]::msT B) from hs);rw[cE] at h2;refine⟨A'++t::B,by rw[iw,iw,bP];rfl,⟨λc hc=>hkeys.1 c (zT hc),hkeys.2.sublist (BV (um _ _) _)⟩,by rw[eO,eO,eM,bP];simp[pgT],by rw[g9,g9,fT,bP];simp[prT],by rw[gG];exact h2,?_⟩
 have:=KidsT.app.2 ⟨h.ka,h.kb⟩
 rwa [bP] at this
theorem Hole.gone0{k:Bs}(h:Hole V d [] (k::K2) [] B []):CT V (d+1) (.br K2 (bs B)) (pgT B) (prT B) :=
 ⟨B,rfl,⟨λc hc=>h.keys.1 c (bN _ hc),(List.pairwise_cons.1 h.keys.2).2⟩,rfl,rfl,h.seps.2.2,h.kb⟩
theorem Hole.mergeR{k:Bs}{t:Kd}(h:Hole V d K1 (k::K2) A (t::B) m):Hole V d K1 K2 A B (m++t.2.2) :=
 ⟨⟨λc hc=>h.keys.1 c (zT hc),h.keys.2.sublist (BV (um _ _) _)⟩,h.la,Seps.merge h.lm h.keys.2 h.seps,h.ka,(KidsT.cons.1 h.kb).2⟩
theorem Hole.mergeL{k:Bs}{t:Kd}(h:Hole V d (K1++[k]) K2 (A++[t]) B m):Hole V d K1 K2 A B (t.2.2++m):=by
 have hl:=h.la;rw[aF,aF,gB,gB] at hl;have hs:=h.seps;rw[gG,bP,bP,gV] at hs;have hkeys:=h.keys;rw[bP,gV] at hkeys;exact⟨⟨λc hc=>hkeys.1 c (zT hc),hkeys.2.sublist (BV (um _ _) _)⟩,by omega,Seps.merge (by rw[msT,dr];omega) hkeys.2 (show Seps (K1++k::K2) (msT A++t.2.2::m::msT B) from hs),(KidsT.app.1 h.ka).1,h.kb⟩
end
theorem CT.hole{V:UInt32->Bs}{d:Nat}{ks:List Bs}{ids:List UInt32}{pg:List UInt32}{m:List Pr}(h:CT V (d+1) (.br ks ids) pg m)(x:Bs) :
  ∃(K1 K2:List Bs) (A:List Kd) (t:Kd) (B:List Kd),ks=K1++K2/\K1.length=plc ks x/\ids=bs A++t.1::bs B/\pg=pgT A++(t.2.1++pgT B)/\m=prT A++(t.2.2++prT B)/\Hole V d K1 K2 A B t.2.2/\isT V d t.1 t.2.1 t.2.2/\t.2.2≠[]/\Below (prT A) x/\(∀p∈prT B,ltB x p.1=true)/\(∀k∈K1,ltB x k=false)/\∀k∈K2,ltB x k=true:=by
 obtain⟨ts,rfl,h2,rfl,rfl,h5,h6⟩:=h;obtain⟨K1,K2,rfl,hl,h7,h8⟩:=Fa (x:=x) h2.2;have hlen:=h5.len;rw[msT,dr,aF] at hlen;have hlt:K1.length<ts.length:=by omega
 have hts:ts=ts.take K1.length++ts[K1.length]::ts.drop (K1.length+1):=by
  rw[<-jE hlt,eZ]
 obtain⟨A,hA⟩:∃A,A=ts.take K1.length:=⟨_,rfl⟩
 obtain⟨B,hB⟩:∃B,B=ts.drop (K1.length+1):=⟨_,rfl⟩
 obtain⟨t,ht⟩:∃t,t=ts[K1.length]:=⟨_,rfl⟩
 rw[<-hA,<-hB,<-ht] at hts;have hla:A.length=K1.length:=by rw[hA,bz];omega
 clear hA hB ht
 subst hts;rw[KidsT.app,KidsT.cons] at h6;rw[gG] at h5;have hlm:(msT A).length=K1.length:=by rw[msT,dr];exact hla
 have h5':Seps (K1++K2) (msT A++t.2.2::msT B):=h5;refine⟨K1,K2,A,t,B,rfl,hl,by rw[iw];rfl,by rw[eO,eM],by rw[g9,fT],⟨h2,hla,h5',h6.1,h6.2.2⟩,h6.2.1.1,h6.2.1.2,?_,?_,h7,h8⟩
 ·rw[<-ln];exact Seps.before hlm h5' h7
 ·rw[<-ln];exact Seps.behind (Seps.drop hlm h5') h8
theorem rC{l:List Pr}{p q:Pr}(h:q∈g0 l p):q=p∨q∈l:=by
 unfold g0 at h;rcases List.mem_append.1 h with h|h
 ·exact .inr (List.mem_filter.1 h).1
 ·rcases List.mem_cons.1 h with h|h
  ·exact .inl h
  ·exact .inr (List.mem_filter.1 h).1
theorem F3(l:List Pr)(p:Pr):p∈g0 l p:=by unfold g0;simp
theorem putP_ne(l:List Pr)(p:Pr):g0 l p≠[]:=List.ne_nil_of_mem (F3 l p)
theorem y7{l:List Pr}(p:Pr)(h:ec l):ec (g0 l p):=by
 unfold ec g0;rw[oL];refine⟨h.filter _,List.pairwise_cons.2 ⟨λq hq=>(List.mem_filter.1 hq).2,h.filter _⟩,λa ha b hb=>?_⟩;have h1:=(List.mem_filter.1 ha).2;rcases List.mem_cons.1 hb with rfl|hb
 ·exact h1
 ·exact ff h1 (List.mem_filter.1 hb).2
theorem putP_ok{l:List Pr}{p:Pr}(h:fU l)(hp:oc p):fU (g0 l p) :=
 ⟨λq hq=>(rC hq).elim (λe=>by rw[e];exact hp) (h.1 q),y7 p h.2⟩
theorem Bv{l:List Pr}{k:Bs}{q:Pr}(h:q∈kz l k):q∈l:=(List.mem_filter.1 h).1
theorem Eo{l:List Pr}{k:Bs}(h:fU l):fU (kz l k):=⟨λq hq=>h.1 q (Bv hq),yC k h.2⟩
theorem fE{l:List Pr}{f:Pr->Bool}(h:∀p∈l,f p=true):l.filter f=l:=List.filter_eq_self.2 h
theorem ke{l:List Pr}{f:Pr->Bool}(h:∀p∈l,f p=false):l.filter f=[]:=List.filter_eq_nil_iff.2 (λp hp=>by rw[h p hp];exact Bool.false_ne_true)
theorem H7{a m b:List Pr}{p:Pr}(ha:Below a p.1)(hb:∀q∈b,ltB p.1 q.1=true):g0 (a++(m++b)) p=a++(g0 m p++b):=by
 unfold g0;simp only[pU,bP,BT];rw[fE (l:=a) ha,ke (l:=b) (λq hq=>jd (hb q hq)),ke (l:=a) (λq hq=>jd (ha q hq)),fE (l:=b) hb];simp
theorem HT{a m b:List Pr}{k:Bs}(ha:Below a k)(hb:∀q∈b,ltB k q.1=true):kz (a++(m++b)) k=a++(kz m k++b):=by
 unfold kz;simp only[pU];rw[fE (l:=a) (λq hq=>by have:=qo (ha q hq);simpa using this),fE (l:=b) (λq hq=>by have:=qo (hb q hq);simpa using Ne.symm this)]
theorem ow(a b:List Pr)(k:Bs):lW (a++b) k=(lW a k).or (lW b k):=by
 unfold lW;rw[List.find?_append];cases List.find? (λp=>p.1==k) a <;> rfl
theorem ph{l:List Pr}{k:Bs}(h:∀p∈l,p.1≠k):lW l k=none:=by
 unfold lW;rw[List.find?_eq_none.2 (λp hp=>by simpa using h p hp)];rfl
theorem B8{a m b:List Pr}{k:Bs}(ha:Below a k)(hb:∀q∈b,ltB k q.1=true):lW (a++(m++b)) k=lW m k:=by
 rw[ow,ow,ph (l:=a) (λp hp=>qo (ha p hp)),ph (l:=b) (λp hp=>Ne.symm (qo (hb p hp)))];simp
def dV(l:List Pr)(k:Bs):Nat:=gy (yo l) k
def fA(l:List Pr)(k:Bs):Bool:=decide (∃h:dV l k<l.length,(l[dV l k]'h).1=k)
theorem kU(l:List Pr):(yo l).length=l.length:=dr ..
theorem oZ{l:List Pr}{i:Nat}(h:i<l.length):(yo l)[i]'(by rw[kU];exact h)=l[i].1:=List.getElem_map ..
theorem uB(l:List Pr)(k:Bs):dV l k<=l.length:=by have:=sk (yo l) k;rw[kU] at this;exact this
theorem CU{l:List Pr}(h:ec l):kE (yo l):=sortP_keys.1 h
theorem vW{l:List Pr}{k:Bs}{i:Nat}(hi:i<dV l k):ltB (l[i]'(iz hi (uB l k))).1 k=true:=by
 have:=A6 (l:=yo l) (x:=k) hi
 rw[oZ (iz hi (uB l k))] at this;exact this
theorem zM{l:List Pr}{k:Bs}(hs:ec l){i:Nat}(hi:dV l k<=i)(hl:i<l.length):ltB l[i].1 k=false:=by
 have:=Ep (CU hs) (i:=i) (by rw[kU];exact hl) hi
 rw[oZ hl] at this;exact this
theorem Cz{l:List Pr}{k:Bs}(hs:ec l){i:Nat}(hi:dV l k<=i)(hl:i<l.length)(hn:fA l k=false∨dV l k<i):ltB k l[i].1=true:=by
 have h1:=zM hs hi hl;cases h2:ltB k l[i].1 with
 | true => rfl
 | false =>
  have e:=rP h1 h2;rcases hn with hn|hn
  ·unfold fA at hn;by_cases hp:dV l k=i
   ·subst hp;exact absurd ⟨hl,e⟩ (of_decide_eq_false hn)
   ·have h3:=List.pairwise_iff_getElem.1 hs (dV l k) i (by omega) hl (by omega);rw[e] at h3;rw[zM hs (aM _) (by omega)] at h3;cases h3
  ·have h3:=List.pairwise_iff_getElem.1 hs (dV l k) i (by omega) hl hn;rw[e] at h3;rw[zM hs (aM _) (by omega)] at h3;cases h3
theorem tg{l:List Pr}(k:Bs)(hs:ec l):l.filter (λq=>ltB q.1 k)=l.take (dV l k):=by
 have h:=pU (p:=λq:Pr=>ltB q.1 k) (l.take (dV l k)) (l.drop (dV l k));rw[eZ] at h;rw[h,fE,ke,cE]
 ·intro p hp;obtain⟨i,hi,rfl⟩:=jD hp;rw[bE] at hi;rw[uM];exact zM hs (by omega) (by omega)
 ·intro p hp;obtain⟨i,hi,rfl⟩:=jD hp;rw[bz] at hi;rw[pQ];exact vW (by omega)
theorem iH{l:List Pr}{k:Bs}(h:fA l k=true):dV l k<l.length:=(of_decide_eq_true h).1
theorem rU{l:List Pr}{k:Bs}(h:fA l k=true):(l[dV l k]'(iH h)).1=k:=(of_decide_eq_true h).2
theorem th{l:List Pr}(k:Bs)(hs:ec l):l.filter (λq=>ltB k q.1)=l.drop (dV l k+(fA l k).toNat):=by
 have h:=pU (p:=λq:Pr=>ltB k q.1) (l.take (dV l k+(fA l k).toNat)) (l.drop (dV l k+(fA l k).toNat));rw[eZ] at h;rw[h,ke,fE,dG]
 ·intro p hp;obtain⟨i,hi,rfl⟩:=jD hp;rw[bE] at hi;rw[uM];refine Cz hs (by omega) (by omega) ?_;cases hh:fA l k with
  | false => exact .inl rfl
  | true => right; simp only [Bool.toNat_true]; omega
 ·intro p hp;obtain⟨i,hi,rfl⟩:=jD hp;rw[bz] at hi;rw[pQ];by_cases hi2:i<dV l k
  ·exact jd (vW hi2)
  ·by_cases hh:fA l k=true
   ·have hb:(fA l k).toNat=1:=by rw[hh];rfl
    have hi3:i=dV l k:=by omega
    have hk:(l[i]'(by omega)).1=k:=by simp only[hi3];exact rU hh
    rw[hk];exact iq k
   ·have hb:(fA l k).toNat=0:=by rw[Bool.eq_false_iff.2 hh];rfl
    omega
theorem vR{l:List Pr}{p:Pr}(hs:ec l)(h:fA l p.1=true):g0 l p=l.set (dV l p.1) p:=by
 unfold g0;rw[tg _ hs,th _ hs,h,List.set_eq_take_append_cons_drop,if_pos (iH h)];rfl
theorem nY{l:List Pr}{p:Pr}(hs:ec l)(h:fA l p.1=false):g0 l p=l.take (dV l p.1)++p::l.drop (dV l p.1):=by
 unfold g0;rw[tg _ hs,th _ hs,h];rfl
theorem HS{l:List Pr}{k:Bs}(hs:ec l)(h:fA l k=true):kz l k=l.take (dV l k)++l.drop (dV l k+1):=by
 have hl:=iH h;unfold kz;have e:l=l.take (dV l k)++l[dV l k]::l.drop (dV l k+1):=by rw[<-jE hl,eZ]
 have h1:(l.take (dV l k)).filter (λq => !(q.1==k))=l.take (dV l k):=fE (λp hp=>by
  obtain⟨i,hi,rfl⟩:=jD hp;rw[bz] at hi;rw[pQ]
  have:=qo (vW (l:=l) (k:=k) (i:=i) (by omega))
  simpa using this)
 have h2:(l.drop (dV l k+1)).filter (λq => !(q.1==k))=l.drop (dV l k+1):=fE (λp hp=>by
  obtain⟨i,hi,rfl⟩:=jD hp;rw[bE] at hi;rw[uM]
  have:=qo (Cz (k:=k) hs (i:=dV l k+1+i) (by omega) (by omega) (.inr (by omega)))
  simpa using Ne.symm this)
 calc l.filter (λq => !(q.1==k))=(l.take (dV l k)++l[dV l k]::l.drop (dV l k+1)).filter (λq => !(q.1==k)):=by rw[<-e]
  _=_:=by rw[pU,h1,yV,h2,rU h];simp
theorem B7{l:List Pr}{k:Bs}(hs:ec l):fA l k=true↔∃p∈l,p.1=k:=by
 constructor
 ·intro h;exact⟨_,lQ (iH h),rU h⟩
 ·rintro⟨p,hp,rfl⟩;obtain⟨i,hi,rfl⟩:=jD hp;cases h:fA l l[i].1 with
  | true => rfl
  | false =>
   by_cases hc:i<dV l l[i].1
   ·have:=vW hc;rw[iq] at this;cases this
   ·have:=Cz hs (by omega) hi (.inl h);rw[iq] at this;cases this
theorem FE{l:List Pr}{k:Bs}(hs:ec l)(h:fA l k=false):kz l k=l:=by
 refine fE (λp hp=>?_);by_cases hk:p.1=k
 ·rw[(B7 hs).2 ⟨p,hp,hk⟩] at h;cases h
 ·simpa using hk
theorem Eb{l:List Pr}{k:Bs}(_:ec l)(h:fA l k=true):lW l k=some (l[dV l k]'(iH h)).2:=by
 have e:l=l.take (dV l k)++(l[dV l k]'(iH h)::(l.drop (dV l k+1)++[])):=by rw[cE,<-jE (iH h),eZ]
 have hb:Below (l.take (dV l k)) k:=λp hp=>by
  obtain⟨i,hi,rfl⟩:=jD hp;rw[bz] at hi;rw[pQ];exact vW (by omega)
 have:lW (l.take (dV l k)++(l[dV l k]'(iH h)::(l.drop (dV l k+1)++[]))) k=some (l[dV l k]'(iH h)).2:=by
  rw[ow,ph (l:=l.take _) (λp hp=>qo (hb p hp)),Option.none_or];unfold lW;rw[List.find?_cons_of_pos (by rw[rU h];exact beq_self_eq_true k)];rfl
 rw[<-e] at this;exact this
theorem Ea{l:List Pr}{k:Bs}(hs:ec l)(h:fA l k=false):lW l k=none :=
 ph (λp hp hk=>by rw[(B7 hs).2 ⟨p,hp,hk⟩] at h;cases h)
theorem yq{l:List Pr}{k:Bs}(hs:ec l):(lW l k).isSome=fA l k:=by
 cases h:fA l k with
 | true => rw [Eb hs h]; rfl
 | false => rw [Ea hs h]; rfl
theorem B6{a m b:List Pr}{k:Bs}(hs:ec (a++(m++b)))(ha:Below a k)(hb:∀q∈b,ltB k q.1=true):fA (a++(m++b)) k=fA m k:=by
 have hm:ec m:=hs.sublist ((List.sublist_append_left m b).trans (List.sublist_append_right a _));rw[<-yq hs,<-yq hm,B8 ha hb]
def wK(c:Cn)(n:Nat):Cn:=match c with
 | .leaf ps => .leaf (ps.take n)
 | .br ks ids => .br (ks.take (n - 1)) (ids.take n)
def xx(c:Cn)(n:Nat):Bs:=match c with
 | .leaf ps => (ps.getD n ([], [])).1
 | .br ks _ => ks.getD (n - 1) []
def uf(c:Cn)(n:Nat):Cn:=match c with
 | .leaf ps => .leaf (ps.drop n)
 | .br ks ids => .br (ks.drop n) (ids.drop n)
def mA:Cn->Nat
 | .leaf ps => ps.length
 | .br _ ids => ids.length
def ga:Cn->Nat
 | .leaf _ => 1
 | .br _ _ => 2
def FG(c:Cn)(n:Nat):Nat:=max (cnZ (wK c n)) (cnZ (uf c n))
def wN:Cn->Prop
 | .leaf ps => fU ps /\ cT ps <= 694
 | .br ks ids => zW ks /\ ids.length = ks.length + 1 /\ brZ ks ids <= 546
theorem zw(P:Nat->Prop)[DecidablePred P]:∀(k a:Nat),P a->¬P (a+k)->∃n,a<=n/\n<a+k/\P n/\¬P (n+1)
 | 0, _, h, h' => absurd h h'
 | k + 1, a, h, h' => by
  by_cases h1:P (a+1)
  ·obtain⟨n,q1,q2,q3,q4⟩:=zw P k (a+1) h1 (by rw[mP,Nat.add_comm 1 k];exact h');exact⟨n,by omega,by omega,q3,q4⟩
  ·exact⟨a,aM _,by omega,h,h1⟩
theorem je(ps:List Pr)(n:Nat):cT (ps.take n)+cT (ps.drop n)=cT ps+3:=by
 have:=eC (ps.take n) (ps.drop n)
 rw[eZ] at this;omega
theorem qp{ps:List Pr}{n:Nat}(h:n<ps.length):cT (ps.take (n+1))=cT (ps.take n)+(ps[n].1.length+ps[n].2.length+4):=by
 have h1:=eC (ps.take n) [ps[n]];rw[iF,fM h] at h1;omega
theorem lr{ks:List Bs}{n:Nat}(h:n<ks.length):dj (ks.take (n+1))=dj (ks.take n)+(ks[n].length+2):=by
 have h1:=iG (ks.take n) [ks[n]];rw[fM h,jK] at h1
 simpa [dj] using h1
theorem jJ(ks:List Bs)(n:Nat):dj (ks.take n)+dj (ks.drop n)=dj ks:=by
 have:=iG (ks.take n) (ks.drop n)
 rw[eZ] at this;omega
theorem sX:∀ks:List Bs,2*ks.length<=dj ks
 | [] => eh _
 | a :: l => by rw [jK, cg]; have := sX l; omega
theorem FF{c:Cn}(h:wN c)(hz:480<cnZ c):∃n,ga c<=n/\n+ga c<=mA c/\FG c n<=480:=by
 cases c with
 | leaf ps =>
  obtain⟨⟨h1,_⟩,h2⟩:=h;have hz:480<cT ps:=hz;have hl:=(rR ps h1).1;have hlen:3<=ps.length:=by omega
  have hp:∀n (h:n<ps.length),(ps[n].1.length+ps[n].2.length+4)<=214:=λn h=>by
   have:=h1 _ (lQ h);omega
  obtain⟨n,q1,q2,q3,q4⟩:=zw (λn=>cT (ps.take n)<=480) (ps.length-1) 1 (by
   have:=qp (ps:=ps) (n:=0) (by omega)
   have:=hp 0 (by omega)
   have:cT (ps.take 0)=3:=rfl
   show cT (ps.take (0+1))<=480
   omega) (by rw[show 1+(ps.length-1)=ps.length by omega,cX];omega)
  refine⟨n,q1,by show n+1<=ps.length;omega,Nat.max_le.2 ⟨q3,?_⟩⟩;show cT (ps.drop n)<=480;have e1:=je ps n;have e2:=qp (ps:=ps) (n:=n) (by omega);have e3:=hp n (by omega);omega
 | br ks ids =>
  obtain⟨⟨h1,_⟩,h2,h3⟩:=h;have hz:480<3+4*ids.length+dj ks:=hz;have h3:3+4*ids.length+dj ks<=546:=h3;have hl:=(wv ks h1).1;have hlen:9<=ids.length:=by omega
  have hp:∀n (h:n<ks.length),ks[n].length<=60:=λn h=>(h1 _ (lQ h)).2;have ha:∀n,2<=n->n+2<=ids.length->cnZ (wK (.br ks ids) n)=3+4*n+dj (ks.take (n-1)):=λn q1 q2=>by
   show 3+4*(ids.take n).length+_=_;rw[bz,ey (by omega)]
  have hb:∀n,2<=n->n+2<=ids.length->cnZ (uf (.br ks ids) n)=3+4*(ids.length-n)+dj (ks.drop n):=λn q1 q2=>by
   show 3+4*(ids.drop n).length+_=_;rw[bE]
  have hc:∀n (h:n-1<ks.length),1<=n->dj (ks.take (n-1))+(ks[n-1].length+2)+dj (ks.drop n)=dj ks:=λn h h1=>by
   have e1:=lr h;have e2:=jJ ks n;rw[show n-1+1=n by omega] at e1;omega
  by_cases hend:3+4*(ids.length-2)+dj (ks.take (ids.length-2-1))<=480
  ·refine⟨ids.length-2,by show 2<=_;omega,by show _+2<=ids.length;omega,Nat.max_le.2 ⟨by rw[ha _ (by omega) (by omega)];exact hend,?_⟩⟩;rw[hb _ (by omega) (by omega)];have e1:ks.drop (ids.length-2)=[ks[ids.length-2]]:=by
    rw[jE (by omega),gj (by omega)]
   rw[e1,jK]
   have:=hp (ids.length-2) (by omega)
   have:dj []=0:=rfl
   omega
  ·obtain⟨n,q1,q2,q3,q4⟩:=zw (λn=>3+4*n+dj (ks.take (n-1))<=480) (ids.length-4) 2 (by
    have e1:=lr (ks:=ks) (n:=0) (by omega)
    have:=hp 0 (by omega)
    have:dj (ks.take 0)=0:=rfl
    show 3+4*2+dj (ks.take (0+1))<=480
    omega) (by rw[show 2+(ids.length-4)=ids.length-2 by omega];exact hend)
   refine⟨n,q1,by show n+2<=ids.length;omega,Nat.max_le.2 ⟨by rw[ha n q1 (by omega)];exact q3,?_⟩⟩;rw[hb n q1 (by omega)];have e1:=lr (ks:=ks) (n:=n-1) (by omega);have e2:=hc n (by omega) (by omega);have e3:=hp (n-1) (by omega);rw[show n-1+1=n by omega] at e1;have q4':¬(3+4*(n+1)+dj (ks.take n)<=480):=q4;omega
theorem CT.cuts{V:UInt32->Bs}:∀{d:Nat} {c:Cn} {pg:List UInt32} {m:List Pr} {n:Nat},CT V d c pg m->ga c<=n->n+ga c<=mA c ->
  ∃pg1 pg2 m1 m2,pg=pg1++pg2/\m=m1++m2/\CT V d (wK c n) pg1 m1/\CT V d (uf c n) pg2 m2/\m1≠[]/\m2≠[]/\Below m1 (xx c n)/\Above m2 (xx c n)/\mD (xx c n)/\jM (wK c n)/\jM (uf c n)
 | 0, .br _ _, _, _, _, h, _, _ => h.elim
 | _ + 1, .leaf _, _, _, _, h, _, _ => h.elim
 | 0, .leaf ps, pg, m, n, ⟨h1, h2, h3⟩, hn, hm => by
  subst h1;subst h2;have hn:1<=n:=hn;have hm:n+1<=ps.length:=hm;have hk:xx (.leaf ps) n=ps[n].1:=by
   show(ps.getD n ([],[])).1=_;rw[eI,bM (by omega)];rfl
  have hpl:∀p∈ps.take n,∃i,∃h:i<n,p=ps[i]:=λp hp=>by
   obtain⟨i,hi,rfl⟩:=jD hp;rw[bz] at hi;exact⟨i,by omega,by rw[pQ]⟩
  refine⟨[],[],ps.take n,ps.drop n,rfl,(eZ _ _).symm,⟨rfl,rfl,λp hp=>h3.1 p (BQ hp),h3.2.sublist (oI _ _)⟩,⟨rfl,rfl,λp hp=>h3.1 p (List.mem_of_mem_drop hp),h3.2.sublist (List.drop_sublist _ _)⟩,?_,?_,?_,?_,?_,trivial,trivial⟩
  ·intro e;have:=congrArg List.length e;rw[bz,kY] at this;omega
  ·intro e;have:=congrArg List.length e;rw[bE,kY] at this;omega
  ·rw[hk];intro p hp;obtain⟨i,hi,rfl⟩:=hpl p hp;exact List.pairwise_iff_getElem.1 h3.2 i n (by omega) (by omega) hi
  ·rw[hk];intro p hp;obtain⟨i,hi,rfl⟩:=jD hp;rw[bE] at hi;rw[uM];cases i with
   | zero => exact iq _
   | succ i => exact jd (List.pairwise_iff_getElem.1 h3.2 n (n + (i + 1)) (by omega) (by omega) (by omega))
  ·rw[hk];exact(h3.1 _ (lQ (by omega))).1
 | d + 1, .br ks ids, pg, m, n, ⟨ts, h1, h2, h3, h4, h5, h6⟩, hn, hm => by
  subst h1;subst h3;subst h4;have hn:2<=n:=hn;have hm:n+2<=(bs ts).length:=hm;rw[bs,dr] at hm;have hlen:=h5.len;rw[msT,dr] at hlen;have hk:xx (.br ks (bs ts)) n=ks[n-1]:=by
   show ks.getD (n-1) []=_;rw[eI,bM (by omega)];rfl
  have hks:ks=ks.take (n-1)++ks[n-1]::ks.drop n:=by
   have:=jE (l:=ks) (i:=n-1) (by omega)
   rw[show n-1+1=n by omega] at this;rw[<-this,eZ]
  have hts:ts.take n++ts.drop n=ts:=eZ _ _;have hkey:=h2.1 _ (lQ (l:=ks) (n:=n-1) (by omega));obtain⟨k0,hk0⟩:∃k0,k0=ks[n-1]:=⟨_,rfl⟩
  rw[<-hk0] at hk hks hkey;have hsc:kE (ks.take (n-1)++k0::ks.drop n):=by rw[<-hks];exact h2.2
  have h5':Seps (ks.take (n-1)++k0::ks.drop n) (msT (ts.take n)++msT (ts.drop n)):=by rw[<-hks,<-gG,hts];exact h5
  obtain⟨q1,q2,q3,q4⟩:=Seps.cut (by rw[msT,dr,bz,bz];omega) hsc h5';have h6':KidsT V d (ts.take n)/\KidsT V d (ts.drop n):=KidsT.app.1 (by rw[hts];exact h6);rw[ln] at q3 q4;have hne:∀l:List Kd,KidsT V d l->l≠[]->prT l≠[]:=λl hl hn e=>by
   cases l with
   | nil => exact hn rfl
   | cons t l =>
    rw[fT] at e;exact(hl t cM).2 (List.append_eq_nil_iff.1 e).1
  refine⟨pgT (ts.take n),pgT (ts.drop n),prT (ts.take n),prT (ts.drop n),by rw[<-eO,eZ],by rw[<-g9,eZ],
   ⟨ts.take n,by unfold bs;rw[List.map_take],⟨λk hk=>h2.1 k (BQ hk),h2.2.sublist (oI _ _)⟩,rfl,rfl,q1,h6'.1⟩,
   ⟨ts.drop n,by unfold bs;rw[List.map_drop],⟨λk hk=>h2.1 k (List.mem_of_mem_drop hk),h2.2.sublist (List.drop_sublist _ _)⟩,rfl,rfl,q2,h6'.2⟩,
   hne _ h6'.1 (λe=>by have:=congrArg List.length e;rw[bz,kY] at this;omega),hne _ h6'.2 (λe=>by have:=congrArg List.length e;rw[bE,kY] at this;omega),
   by rw[hk];exact q3,by rw[hk];exact q4,by rw[hk];exact hkey,?_,?_⟩
  ·intro e;have:=congrArg List.length e;rw[bz,kY] at this;omega
  ·intro e;have:=congrArg List.length e;rw[bE,kY] at this;omega
theorem CT.ok{V:UInt32->Bs}:∀{d:Nat} {c:Cn} {pg:List UInt32} {m:List Pr},CT V d c pg m->(cnZ c<=546∨(∃ps,c=.leaf ps)/\cnZ c<=694)->wN c
 | 0, .leaf _, _, _, ⟨h1, _, h3⟩, hz => by
  subst h1;refine⟨h3,?_⟩;rcases hz with hz|⟨_,hz⟩
  ·exact bw hz (by decide)
  ·exact hz
 | 0, .br _ _, _, _, h, _ => h.elim
 | _ + 1, .leaf _, _, _, h, _ => h.elim
 | _ + 1, .br ks _, _, _, ⟨ts, h1, h2, _, _, h5, _⟩, hz => by
  subst h1
  have:=h5.len
  rw[msT,dr] at this;refine⟨h2,by rw[bs,dr];exact this,?_⟩;rcases hz with hz|⟨⟨_,h⟩,_⟩
  ·exact hz
  ·cases h
theorem F2{l:List Pr}{p:Pr}(hs:ec l):cT (g0 l p)<=cT l+(p.1.length+p.2.length+4):=by
 have hone:=iF p;cases h:fA l p.1 with
 | true =>
  unfold g0;rw[tg _ hs,th _ hs,h];have h1:=eC (l.take (dV l p.1)) ([p]++l.drop (dV l p.1+true.toNat));have h2:=eC [p] (l.drop (dV l p.1+true.toNat));have h3:=je l (dV l p.1);have h4:=je (l.drop (dV l p.1)) 1;have h5:cT ((l.drop (dV l p.1)).take 1)≥3:=by unfold cT;omega
  rw[gC] at h4;rw[gV] at h1 h2;simp only[Bool.toNat_true] at h1 h2 ⊢;omega
 | false =>
  rw[nY hs h];have h1:=eC (l.take (dV l p.1)) ([p]++l.drop (dV l p.1));have h2:=eC [p] (l.drop (dV l p.1));have h3:=je l (dV l p.1);rw[gV] at h1 h2;omega
theorem FD(l:List Pr)(k:Bs):cT (kz l k)<=cT l:=by
 unfold kz
 induction l with
 | nil => exact aM _
 | cons a l ih =>
  have h1:=eC [a] l;rw[gV,iF] at h1;rw[yV]
  split
  ·have h2:=eC [a] (l.filter λq => !(q.1==k));rw[gV,iF] at h2;omega
  ·omega
theorem Ia(K1 K2:List Bs)(a b:List UInt32)(i j:UInt32):brZ (K1++K2) (a++i::b)=brZ (K1++K2) (a++j::b):=by
 unfold brZ;simp
theorem yH(K1 K2:List Bs)(a b:List UInt32)(i j l:UInt32)(k:Bs):brZ (K1++k::K2) (a++i::l::b)=brZ (K1++K2) (a++j::b)+6+k.length:=by
 unfold brZ;rw[iG,iG,jK];simp only[aF,cg];omega
theorem CT.lone{V:UInt32->Bs}{d:Nat}{ids:List UInt32}{pg:List UInt32}{m:List Pr}(h:CT V d (.br [] ids) pg m):∃d' id,d=d'+1/\ids=[id]/\isT V d' id pg m:=by
 cases d with
 | zero => exact h.elim
 | succ d =>
  obtain⟨ts,rfl,h2,rfl,rfl,h5,h6⟩:=h
  have:=h5.len
  rw[msT,dr] at this
  match ts,this with
  | [t], _ => exact ⟨d, t.1, rfl, rfl, by rw [eM, fT]; simp only [pgT, prT, yU, cE]; exact (h6 t cM).1⟩
theorem Hole.top(V:UInt32->Bs)(d:Nat)(m:List Pr):Hole V d [] [] [] [] m :=
 ⟨⟨λ_ h=>by simp at h,yZ⟩,rfl,trivial,λ_ h=>by simp at h,λ_ h=>by simp at h⟩
instance:Flat Bs:=⟨1,λs=>[str s],λ_=>rfl,λs v h=>by simp at h;subst h;rfl⟩
instance:Flat Pr:=⟨2,λp=>[str p.1,str p.2],λ_=>rfl,λs v h=>by
 simp only[bZ,dD,or_false] at h;rcases h with rfl|rfl <;> rfl⟩
section
variable {P:Program}{E:Env}{w:World}{ty t u:TypeId}{x y:Operand}{a b:Bs}
theorem yz(a b:Bs):((⟨a.toArray⟩:ByteArray).toList==(⟨b.toArray⟩:ByteArray).toList)=decide (a=b):=by
 simp only[ByteArray.toList_eq];rw[qI];simp
theorem zi(hx:ev E x=str a)(hy:ev E y=str b):exec P E (.binOp .lss t x y u) ty w=.ok (.value (.bool (ltB a b))) w:=by
 rw[oz,hx,hy];refine bh ?_;simp[eqGuard,binOp,Op.stringOp]
theorem uX(hx:ev E x=str a)(hy:ev E y=str b):exec P E (.binOp .geq t x y u) ty w=.ok (.value (.bool (!ltB a b))) w:=by
 rw[oz,hx,hy];refine bh ?_;simp[eqGuard,binOp,Op.stringOp]
def AY(a b:Bs):Bs:=if ltB a b=true then b else a
theorem x_maxS{d d':TypeId}(hx:ev E x=str a)(hy:ev E y=str b):exec P E (.call { callee:=.builtin .max,args:=#[x,y],argTypes:=#[d,d'] }) ty w=.ok (.value (str (AY a b))) w:=by
 rw[ud];refine bh ?_;cases h:ltB a b <;> simp[Builtin.max_,Builtin.max2,hx,hy,Op.stringOp,asBool,AY,h]
end
section
variable {P:Program}{E:Env}{w:World}{ty t t':TypeId}{x y c:Operand}
theorem zH{f : FuncId}{args : Array Value}{fn : Func}(hf : P.funcs[f]? = some fn)(hn : (fn.name == "runtime.NumGoroutine") = false)(hb : fn.body.isNone = false) : (callFunc f args).run P w = .ok (.enter f args) w := by
 have hb':fn.body≠none:=by intro h;rw[h] at hb;simp at hb
 have hn' : fn.name ≠ "runtime.NumGoroutine" := by intro h; rw [h] at hn; simp at hn
 unfold callFunc;rw[ar (show program.run P w=.ok P w from rfl)];simp only[hf];rw[if_neg (by simpa using hn'),if_neg (by simpa using hb')];rfl
theorem ux{f : FuncId}{cs : List Value}{args : List Operand}{ats : Array TypeId}{fn : Func}(hc : ev E c = .func (.func f) #[] cs.toArray)(hf : P.funcs[f]? = some fn)(hn : (fn.name == "runtime.NumGoroutine") = false)(hb : fn.body.isNone = false) :
  exec P E (.call { callee:=.value c,args:=args.toArray,argTypes:=ats }) ty w=.ok (.enter f (args.map (ev E)++cs).toArray) w:=by
 show(do let d <-Deferred.ofValue (ev E c) (args.toArray.map (ev E));invoke d.target d.args).run P w=_;rw[hc]
 have:=zH (w:=w) (args:=(args.map (ev E)++cs).toArray) hf hn hb
 simpa [Deferred.ofValue,invoke] using this
theorem DI{f : FuncId}{fn : Func}{e : Array Value -> Sem Value}{args : List Operand}{ats : Array TypeId}{v : Value}{w' : World}(hf : P.funcs[f]? = some fn)(hn : (fn.name == "runtime.NumGoroutine") = false)
  (hb:fn.body.isNone=true) (h1:Extern.findNext fn=none) (he:Extern.find fn=some e) (h:(e (args.map (ev E)).toArray).run P w=.ok v w') :
  exec P E (.call { callee:=.value (.func f),args:=args.toArray,argTypes:=ats }) ty w=.ok (.value v) w':=by
 show(do let d <-Deferred.ofValue (.func (.func f) #[] #[]) (args.toArray.map (ev E));invoke d.target d.args).run P w=_;have h2:=run_callFunc_extern hf hn hb h1 he (args.map (ev E)).toArray w;rw[h] at h2
 simpa [Deferred.ofValue,invoke] using h2
def BA(a b:Bs):Int:=Lib.compareBytes a b
theorem Es(a b:Bs):BA a b<0↔ltB a b=true:=by
 unfold BA
 induction a generalizing b with
 | nil => cases b <;> simp [Lib.compareBytes, Op.bytesLess]
 | cons x a ih =>
  cases b with
  | nil => simp [Lib.compareBytes, Op.bytesLess]
  | cons y b =>
   rw[rQ];unfold Lib.compareBytes
   split
   ·rename_i h;simp[h]
   ·split
    ·rename_i h1 h2
     have:¬x<y:=λh=>by
      have:=UInt8.lt_iff_toNat_lt.1 h
      have:=UInt8.lt_iff_toNat_lt.1 h2
      omega
     have h3:x≠y:=λe=>by subst e;exact uj _ h2
     simp[this,h3]
    ·rename_i h1 h2
     have:x=y:=UInt8.le_antisymm (UInt8.not_lt.1 h2) (UInt8.not_lt.1 h1)
     subst this;rw[ih];simp[UInt8.lt_irrefl]
theorem cmpB_eq(a b:Bs):BA a b=0↔a=b:=by
 unfold BA
 induction a generalizing b with
 | nil => cases b <;> simp [Lib.compareBytes]
 | cons x a ih =>
  cases b with
  | nil => simp [Lib.compareBytes]
  | cons y b =>
   unfold Lib.compareBytes
   split
   ·rename_i h
    have h3:x≠y:=λe=>by subst e;exact uj _ h
    simp[h3]
   ·split
    ·rename_i h1 h2
     have h3:x≠y:=λe=>by subst e;exact uj _ h2
     simp[h3]
    ·rename_i h1 h2
     have:x=y:=UInt8.le_antisymm (UInt8.not_lt.1 h2) (UInt8.not_lt.1 h1)
     subst this;rw[ih];simp
theorem ic{d e:TypeId}{p:Option Addr}{l cp:Nat}(hx:ev E x=.slice p l cp)(ht:P.underlying d=some (.slice e)):exec P E (.call { callee:=.builtin .cap,args:=#[x],argTypes:=#[d] }) ty w=.ok (.value (.int .i64 cp)) w:=by
 rw[ud];refine bh ?_;simp[Builtin.cap_,hx,run_underlying ht,goInt]
end
section
variable {α:Type}[Flat α]{P:Program}{E:Env}{w:World}{ty t t':TypeId}{x y lo hi mx:Operand}
theorem qU{e:TypeId}{i:TypeInfo}{z:Value}{v:Value}{o:Operand}(a:α)(ht:P.underlying t=some (.slice e))(hi:P.info? e=some i)(hz:i.zero=some z)(hsz:i.size=Flat.sz α)(hzs:z.cells.size=Flat.sz α)(hx:ev E o=v)(hv:v.cells.toList=Flat.enc a)(hb:Flat.sz α<=16777216) :
  ∃v' w',exec P E (.buildSlice t 1 #[(0,o)]) ty w=.ok (.value v') w'/\∃b,v'=.slice (some ⟨b,0,none⟩) 1 1/\Blk w' b (Flat.enc a)/\w.heap.size<=b/\Chg [] w w'/\b<w'.heap.size:=by
 refine⟨.slice (some ⟨w.heap.size,0,none⟩) 1 1,w.pushB (.cells (Flat.enc a).toArray e),?_,w.heap.size,rfl,⟨e,fS _ _⟩,aM _,Chg.push _ _,by rw[g8];omega⟩;rw[sa];refine bh ?_;unfold Instr.buildSlice;rw[ar (run_underlying ht w)];simp only[];rw[ar (cx hi w),hsz,if_neg (by omega)];have hps:((#[(0,o)]:Array (Nat×Operand)).map λ(i,x)=>(i,ev E x)).toList=([v].zipIdx).map λx=>(x.2,x.1):=by simp[hx]
 have hcells:∀u∈[v],u.cells.size=Flat.sz α:=λu hu=>by
  rw[gh] at hu;subst hu
  have:=congrArg List.length hv
  rw[Flat.len] at this;simpa using this
 have hsize:∀zero:Array Value,((Array.range (1*Flat.sz α)).map (zero[· % zero.size]!)).size=1*Flat.sz α:=by intro zero;simp
 have hflat:[v].flatMap (λv=>v.cells.toList)=Flat.enc a:=by simp[hv]
 by_cases h0:1*Flat.sz α=0
 ·rw[if_pos h0];simp only[pure_bind];rw[hps,rY [v] _ 0 hcells (by rw[hsize];simp)];simp only[oG];rw[n3 (by rw[hsize,hflat,Flat.len];omega),hflat];rfl
 ·rw[if_neg h0,ar (dq hi hz w)];simp only[pure_bind];rw[hps,rY [v] _ 0 hcells (by rw[hsize];simp)];simp only[oG];rw[n3 (by rw[hsize,hflat,Flat.len];omega),hflat];rfl
theorem add0(p:Option Addr):p.map (·.add 0)=p:=by
 cases p with
 | none => rfl
 | some a => obtain ⟨b, o, s⟩ := a; rfl
theorem sG(n:Nat){e:TypeId}{i:TypeInfo}{p:Option Addr}{l cap:Nat}{k:IntKind}{j:Int}(ht:P.underlying t=some (.slice e))(hi':P.info? e=some i)(hx:ev E x=.slice p l cap)(hl:ev E hi=.int k j)(hn:j=n)(hj:n<=cap) :
  exec P E (.slice t x none (some hi) none) ty w=.ok (.value (.slice p n cap)) w:=by
 subst hn;rw[Ah ht hi' hx hl (by omega),add0];simp
theorem u4(n:Nat){e:TypeId}{i:TypeInfo}{b off l cap:Nat}{k:IntKind}{j:Int}(ht:P.underlying t=some (.slice e))(hi:P.info? e=some i)(hx:ev E x=.slice (some ⟨b,off,none⟩) l cap)(hl:ev E lo=.int k j)(hn:j=n)(hj:n<=l)(hc:n<cap) :
  exec P E (.slice t x (some lo) none none) ty w=.ok (.value (.slice (some ⟨b,off+n*i.size,none⟩) (l-n) (cap-n))) w:=by
 subst hn;rw[qS ht hi hx hl (by omega),if_neg (by simp;omega)];simp[eD]
theorem Ca{e:TypeId}{i:TypeInfo}{p:Option Addr}{l cap:Nat}{k k' k2:IntKind}{j j' j2:Int}(ht:P.underlying t=some (.slice e))(hi':P.info? e=some i)(hx:ev E x=.slice p l cap)(hl:ev E lo=.int k j)(hh:ev E hi=.int k' j')(hm:ev E mx=.int k2 j2)
  (hj:0<=j/\j<=j') (hj':0<=j'/\j'<=j2) (hj2:0<=j2/\j2<=cap) :
  ∃v',(∀w',exec P E (.slice t x (some lo) (some hi) (some mx)) ty w'=.ok (.value v') w')/\True:=by
 refine⟨.slice (if j2.toNat=j.toNat then p else p.map (·.add (j.toNat*i.size))) (j'.toNat-j.toNat) (j2.toNat-j.toNat),λw=>?_,trivial⟩;rw[kR,hx];refine bh ?_;rw[il ht];unfold Instr.slice Instr.sliceBounds;rw[ar (run_underlying ht w)];simp only[z8,hl,hm,hh,bind_assoc,if_true];rw[ar (dA hj2)];rw[ar (dA (by omega))];rw[ar (dA (by omega))];simp only[pure_bind];rw[ar (cx hi' w)];rfl
theorem BW(n q:Nat){e:TypeId}{i:TypeInfo}{p:Option Addr}{l cap:Nat}{k k':IntKind}{j j':Int}(ht:P.underlying t=some (.slice e))(hi':P.info? e=some i)(hx:ev E x=.slice p l cap)(hl:ev E lo=.int k j)(hh:ev E hi=.int k' j')(hn:j=n)(hq:j'=n+q)(hc:n+q<=cap) :
  exec P E (.slice t x (some lo) (some hi) none) ty w=.ok (.value (.slice (if cap=n then p else p.map (·.add (n*i.size))) q (cap-n))) w:=by
 subst hn hq;rw[vd ht hi' hx hl hh (by omega) (by omega)];simp;congr 2;omega
theorem Own.front{p:Option Addr}{n cap:Nat}{l:List α}(h:Own w (.slice p l.length cap) l)(hn:n<=l.length):Own w (.slice p n cap) (l.take n):=by
 obtain⟨p',cap',he,hc,h⟩:=h;cases he;refine⟨p,cap,by rw[bz,ey hn],by rw[bz];omega,?_⟩;cases p with
 | none =>
  obtain⟨h1,h2⟩:=h;subst h1;exact⟨by simp,h2⟩
 | some a =>
  obtain⟨h1,c,e,fr,h2,h3,h4,h5⟩:=h;refine⟨h1,c,e,fr,h2,h3,h4,λi x hx=>h5 i x ?_⟩;rw[<-gP] at hx;rw[ki] at hx
  split at hx
  ·exact hx
  ·cases hx
theorem Gu{e:TypeId}{i:TypeInfo}{d:TypeDesc}{p:Option Addr}{cap:Nat}{vy:Value}{l m:List α}(ht:P.underlying t=some (.slice e))(ht':P.underlying t'=some d)(hd:d=.string∨∃e',d=.slice e')
  (hi:P.info? e=some i) (hsz:i.size=Flat.sz α) (hl:Own w (.slice p l.length cap) l) (hm:Src α P w vy m) (hx:ev E x=.slice p l.length cap) (hy:ev E y=vy) (hc:l.length+m.length<=cap) :
  ∃w',exec P E (.call { callee:=.builtin .append,args:=#[x,y],argTypes:=#[t,t'] }) ty w=.ok (.value (.slice p (l.length+m.length) cap)) w'/\Own w' (.slice p (l.length+m.length) cap) (l++m)/\Chg (ay (.slice p l.length cap)) w w'/\w'.heap.size=w.heap.size:=by
 have key:∃w',(Builtin.append_ #[t,t'] ty #[.slice p l.length cap,vy]).run P w=.ok (.slice p (l.length+m.length) cap) w'/\Own w' (.slice p (l.length+m.length) cap) (l++m)/\Chg (ay (.slice p l.length cap)) w w'/\w'.heap.size=w.heap.size:=by
  obtain⟨p',cap',he,hlc,hp⟩:=hl;cases he;unfold Builtin.append_;simp only[mI,sA,uN];rw[ar (run_underlying ht w)];simp only[];rw[ar (cx hi w)];rw[ar (run_underlying ht' w)];rcases hd with rfl|⟨e',rfl⟩
  all_goals
   simp only[pure_bind,DA,if_false,sE,if_true];rw[ar hm.1,if_pos hc];have hfirst:=hm.2 w rfl m.length (aM _);rw[cX,<-hsz] at hfirst;rw[ar hfirst];cases p with
   | none =>
    obtain⟨rfl,rfl⟩:=hp;have hm0:m=[]:=kj (by simpa using hc);subst hm0;exact⟨w,rfl,⟨none,0,rfl,eh _,rfl,rfl⟩,Chg.refl' _ _,rfl⟩
   | some a =>
    obtain⟨b,off,sp⟩:=a;obtain⟨h1,c,ee,fr,h2,h3,h4,h5⟩:=hp;simp only at h1 h2 h4 h5;subst h1;have hlen:(bl m).length=m.length*Flat.sz α:=aV m;have hroom:off+l.length*Flat.sz α+(bl m).length<=c.size:=by
     rw[hlen]
     have:l.length*Flat.sz α+m.length*Flat.sz α<=cap*Flat.sz α:=by rw[<-eY];exact ew _ hc
     omega
    simp only[eD,hsz];rw[ar (fh _ h2 (by simpa using hroom) h3 (by simpa using gx m))];refine⟨_,rfl,⟨some ⟨b,off,none⟩,cap,by rw[aF],by simpa using hc,rfl,_,ee,fr,eB (cG h2),h3.size (cY _ _ _),by rw[cY];exact h4,?_⟩,?_,dS _ _ _⟩
    ·intro k q hk;rw[dP] at hk;simp only at hk ⊢;by_cases hkl:k<(bl l).length
     ·rw[iK hkl] at hk;rw[aV] at hkl;exact rD (by simpa using hroom) (h5 k q hk) (by omega)
     ·rw[fY (by omega)] at hk;rw[aV] at hkl hk
      have:=vS (c:=c) (off:=off+l.length*Flat.sz α) (vs:=(bl m).toArray.toList) (by simpa using hroom) (by simpa using hk)
      rw[show off+l.length*Flat.sz α+(k-l.length*Flat.sz α)=off+k from by omega] at this;exact this
    ·exact(Chg.set _ _ _).mono (λb hb _=>by simpa [ay] using hb)
 obtain⟨w',h1,h2⟩:=key;refine⟨w',?_,h2⟩;rw[sf,hx,hy];exact bh h1
theorem zo{e:TypeId}{i:TypeInfo}{d:TypeDesc}{p:Option Addr}{cap n q:Nat}{vy:Value}{l m:List α}(ht:P.underlying t=some (.slice e))(ht':P.underlying t'=some d)(hd:d=.string∨∃e',d=.slice e')
  (hi:P.info? e=some i) (hsz:i.size=Flat.sz α) (hn:l.length=n) (hq:m.length=q) (hl:Own w (.slice p n cap) l) (hm:Src α P w vy m) (hx:ev E x=.slice p n cap) (hy:ev E y=vy) (hc:n+q<=cap) :
  ∃v' w',exec P E (.call { callee:=.builtin .append,args:=#[x,y],argTypes:=#[t,t'] }) ty w=.ok (.value v') w'/\v'=.slice p (n+q) cap/\Own w' (.slice p (n+q) cap) (l++m)/\Chg (ay (.slice p n cap)) w w'/\w'.heap.size=w.heap.size:=by
 subst hn hq;obtain⟨w',h1,h2⟩:=Gu (ty:=ty) ht ht' hd hi hsz hl hm hx hy hc;exact⟨_,w',h1,rfl,h2⟩
theorem pB{z:Value}{z0:α}(hz:z.cells.toList=Flat.enc z0)(n:Nat):(Builtin.zeroCells z.cells n).toList=bl (List.replicate n z0):=by
 have hs:z.cells.size=Flat.sz α:=by have:=congrArg List.length hz;rw[Flat.len] at this;simpa using this
 by_cases hp:0<z.cells.toList.length
 ·have h:=Ad hp n;have e:z.cells.toList.toArray=z.cells:=by simp
  rw[e] at h;unfold Builtin.zeroCells;rw[show n*z.cells.size=n*z.cells.toList.length by simp,h,hz,bl,List.flatMap_def,List.map_replicate]
 ·have h0:Flat.sz α=0:=by rw[<-hs];simp at hp;simpa using hp
  have h1:=aV (List.replicate n z0);rw[h0,Nat.mul_zero] at h1;rw[kj h1];unfold Builtin.zeroCells;rw[hs,h0];simp
theorem qX{e:TypeId}{i:TypeInfo}{z:Value}{k:IntKind}{p:Option Addr}{cap n:Nat}{l:List α}{j:Int}(m:Nat)(z0:α)(ht:P.underlying t=some (.slice e))(ht':P.underlying t'=some (.int k))(hi:P.info? e=some i)(hz:i.zero=some z)(hze:z.cells.toList=Flat.enc z0)(hsz:i.size=Flat.sz α)
  (hby:i.bytes<=1024) (hn:l.length=n) (hl:Sl w (.slice p n cap) l) (hx:ev E x=.slice p n cap) (hy:ev E y=.int .i64 j) (hj:j=m) (hb:n+m<=1073741824) (hc:cap<n+m) :
  ∃v' w',exec P E (.call { callee:=.builtin .append,args:=#[x,y],argTypes:=#[t,t'] }) ty w=.ok (.value v') w'/\Own w' v' (l++List.replicate m z0)/\Chg [] w w'/\In v' [] w.heap.size:=by
 subst hj hn;have hzs:z.cells.size=Flat.sz α:=by have:=congrArg List.length hze;rw[Flat.len] at this;simpa using this
 have key:∃v' w',(Builtin.append_ #[t,t'] ty #[.slice p l.length cap,.int .i64 m]).run P w=.ok v' w'/\Own w' v' (l++List.replicate m z0)/\Chg [] w w'/\In v' [] w.heap.size:=by
  unfold Builtin.append_;simp only[mI,sA,uN];rw[ar (run_underlying ht w)];simp only[];rw[ar (cx hi w)];rw[ar (run_underlying ht' w)];have happ:∀w':World,(if m*i.size=0 then (pure #[]:Sem (Array Value)) else do pure (Builtin.zeroCells (<-zeroValue e).cells m)).run P w'=.ok (bl (List.replicate m z0)).toArray w':=λw'=>by
   by_cases h0:m*i.size=0
   ·rw[if_pos h0];have h1:=aV (List.replicate m z0);rw[cN,<-hsz,h0] at h1;rw[kj h1];rfl
   ·rw[if_neg h0,ar (dq hi hz w'),<-pB hze m];rfl
  simp only[pure_bind,if_true,Bool.not_true,DA,if_false];have ha:(asInt (.int .i64 (m:Int))).run P w=.ok (m:Int) w:=rfl;rw[ar ha,jW (by omega)];rw[if_neg (by omega)];rw[ar (dF hi w)];have hnb0:¬((m:Int)*(i.bytes:Int) > 2 ^ 48):=by
   have:m*i.bytes<=1073741824*1024:=uk (by omega) hby
   have h2:((m*i.bytes:Nat):Int)<=1073741824*1024:=by omega
   rw[Int.natCast_mul] at h2;omega
  rw[if_neg hnb0];simp only[jk];rw[if_neg (by omega)];have hov:¬((l.length+m:Nat):Int) > IntKind.i64.max:=by
   have:IntKind.i64.max=9223372036854775807:=by decide
   omega
  rw[ar (dF hi w),if_neg (by intro h;exact absurd h.1 hov),ar (dF hi w)];have hnc:=ql (l.length+m) cap (by omega);have hnb:¬Builtin.nextslicecap (l.length+m) cap*i.bytes > 2 ^ 48:=by
   have:Builtin.nextslicecap (l.length+m) cap*i.bytes<=(4*1073741824+2000)*1024:=uk (by omega) hby
   omega
  rw[if_neg hnb];obtain⟨nc,hnc1,hch⟩:=mZ (P:=P) (w:=w) (need:=l.length+m) (cap:=cap) (e:=e);rw[ar hch];rw[ar (dF hi _),ar lN];have hf1:=((hl.heap (w':={ w with drawn:=w.drawn+1 }) O).first (P:=P) l.length (aM _))
  rw[cX,<-hsz] at hf1;rw[ar hf1];rw[ar (happ _),ar (dq hi hz _)];refine⟨.slice (some ⟨w.heap.size,0,none⟩) (l++List.replicate m z0).length nc,_,?_,rJ (w:={ w with drawn:=w.drawn+1 }) (l:=l++List.replicate m z0) (e:=e) (rest:=Builtin.zeroCells z.cells (nc-(l.length+m))) (cap:=nc) (by simpa using hnc1) ?_,?_,?_⟩
  ·rw[aF,cN,dP];simp only[<-List.append_toArray];rfl
  ·rw[kX,hzs,aF,cN]
  ·exact(Chg.push { w with drawn:=w.drawn+1 } _).mono (by simp)
  ·intro b hb;right;simp only[ay,gh] at hb;omega
 obtain⟨v',w',h1,h2⟩:=key;refine⟨v',w',?_,h2⟩;rw[sf,hx,hy];exact bh h1
theorem ve{e:TypeId}{i:TypeInfo}{z:Value}{p:Option Addr}{cap q c' n:Nat}{l:List α}(z0:α)(ht:P.underlying t=some (.slice e))(hi:P.info? e=some i)(hz:i.zero=some z)(hze:z.cells.toList=Flat.enc z0)(hsz:i.size=Flat.sz α)
  (hn:l.length=n) (hl:Own w (.slice p n cap) l) (hx:ev E x=.slice (if cap=n then p else p.map (·.add (n*i.size))) q c') (hq:n+q<=cap) :
  ∃w',exec P E (.call { callee:=.builtin .clear,args:=#[x],argTypes:=#[t] }) ty w=.ok (.value (.tuple #[])) w'/\Own w' (.slice p n cap) l/\Chg (ay (.slice p n cap)) w w'/\w'.heap.size=w.heap.size:=by
 subst hn;have e_clear:exec P E (.call { callee:=.builtin .clear,args:=#[x],argTypes:=#[t] }) ty w=(jY (Builtin.clear_ #[t] ty #[ev E x])).run P w:=by
  rw[ud];simp only[uJ,eV,uK];rfl
 rw[e_clear,hx];by_cases h0:q=0
 ·subst h0;refine⟨w,bh ?_,hl,Chg.refl' _ _,rfl⟩;unfold Builtin.clear_;simp only[mI,sA];rw[ar (run_underlying ht w)];by_cases hcl:cap=l.length
  ·rw[if_pos hcl];cases p <;> rfl
  ·rw[if_neg hcl];cases p <;> rfl
 ·obtain⟨p',cap',he,hlc,hp⟩:=hl;cases he;cases p with
  | none => obtain ⟨rfl, rfl⟩ := hp; exact absurd hq (by simp; omega)
  | some a =>
   obtain⟨b,off,sp⟩:=a;obtain⟨h1,c,ee,fr,h2,h3,h4,h5⟩:=hp;simp only at h1 h2 h4 h5;subst h1;have hlen:=aV (List.replicate q z0);rw[cN] at hlen;have hroom:off+l.length*Flat.sz α+(bl (List.replicate q z0)).length<=c.size:=by
    rw[hlen]
    have:l.length*Flat.sz α+q*Flat.sz α<=cap*Flat.sz α:=by rw[<-eY];exact ew _ hq
    omega
   have hst:=fh (P:=P) (bl (List.replicate q z0)) h2 hroom h3 (gx _);refine⟨_,bh (w':=w.setB b (.cells (gn c (off+l.length*Flat.sz α) (bl (List.replicate q z0))) ee fr)) ?_,⟨some ⟨b,off,none⟩,cap,rfl,hlc,rfl,_,ee,fr,eB (cG h2),h3.size (cY _ _ _),by rw[cY];exact h4,?_⟩,(Chg.set _ _ _).mono (λb hb _=>by simpa [ay] using hb),dS _ _ _⟩
   ·rw[if_neg (by omega)];unfold Builtin.clear_;simp only[mI,sA,z8];rw[ar (run_underlying ht w)];cases q with
    | zero => exact absurd rfl h0
    | succ q =>
     simp only[eD,hsz];rw[ar (dq hi hz w),pB hze,ar hst];rfl
   ·intro k x hk
    have:=(List.getElem?_eq_some_iff.1 hk).1
    rw[aV] at this;exact rD hroom (h5 k x hk) (by simp only;omega)
def Row(w:World)(b:Nat)(c:Array Value):Prop:=∃e fr,w.heap[b]?=some (.cells c e fr)/\Soft c fr
theorem oQ{e:TypeId}{i:TypeInfo}{b doff dl dcap b2 soff sl sc:Nat}{c:Array Value}{m:List α}(ht:P.underlying t=some (.slice e))(hi:P.info? e=some i)(hsz:i.size=Flat.sz α)(hx:ev E x=.slice (some ⟨b,doff,none⟩) dl dcap)(hy:ev E y=.slice (some ⟨b2,soff,none⟩) sl sc)
  (hm:min sl dl=m.length) (hs:At w b2 soff (bl m)) (hb:Row w b c) (hr:doff+m.length*Flat.sz α<=c.size) :
  ∃w',exec P E (.call { callee:=.builtin .copy,args:=#[x,y],argTypes:=#[t,t'] }) ty w=.ok (.value (.int .i64 m.length)) w'/\Row w' b (gn c doff (bl m))/\Chg [b] w w'/\w'.heap.size=w.heap.size:=by
 obtain⟨be,fr,hb,hf⟩:=hb;refine⟨w.setB b (.cells (gn c doff (bl m)) be fr),?_,⟨be,fr,eB (cG hb),hf.size (cY _ _ _)⟩,Chg.set _ _ _,dS _ _ _⟩;rw[HR,hx,hy];refine bh ?_;unfold Builtin.copy_;simp only[mI,sA,uN];rw[ar (run_underlying ht w)];simp only[];have hmin:Nat.min sl dl=m.length:=hm;have hfst:(Builtin.firstCells i.size (Nat.min sl dl) (.slice (some ⟨b2,soff,none⟩) sl sc)).run P w=.ok (bl m).toArray w:=by
  have:=iQ (P:=P) hs
  rw[aV] at this;rw[hmin,hsz];exact this
 rw[ar (F0 (P:=P) (w:=w)),ar (cx hi w),ar hfst];rw[ar (fh _ hb (by simp only;rw[aV];exact hr) hf (by simpa using gx _)),hmin];rfl
theorem zQ{b off cap:Nat}{l:List α}(h:Own w (.slice (some ⟨b,off,none⟩) l.length cap) l):∃c,Row w b c/\off+cap*Flat.sz α<=c.size/\∀i x,(bl l)[i]?=some x->c[off+i]?=some x:=by
 obtain⟨p,cp,he,_,h⟩:=h;cases he;obtain⟨_,c,e,fr,h2,h3,h4,h5⟩:=h;exact⟨c,⟨e,fr,h2,h3⟩,h4,h5⟩
theorem Row.own{b off cap n:Nat}{c:Array Value}{l:List α}(h:Row w b c)(hn:n=l.length)(hc:l.length<=cap)(hs:off+cap*Flat.sz α<=c.size)(hl:∀i x,(bl l)[i]?=some x->c[off+i]?=some x):Own w (.slice (some ⟨b,off,none⟩) n cap) l:=by
 obtain⟨e,fr,h2,h3⟩:=h;subst hn;exact⟨_,cap,rfl,hc,rfl,c,e,fr,h2,h3,hs,hl⟩
theorem Row.at{b off:Nat}{c:Array Value}{l:List Value}(h:Row w b c)(hl:∀i x,l[i]?=some x->c[off+i]?=some x):At w b off l:=by
 obtain⟨e,fr,h2,_⟩:=h;exact⟨c,e,fr,h2,hl⟩
theorem zL{c:Array Value}{off cap:Nat}{l:List α}{a:α}{i:Nat}(hi:i<=l.length)(hc:l.length+1<=cap)(hs:off+cap*Flat.sz α<=c.size)(hl:∀i x,(bl l)[i]?=some x->c[off+i]?=some x) :
  ∀q x,(bl (l.take i++a::l.drop i))[q]?=some x->(gn (gn c (off+(i+1)*Flat.sz α) (bl (l.drop i))) (off+i*Flat.sz α) (Flat.enc a))[off+q]?=some x:=by
 intro q x hq;have hk:(i+1)*Flat.sz α=i*Flat.sz α+Flat.sz α:=Nat.succ_mul _ _;have hdl:(bl (l.drop i)).length=(l.length-i)*Flat.sz α:=by rw[aV,bE]
 have hsum:(i+1)*Flat.sz α+(l.length-i)*Flat.sz α<=cap*Flat.sz α:=by rw[<-eY];exact ew _ (by omega)
 have htl:(bl (l.take i)).length=i*Flat.sz α:=by rw[aV,bz,ey hi]
 have hal:(Flat.enc a).length=Flat.sz α:=Flat.len a;rw[dP,iI] at hq;rw[iT _ _ _ _ (by rw[cY,hal];omega),iT _ _ _ _ (by rw[hdl];omega),hal,hdl];by_cases h1:q<i*Flat.sz α
 ·rw[iK (by omega)] at hq;rw[if_neg (by omega),if_neg (by omega)];refine hl q x ?_;rw[<-gP,ki,if_pos h1] at hq;exact hq
 ·rw[fY (by omega),htl] at hq;by_cases h2:q<(i+1)*Flat.sz α
  ·rw[iK (by omega)] at hq;rw[if_pos (by omega),show off+q-(off+i*Flat.sz α)=q-i*Flat.sz α by omega];exact hq
  ·rw[fY (by omega),hal] at hq
   have:=(List.getElem?_eq_some_iff.1 hq).1
   rw[if_neg (by omega),if_pos (by omega),show off+q-(off+(i+1)*Flat.sz α)=q-i*Flat.sz α-Flat.sz α by omega];exact hq
theorem vJ{e:TypeId}{i:TypeInfo}{b b2 off la ca lb cb:Nat}{t2:TypeId}{cs:List Value}(ht:P.underlying t=some (.slice e))(hi:P.info? e=some i)(hB:Blk w b cs)(_:b<w.heap.size)(hne:b≠b2){c2:Array Value}(hR:Row w b2 c2)(h2:0<c2.size) :
  (Extern.SlicesOverlaps.overlaps #[t,t] #[t2] #[.slice (some ⟨b,0,none⟩) la ca,.slice (some ⟨b2,off,none⟩) lb cb]).run P w=.ok (.bool false) w:=by
 obtain⟨e1,hB⟩:=hB;obtain⟨e2,fr,hR,_⟩:=hR;obtain⟨kB,hkB⟩:∃kB,c2.size=kB+1:=⟨c2.size-1,by omega⟩
 have hsa:w.shape? b=some (e1,cs.length):=by unfold World.shape?;rw[hB];simp
 have hsb:w.shape? b2=some (e2,kB+1):=by unfold World.shape?;rw[hR,<-hkB]
 have hfr:∀o,w.frozen? ⟨b,o,none⟩=false:=λo=>by unfold World.frozen?;simp only[hB];simp
 have hz:(Go.sizeOf e).run P w=.ok i.size w:=cx hi w;have hnb:(b != b2)=true:=by simpa using hne
 have hnb':(b==b2)=false:=by simpa using hne
 change Sem.run P (α:=Value) (do
  let some t := (#[t, t] : Array TypeId)[0]? | stuck "slices.overlaps: no parameter types"
  let .slice elem <- underlying t | stuck "slices.overlaps: slice type expected"
  let size <-sizeOf elem
  match (some ⟨b,0,none⟩:Option Addr),(some ⟨b2,off,none⟩:Option Addr) with
  | some a, some b =>
   if la=0∨lb=0∨size=0 then pure (Value.bool false)
   else if a.block != b.block&&(<-frozen a)&&(<-frozen b) then unsupported .addressObserved
   else do
    if a.block != b.block then do
     noView a;noView b
     if <- mayBeOne a b then return Value.bool ((<- choose (.extern "sameAddr.stringBytes" 2)) == 1)
    pure (Value.bool (a.block==b.block&&a.off<b.off+lb*size&&b.off<a.off+la*size))
  | _, _ => pure (Value.bool false)) w = _
 by_cases h0:la=0∨lb=0∨i.size=0
 ·simp[Go.run_underlying ht,hz,h0]
 ·simp[Go.run_underlying ht,hz,h0,hnb,hnb',frozen,noView,viewAt,mayBeOne,stringish,shape,Sem.run,hsa,hsb,hfr]
end
end Go.Sac
namespace Go.Sac
open Go Go.ChangeShapes
theorem xd{H:Type}{enc:TypeId×Value->H}{P:Program}(hl:laidOutB P=true){W W':World}(hc:Chg [] W W') :
  ∀(ts:List TypeId) (vs:List Value) (ds:List (DataW H)) (ps:List MemPlace),ts.all (λt=>P.readableRec t&&decide (t<P.types.size))=true ->
   DataW.TrodAll enc P W 0 (λ_=>true) true ts vs ds ps->(∀p∈ps,p.block<W.heap.size)->DataW.TrodAll enc P W' 0 (λb=>decide (b<W.heap.size)) true ts vs ds ps:=by
 intro ts
 induction ts with
 | nil => intro vs ds ps _ h _; cases vs <;> cases ds <;> first | exact h | exact h.elim
 | cons t ts ih =>
  intro vs ds ps hr h hlt;obtain⟨v,vs',d,ds',p,q,rfl,rfl,rfl,h1,h2⟩:=trodAll_cons h;simp only[List.all_cons,j9,decide_eq_true_eq] at hr;have hp:∀x∈p,x.block<W.heap.size:=λx hx=>hlt x (by simp[hx]);refine⟨p,q,WideElems.Trod_stays hl hr.1.1 hr.1.2 h1 (λx hx=>?_) (λx hx=>by simpa using hp x hx),ih _ _ _ (by simpa using hr.2) h2 (λx hx=>hlt x (by simp[hx])),rfl⟩;have hb:=hp x hx;cases x with
  | cell b o => exact World.cell?_of_block (w := W) (hc.2.1 b hb (by simp))
  | map b => exact hc.2.1 b hb (by simp)
theorem Chg.keptBut{W W':World}(hc:Chg [] W W')(may:MemPlace->Prop):W.keptBut W' may:=by
 refine⟨hc.2.2.1,hc.2.2.2,λi hi=>?_⟩;have h:=hc.2.1 i hi (by simp);rw[h]
 split
 ·rename_i h1 h2
  rw[h1] at h2;simp only[oF,Obj.cells.injEq] at h2;obtain⟨rfl,rfl,rfl⟩:=h2;exact⟨rfl,rfl,rfl,λ_ _=>rfl⟩
 ·rename_i h1 h2
  rw[h1] at h2;simp only[oF,Obj.map.injEq] at h2;exact .inr ⟨h2.1.symm,h2.2.symm⟩
 ·rfl
theorem Fq{H:Type}{enc:TypeId×Value->H}{P:Program}{f:FuncId}{fn:Func}{s:ChangeSpec}{apart:Bool}{W:World}{args:Array Value}{ds gs:List (DataW H)}{before:List MemPlace}{bt:TypeId}
  (hl:laidOutB P=true) (hr:fn.params.toList.all (λt=>P.readableRec t&&decide (t<P.types.size))=true) (hrt:fn.resultTypes=#[bt]) (hbt:P.underlying bt=some .bool) (hv:s.vars=[])
  (hs:s.fn H (ds++gs)={ results:=[.lit (.bool true)],args:=ds }) (hW:DataW.Whole enc P fn.params.toList s.vars apart W args.toList ds gs before)
  (hc:Ret P f args W λv W'=>v=.bool true/\Chg [] W W') :
  Calls P f args W λe W'=>∃v,e=.returned v/\s.post enc P fn apart true false false W args v W':=by
 refine Calls.mono hc ?_;rintro e W' ⟨v,rfl,rfl,hch⟩;have hlt:=hW.lt;obtain⟨p,q,hA,hV,rfl,hz,hn⟩:=id hW;rw[hv] at hV;obtain⟨rfl,rfl⟩:=trodVars_none hV;have hA':=xd hl hch _ _ _ _ hr hA (λx hx=>hlt x (by simp[hx]));refine⟨_,rfl,ds,[],p++[],[],p,[],hW,?_,?_,?_,hch.keptBut _,λh=>by cases h⟩
 ·rw[hs,hrt];refine⟨[],[],⟨1,?_⟩,rfl,rfl⟩;simp[Value.cells,DataW.trod,hbt]
 ·rw[hs];exact hA'
 ·rw[hs,hv];rfl
def RdF(P:Program)(t:TypeId)(α:Type)[Flat α](ok:World->α->Prop):Prop :=
 ∀{H:Type} {enc:TypeId×Value->H} {w:World} {base:Nat} {sp:Nat->Bool} {held:Bool} {fuel:Nat} {cs:List Value} {x:DataW H×List MemPlace},
  DataW.trod enc P w base sp held fuel t cs=some x->∃a:α,cs=Flat.enc a/\ok w a
def okI(_:World)(n:Int):Prop := -9223372036854775808<=n/\n<9223372036854775808
def okT{α:Type}(_:World)(_:α):Prop:=True
theorem rd_u8{P:Program}{t:TypeId}(ht:P.underlying t=some (.int .u8)):RdF P t UInt8 okT:=by
 intro H enc w base sp held fuel cs x h;obtain⟨n,rfl,_,hw⟩:=DataW.trod_int ht h;have hw:0<=n/\n<=255:=by
  simp only[Lit.wf,j9,decide_eq_true_eq] at hw;exact hw
 refine⟨UInt8.ofNat n.toNat,?_,trivial⟩;show[Value.int .u8 n]=[.int .u8 ((UInt8.ofNat n.toNat).toNat:Int)]
 rw[iX];congr 2;omega
theorem rd_bool{P:Program}{t:TypeId}(ht:P.underlying t=some .bool):RdF P t Bool okT:=by
 intro H enc w base sp held fuel cs x h;obtain⟨b,rfl,_⟩:=DataW.trod_bool ht h;exact⟨b,rfl,trivial⟩
theorem tR{α:Type}(p:Nat->α->Prop):∀n:Nat,(∀i,i<n->∃a,p i a)->∃l:List α,l.length=n/\∀i a,l[i]?=some a->p i a:=by
 intro n
 induction n with
 | zero => intro _; exact ⟨[], rfl, by simp⟩
 | succ n ih =>
  intro h;obtain⟨l,hl,hp⟩:=ih (λi hi=>h i (by omega));obtain⟨a,ha⟩:=h n (by omega);refine⟨l++[a],by simp[hl],λi b hb=>?_⟩;by_cases hi:i<n
  ·rw[iK (by omega)] at hb;exact hp i b hb
  ·rw[fY (by omega)] at hb
   have:i-l.length=0:=by
    cases hk:i-l.length with
    | zero => rfl
    | succ k => rw [hk] at hb; simp at hb
   rw[this] at hb;simp at hb;subst hb;obtain rfl:i=n:=by omega
   exact ha
theorem open_sl{α:Type}[Flat α]{ok:World->α->Prop}{P:Program}{H:Type}{enc:TypeId×Value->H}{W:World}{base b0:Nat}{r:Reach}{t te:TypeId}{v:Value}{d:DataW H}{ps:List MemPlace}{sp:Nat->Bool}{held:Bool}
  (R:RdF P te α ok) (ht:P.underlying t=some (.slice te)) (hc:P.cellsOf te=Flat.sz α) (hval:Value.okWide P W r b0 t v) (hd:DataW.Trod enc P W base sp held t v d ps) :
  ∃l:List α,Sl W v l/\∀a∈l,ok W a:=by
 obtain⟨p0,len0,cap0,rfl⟩:=WideShapes.okWide_slice ht hval;obtain⟨fuel,hf⟩:=hd;rcases DataW.trod_slice ht hf with⟨hcs,_⟩|⟨a,len,cap,elems,rest,n,_,hcs,_,hb,hlc,_,hlen,hel,_,_⟩
 ·simp only[Value.cells,pV,Value.slice.injEq,and_true] at hcs;obtain⟨rfl,rfl,rfl⟩:=hcs;exact⟨[],Sl.nil W 0,by simp⟩
 ·simp only[Value.cells,pV,Value.slice.injEq,and_true] at hcs;obtain⟨rfl,rfl,rfl⟩:=hcs;have hok:W.has P r b0 a te cap0:=by
   unfold Value.okWide at hval;rw[ht] at hval;simp only[Cell.okWide,Cell.ok,ht] at hval;exact hval.2.2
  obtain⟨_,hspot,row,cells,hshape,_⟩:=hok;obtain⟨ab,ao,asp⟩:=a;simp only at hspot hshape;subst hspot;obtain⟨c,fr,hblk⟩:∃c fr,W.heap[ab]?=some (.cells c row fr):=by
   unfold World.shape? at hshape
   split at hshape
   ·rename_i c elem fr hb'
    simp only[oF,lC] at hshape;exact⟨c,fr,by rw[hb',hshape.1]⟩
   ·cases hshape
  obtain⟨l,hl,hp⟩:=tR (α:=α) (λi a=>W.cells? base ((⟨ab,ao,none⟩:Addr).add (i*P.cellsOf te)) (P.cellsOf te)=some (Flat.enc a)/\ok W a) len0 (λi hi=>by
   have h:=hel i hi;obtain⟨y,hy⟩:∃y,elems[i]?=some y:=⟨elems[i],bM (by omega)⟩
   rw[hy] at h;obtain⟨cs,h1,h2⟩:=Option.bind_eq_some_iff.1 h;obtain⟨a,rfl,ha⟩:=R h2;exact⟨a,h1,ha⟩)
  refine⟨l,⟨some ⟨ab,ao,none⟩,cap0,by rw[hl],by omega,⟨rfl,c,row,fr,hblk,?_⟩⟩,λa ha=>?_⟩
  ·intro j x hx;have hpos:0<Flat.sz α:=by
    rcases Nat.eq_zero_or_pos (Flat.sz α) with h0|h0
    ·have hj:=(List.getElem?_eq_some_iff.1 hx).1;rw[aV,h0] at hj;omega
    ·exact h0
   have hj:=(List.getElem?_eq_some_iff.1 hx).1;rw[aV] at hj;have hjd:j=j / Flat.sz α*Flat.sz α+j % Flat.sz α:=by rw[oH];exact(Nat.div_add_mod j _).symm
   have hi:j / Flat.sz α<l.length:=Nat.div_lt_of_lt_mul (by rw[oH];exact hj);have hm:j % Flat.sz α<Flat.sz α:=qM _ hpos;have hli:l[j / Flat.sz α]?=some l[j / Flat.sz α]:=bM hi;rw[hjd,s9 l hli _ hm] at hx;obtain⟨h1,_⟩:=hp _ _ hli;rw[hc] at h1;obtain⟨_,_,hcell⟩:=World.cells?_some h1
   have:=(hcell (j % Flat.sz α) hm).trans hx
   rw[eD,eD] at this;simp only[World.cell?,hblk] at this;rw[hjd]
   simpa [Nat.add_assoc] using this
  ·obtain⟨i,hi,rfl⟩:=List.mem_iff_getElem.1 ha;exact(hp i _ (bM hi)).2
abbrev j8:={ v:Value // ∃p n c,v=.slice p n c }
instance:Flat j8:=⟨1,λv=>[v.1],λ_=>rfl,λv x h=>by
 simp only[gh] at h;subst h;obtain⟨v,p,n,c,rfl⟩:=v;rfl⟩
structure StepV where
 what:Int
 i:Int
 kek:UInt8
 key:UInt8
 power:Int
 ch:j8
instance:Flat StepV:=⟨6,λs=>[.int .i64 s.what,.int .i64 s.i,.int .u8 s.kek.toNat,.int .u8 s.key.toNat,.int .i64 s.power,s.ch.1],λ_=>rfl,λs x h=>by
 obtain⟨a,b,c,d,e,v,p,n,c',rfl⟩:=s;simp only[bZ,dD,or_false] at h;rcases h with rfl|rfl|rfl|rfl|rfl|rfl <;> rfl⟩
def step0:StepV:=⟨0,0,0,0,0,⟨.slice none 0 0,_,_,_,rfl⟩⟩
def okStep(w:World)(s:StepV):Prop:=okI w s.what/\okI w s.i/\okI w s.power/\∃l:List UInt8,SlE w s.ch.1 l
theorem Hq{α:Type}[Flat α]{ok:World->α->Prop}{P:Program}{H:Type}{enc:TypeId×Value->H}{W:World}{base b0 n:Nat}{r:Reach}{t te:TypeId}{v:Value}{d:DataW H}{ps:List MemPlace}{sp:Nat->Bool}{held:Bool}
  (R:RdF P te α ok) (ht:P.underlying t=some (.array n te)) (hc:P.cellsOf te=Flat.sz α) (hn:P.cellsOf t=n*Flat.sz α) (hval:Value.okWide P W r b0 t v) (hd:DataW.Trod enc P W base sp held t v d ps) :
  ∃l:List α,v=cy l/\l.length=n:=by
 have hv:∃cs,v=.agg cs/\cs.size=P.cellsOf t:=by
  unfold Value.okWide at hval;rw[ht] at hval;obtain⟨cs,h1,h2,_⟩:=hval;exact⟨cs,h1,h2⟩
 obtain⟨cs,rfl,hcs⟩:=hv;obtain⟨fuel,hf⟩:=hd;obtain⟨xs,m,rfl,_,hlen,hxl,hel⟩:=DataW.trod_array ht hf;simp only[Value.cells] at hlen hel;obtain⟨l,hl,hp⟩:=tR (α:=α) (λi a=>(cs.toList.drop (i*Flat.sz α)).take (Flat.sz α)=Flat.enc a) n (λi hi=>by
  have h:=hel i hi;obtain⟨y,hy⟩:∃y,xs[i]?=some y:=⟨xs[i],bM (by omega)⟩
  rw[hy,hc] at h;obtain⟨a,ha,_⟩:=R h;exact⟨a,ha⟩)
 refine⟨l,?_,hl⟩;show Value.agg cs=.agg (bl l).toArray;congr 1;apply Array.ext';simp only;apply lS;intro j;rcases Nat.eq_zero_or_pos (Flat.sz α) with h0|hpos
 ·rw[nN (by rw[hlen,hn,h0];omega),nN (by rw[aV,h0];omega)]
 ·by_cases hj:j<n*Flat.sz α
  ·have hjd:j=j / Flat.sz α*Flat.sz α+j % Flat.sz α:=by rw[oH];exact(Nat.div_add_mod j _).symm
   have hi:j / Flat.sz α<l.length:=Nat.div_lt_of_lt_mul (by rw[oH,hl];exact hj);have hm:j % Flat.sz α<Flat.sz α:=qM _ hpos;have hli:l[j / Flat.sz α]?=some l[j / Flat.sz α]:=bM hi;rw[hjd,s9 l hli _ hm,<-hp _ _ hli,ki,if_pos hm,kZ]
  ·rw[nN (by rw[hlen,hn];omega),nN (by rw[aV,hl];omega)]
theorem open_u8{P:Program}{H:Type}{enc:TypeId×Value->H}{W:World}{base b0:Nat}{r:Reach}{t:TypeId}{v:Value}{d:DataW H}{ps:List MemPlace}{sp:Nat->Bool}{held:Bool}
  (ht:P.underlying t=some (.int .u8)) (hval:Value.okWide P W r b0 t v) (hd:DataW.Trod enc P W base sp held t v d ps):∃a:UInt8,v=.int .u8 a.toNat:=by
 obtain⟨n,rfl,_,_,hw⟩:=open_int ht hval hd;have hw:0<=n/\n<=255:=by
  simp only[Lit.wf,j9,decide_eq_true_eq] at hw;exact hw
 refine⟨UInt8.ofNat n.toNat,?_⟩;rw[iX];congr 1;omega
theorem arr_of{args:Array Value}{l:List Value}(h:args.toList=l):args=l.toArray:=by subst h;rfl
end Go.Sac
namespace Go.Sac
open Go
structure MPg where
 used:Bool
 fresh:Bool
 written:Bool
 was:Bool
 b:List UInt8
deriving DecidableEq
instance:Flat MPg:=⟨5,λp=>[.bool p.used,.bool p.fresh,.bool p.written,.bool p.was,str p.b],λ_=>rfl,λs x h=>by
 simp only[bZ,dD,or_false] at h;rcases h with rfl|rfl|rfl|rfl|rfl <;> rfl⟩
def pg0:MPg:=⟨false,false,false,false,[]⟩
structure Mdl where
 p:List MPg
 old:List MPg
 root:UInt32
 oldRoot:UInt32
 txt:List UInt8
 oldTxt:List UInt8
def Mdl.zero(n:Nat):Mdl:=⟨List.replicate n pg0,List.replicate n pg0,0,0,[],[]⟩
def mdC(M:Mdl)(pv ov:Value):List Value:=[pv,ov,.int .u32 M.root.toNat,.int .u32 M.oldRoot.toNat,str M.txt,str M.oldTxt]
def MF(mb:Nat)(pv ov:Value):List Nat:=mb::(ay pv++ay ov)
structure MAt(w:World)(mb:Nat)(pv ov:Value)(M:Mdl):Prop where
 blk:Blk w mb (mdC M pv ov)
 p:Own w pv M.p
 old:Own w ov M.old
 np:mb∉ay pv
 no:mb∉ay ov
 apart:∀x∈ay pv,x∉ay ov
section
variable {w w':World}{mb:Nat}{pv ov:Value}{M:Mdl}
theorem MAt.chg{S:List Nat}(h:MAt w mb pv ov M)(hm:Chg S w w')(hn:∀x∈MF mb pv ov,x∉S):MAt w' mb pv ov M :=
 ⟨h.blk.chg hm (hn mb (by simp[MF])),h.p.mod hm (λx hx=>hn x (by simp[MF,hx])),h.old.mod hm (λx hx=>hn x (by simp[MF,hx])),h.np,h.no,h.apart⟩
theorem MAt.chg0(h:MAt w mb pv ov M)(hm:Chg [] w w'):MAt w' mb pv ov M:=h.chg hm (by simp)
theorem MAt.lt(h:MAt w mb pv ov M):∀x∈MF mb pv ov,x<w.heap.size:=by
 intro x hx;simp only[MF,bZ,fX] at hx;rcases hx with rfl|hx|hx
 ·exact h.blk.lt
 ·exact h.p.sl.lt x hx
 ·exact h.old.sl.lt x hx
end
def k39:List UInt8:=0::0::0::9::List.replicate 28 0
def upU(i:Nat):PgF:=λj=>decide (j.toNat<i)
theorem mz{α:Type}[DecidableEq α]:∀l m:List α,l.Nodup->(∀x∈l,x∈m)->l.length<=m.length
 | [], _, _, _ => eh _
 | a :: l, m, hn, h => by
  have hn':=List.nodup_cons.1 hn;have h1:=mz l (m.erase a) hn'.2 (λx hx=>(List.mem_erase_of_ne (λe=>by subst e;exact hn'.1 hx)).2 (h x (bN _ hx)));have hm:=h a cM;have h2:=List.length_pos_of_mem hm;rw[List.length_erase_of_mem hm] at h1;rw[cg];omega
structure Ext(n:Nat)(P P':Pg)(V V':UInt32->Bs)(made:List UInt32):Prop where
 used:P'.now.used=λx=>made.elem x||P.now.used x
 writ:P'.now.written=λx=>made.elem x||P.now.written x
 new:∀x∈made,P.free x=true/\x.toNat<n
 nodup:made.Nodup
 kept:P'.kept=P.kept
 at_:P'.at_=P.at_
 old:∀x,P.now.written x=true->V' x=V x
section
variable {n:Nat}{P P' P'':Pg}{V V' V'':UInt32->Bs}{made more:List UInt32}
theorem Ext.refl(n:Nat)(P:Pg)(V:UInt32->Bs):Ext n P P V V [] :=
 ⟨by funext x;rfl,by funext x;rfl,λx h=>by simp at h,kG,rfl,rfl,λ_ _=>rfl⟩
theorem Ext.trans(h:Ext n P P' V V' made)(h':Ext n P' P'' V' V'' more):Ext n P P'' V V'' (made++more):=by
 have hfree:∀x,P'.free x=true->P.free x=true/\x∉made:=λx hx=>by
  unfold Pg.free at hx ⊢;rw[h.used,h.kept] at hx;simp only[j9,xK,Bool.or_eq_false_iff] at hx;refine⟨by rw[hx.1.2,hx.2];rfl,λhm=>?_⟩;rw[yX hm] at hx;exact absurd hx.1.1 (by simp)
 refine⟨?_,?_,λx hx=>?_,?_,h'.kept.trans h.kept,h'.at_.trans h.at_,λx hx=>?_⟩
 ·rw[h'.used,h.used];funext x
  have:(made++more).elem x=(made.elem x||more.elem x):=by simp
  show(more.elem x||(made.elem x||_))=_;rw[this,Bool.or_assoc,Bool.or_left_comm]
 ·rw[h'.writ,h.writ];funext x
  have:(made++more).elem x=(made.elem x||more.elem x):=by simp
  show(more.elem x||(made.elem x||_))=_;rw[this,Bool.or_assoc,Bool.or_left_comm]
 ·rcases List.mem_append.1 hx with hx|hx
  ·exact h.new x hx
  ·exact⟨(hfree x (h'.new x hx).1).1,(h'.new x hx).2⟩
 ·rw[kh];exact⟨h.nodup,h'.nodup,λa ha b hb e=>by subst e;exact(hfree a (h'.new a hb).1).2 ha⟩
 ·rw[h'.old x (by rw[h.writ];simp only[hx,Bool.or_true]),h.old x hx]
theorem Ext.one{i:UInt32}{l:Bs}{cnt:UInt32}{g:UInt32->Option UInt64}(hf:P.free i=true)(hi:i.toNat<n)(hw:P.now.written i=false) :
  Ext n P { P with count:=cnt,now:={ P.now with used:=eX P.now.used i,written:=eX P.now.written i },gens:=g } V (xg V i l) [i]:=by
 refine⟨?_,?_,λx hx=>?_,List.nodup_cons.2 ⟨by simp,kG⟩,rfl,rfl,λx hx=>?_⟩
 ·funext x
  show(decide (x=i)||P.now.used x)=_;simp
 ·funext x
  show(decide (x=i)||P.now.written x)=_;simp
 ·rw[gh] at hx;subst hx;exact⟨hf,hi⟩
 ·unfold xg;rw[if_neg (λe=>by subst e;rw[hw] at hx;cases hx)]
theorem Ext.mem(h:Ext n P P' V V' made){x:UInt32}(hx:x∈made):P'.now.used x=true/\P'.now.written x=true:=by
 rw[h.used,h.writ];have h0:=yX hx;exact⟨by show(made.elem x||_)=true;rw[h0];rfl,by show(made.elem x||_)=true;rw[h0];rfl⟩
theorem Ext.wr(h:Ext n P P' V V' made){x:UInt32}(hx:P.now.written x=true):P'.now.written x=true:=by rw[h.writ];simp[hx]
theorem Ext.us(h:Ext n P P' V V' made){x:UInt32}(hx:P.now.used x=true):P'.now.used x=true:=by rw[h.used];simp[hx]
theorem Ext.free(h:Ext n P P' V V' made){x:UInt32}:P'.free x=true↔P.free x=true/\x∉made:=by
 rw[free_iff,free_iff,h.used,h.kept];simp only[Bool.or_eq_false_iff]
 constructor
 ·rintro⟨⟨h1,h2⟩,h3⟩;exact⟨⟨h2,h3⟩,λhm=>by rw[yX hm] at h1;cases h1⟩
 ·rintro⟨⟨h1,h2⟩,h3⟩;exact⟨⟨by simpa [List.elem_eq_mem] using h3,h1⟩,h2⟩
theorem Ext.fresh(h:Ext n P P' V V' made){x:UInt32}:P'.fresh x=true↔x∈made∨P.fresh x=true:=by
 rw[fresh_iff,fresh_iff,h.used,h.kept]
 constructor
 ·rintro⟨h1,h2⟩;simp only[mR] at h1;rcases h1 with h1|h1
  ·exact .inl (List.mem_of_elem_eq_true h1)
  ·exact .inr ⟨h1,h2⟩
 ·rintro(h1|⟨h1,h2⟩)
  ·exact⟨by show(made.elem x||_)=true;rw[yX h1];rfl,(free_iff.1 (h.new x h1).1).2⟩
  ·exact⟨by simp[h1],h2⟩
theorem Ext.undo(h:Ext n P P' V V' made)(hw:∀x,P.now.written x=true->P.now.used x=true)(hu:P''.now.used=λx => !made.elem x&&P'.now.used x)(hwr:P''.now.written=λx => !made.elem x&&P'.now.written x)(hk:P''.kept=P'.kept)(ha:P''.at_=P'.at_):Ext n P P'' V V' []:=by
 have hm:∀x,made.elem x=true->P.now.used x=false:=λx hx=>(free_iff.1 (h.new x (List.mem_of_elem_eq_true hx)).1).1;refine⟨?_,?_,λx hx=>by simp at hx,kG,hk.trans h.kept,ha.trans h.at_,h.old⟩
 ·rw[hu,h.used];funext x;show(!made.elem x&&(made.elem x||P.now.used x))=P.now.used x;cases hx:made.elem x with
  | false => rfl
  | true => rw [hm x hx]; rfl
 ·rw[hwr,h.writ];funext x;show(!made.elem x&&(made.elem x||P.now.written x))=P.now.written x;cases hx:made.elem x with
  | false => rfl
  | true =>
   cases hq:P.now.written x with
   | false => rfl
   | true => have h1 := hm x hx; rw [hw x hq] at h1; cases h1
theorem Ext.room(h:Ext n P P' V V' made)(hn:n<=400)(h0:∀j,j<n->P'.free (UInt32.ofNat j)=false):fQ P n<=made.length:=by
 have hsub:∀i∈(List.range n).filter (λi=>P.free (UInt32.ofNat i)),i∈made.map (·.toNat):=λi hi=>by
  rw[uI,uH] at hi;have h1:=h0 i hi.1;by_cases hm:UInt32.ofNat i∈made
  ·refine List.mem_map.2 ⟨_,hm,?_⟩;rw[fL];omega
  ·rw[h.free.2 ⟨hi.2,hm⟩] at h1;cases h1
 have hnd:((List.range n).filter λi=>P.free (UInt32.ofNat i)).Nodup:=List.nodup_range.filter _
 have:=mz _ _ hnd hsub
 rwa [dr] at this
end
structure Sp where
 lo:Bs
 hi:Bs
 fin:Bool
def Sp.has(s:Sp)(k:Bs):Bool := !ltB k s.lo&&(!s.fin||ltB k s.hi)
def Sp.emp(s:Sp):Bool:=s.fin && !ltB s.lo s.hi
def Sp.kid(s:Sp)(ks:List Bs)(i:Nat):Sp :=
 let lo:=if 0<i then AY s.lo (ks.getD (i-1) []) else s.lo
 if i<ks.length/\(s.fin=false∨ltB (ks.getD i []) s.hi=true) then ⟨lo,ks.getD i [],true⟩ else ⟨lo,s.hi,s.fin⟩
def fP(s:Sp)(m:List Pr):List Pr:=m.filter λp=>s.has p.1
theorem maxB_le{a b k:Bs}(h1:ltB k a=false)(h2:ltB k b=false):ltB k (AY a b)=false:=by
 unfold AY;split <;> assumption
theorem Sp.kid_has{s:Sp}{ks:List Bs}{i:Nat}{k:Bs}(h:s.has k=true)(h1:0<i->ltB k (ks.getD (i-1) [])=false)(h2:i<ks.length->ltB k (ks.getD i [])=true):(s.kid ks i).has k=true:=by
 unfold Sp.has at h;simp only[j9,xK,mR] at h;have hlo:ltB k (if 0<i then AY s.lo (ks.getD (i-1) []) else s.lo)=false:=by
  split
  ·rename_i hi;exact maxB_le h.1 (h1 hi)
  ·exact h.1
 unfold Sp.kid;simp only
 split
 ·rename_i hc
  unfold Sp.has;simp only[hlo,h2 hc.1,sE,j4,Bool.or_true]
 ·unfold Sp.has;simp only[hlo,sE,j4,mR,xK];exact h.2
theorem Sp.emp_has{s:Sp}{k:Bs}(h:s.emp=true):s.has k=false:=by
 unfold Sp.emp at h;simp only[j9,xK] at h;cases hh:s.has k with
 | false => rfl
 | true =>
  unfold Sp.has at hh;rw[h.1] at hh;simp only[j9,xK,Bool.not_true,qH] at hh;rw[qq hh.1 hh.2] at h;cases h.2
theorem GR{s:Sp}{m:List Pr}(h:∀p∈m,s.has p.1=false):fP s m=[]:=ke h
theorem rz(s:Sp)(a b:List Pr):fP s (a++b)=fP s a++fP s b:=pU ..
theorem xY{α:Type}(o a b:List α)(k:Nat):o++a.take (k-o.length)++b.take (k-(o++a.take (k-o.length)).length)=o++(a++b).take (k-o.length):=by
 rw[bP,List.take_append,aF,bz];congr 2;congr 1;omega
theorem xZ{α:Type}(o a:List α)(k:Nat)(h:k<=o.length):o++a.take (k-o.length)=o:=by
 rw[Nat.sub_eq_zero_of_le h,mQ,cE]
theorem Seps.kid{x:List Pr}:∀{ks:List Bs} {ms:List (List Pr)} {i:Nat},Seps ks ms->ms[i]?=some x->(∀j,j<i->∀p∈x,ltB p.1 (ks.getD j [])=false)/\(i<ks.length->∀p∈x,ltB p.1 (ks.getD i [])=true)
 | [], [m], i, _, hx => by
  cases i with
  | zero => exact ⟨λj hj => by omega, λh => by simp at h⟩
  | succ i => simp at hx
 | [], [], _, h, _ => h.elim
 | [], _ :: _ :: _, _, h, _ => h.elim
 | _ :: _, [], _, h, _ => h.elim
 | k :: ks, m :: ms, 0, h, hx => by
  have hx:m=x:=qK hx;subst hx;exact⟨λj hj=>by omega,λ_ p hp=>h.1 p hp⟩
 | k :: ks, m :: ms, i + 1, h, hx => by
  have hx:ms[i]?=some x:=hx;obtain⟨q1,q2⟩:=Seps.kid h.2.2 hx;refine⟨λj hj p hp=>?_,λhi p hp=>q2 (by simpa using hi) p hp⟩;cases j with
  | zero => exact h.2.1 p (List.mem_flatten.2 ⟨x, j1 hx, hp⟩)
  | succ j => exact q1 j (by omega) p hp
theorem Seps.keys_lo{k:Bs}:∀{ks:List Bs} {ms:List (List Pr)},Seps ks ms->(∀m∈ms,m≠[])->Below ms.flatten k->∀c∈ks,ltB c k=true
 | [], _, _, _, _ => λc hc => by simp at hc
 | _ :: _, [], h, _, _ => h.elim
 | c :: ks, m :: ms, h, hn, hb => λx hx => by
  rw[hG,Below.app] at hb;have hn':∀m∈ms,m≠[]:=λm hm=>hn m (bN _ hm);rcases List.mem_cons.1 hx with rfl|hx
  ·cases ms with
   | nil => exact absurd h.2.2.len (by simp)
   | cons m' ms =>
    obtain⟨p,hp⟩:=yW _ (hn' m' cM);have hp':p∈(m'::ms).flatten:=by rw[hG];exact cL _ hp
    exact qq (h.2.1 p hp') (hb.2 p hp')
  ·exact Seps.keys_lo h.2.2 hn' hb.2 x hx
theorem Seps.keys_hi{k:Bs}:∀{ks:List Bs} {ms:List (List Pr)},Seps ks ms->(∀m∈ms,m≠[])->Above ms.flatten k->∀c∈ks,ltB k c=true
 | [], _, _, _, _ => λc hc => by simp at hc
 | _ :: _, [], h, _, _ => h.elim
 | c :: ks, m :: ms, h, hn, hb => λx hx => by
  rw[hG,Above.app] at hb;rcases List.mem_cons.1 hx with rfl|hx
  ·obtain⟨p,hp⟩:=yW _ (hn m cM);exact qq (hb.1 p hp) (h.1 p hp)
  ·exact Seps.keys_hi h.2.2 (λm hm=>hn m (bN _ hm)) hb.2 x hx
theorem KidsT.some{V:UInt32->Bs}{d:Nat}{ts:List Kd}(h:KidsT V d ts):∀m∈msT ts,m≠[]:=λm hm=>by
 obtain⟨t,ht,rfl⟩:=List.mem_map.1 hm;exact(h t ht).2
theorem CT.join{V:UInt32->Bs}{d:Nat}{k1 k2:List Bs}{i1 i2 p1 p2:List UInt32}{m1 m2:List Pr}{k:Bs}(h1:CT V (d+1) (.br k1 i1) p1 m1)(h2:CT V (d+1) (.br k2 i2) p2 m2)(hb:Below m1 k)(ha:Above m2 k)(hk:mD k) :
  CT V (d+1) (.br (k1++k::k2) (i1++i2)) (p1++p2) (m1++m2):=by
 obtain⟨t1,rfl,o1,rfl,rfl,s1,q1⟩:=h1;obtain⟨t2,rfl,o2,rfl,rfl,s2,q2⟩:=h2;have hb':Below (msT t1).flatten k:=by rw[ln];exact hb
 have ha':Above (msT t2).flatten k:=by rw[ln];exact ha
 have hlo:=s1.keys_lo q1.some hb';have hhi:=s2.keys_hi q2.some ha';refine⟨t1++t2,(iw _ _).symm,⟨λc hc=>?_,?_⟩,(eO _ _).symm,(g9 _ _).symm,by rw[gG];exact Seps.join s2 ha' s1 hb' hlo,KidsT.app.2 ⟨q1,q2⟩⟩
 ·rcases List.mem_append.1 hc with hc|hc
  ·exact o1.1 c hc
  ·rcases List.mem_cons.1 hc with rfl|hc
   ·exact hk
   ·exact o2.1 c hc
 ·unfold kE;rw[oL];refine⟨o1.2,List.pairwise_cons.2 ⟨hhi,o2.2⟩,λa hA b hB=>?_⟩;rcases List.mem_cons.1 hB with rfl|hB
  ·exact hlo a hA
  ·exact ff (hlo a hA) (hhi b hB)
theorem Hole.nbr{V:UInt32->Bs}{d:Nat}{K1 K2:List Bs}{A B:List Kd}{m:List Pr}(h:Hole V (d+1) K1 K2 A B m)(hne:K1++K2≠[]) :
  ∃(z:Bool) (L1:List Bs) (k:Bs) (L2:List Bs) (C D:List Kd) (t:Kd),K1++K2=L1++k::L2/\C.length=L1.length/\mD k/\isT V (d+1) t.1 t.2.1 t.2.2/\t.2.2≠[]/\(∀x∈t.2.1,x∈pgT A++pgT B)/\(A.length=0↔z=true)/\A.length=C.length+(!z).toNat /\
   (∀i0:UInt32,∃l r,bs A++i0::bs B=bs C++l::r::bs D/\(bif z then r else l)=t.1) /\
   ∀(kk:List Bs) (ik pk:List UInt32) (ky:List Bs) (iy py:List UInt32),CT V (d+1) (.br kk ik) pk m->CT V (d+1) (.br ky iy) py t.2.2->t.2.1=t.1::py->∃mm pp,
    CT V (d+1) (.br ((bif z then kk else ky)++k::(bif z then ky else kk)) ((bif z then ik else iy)++(bif z then iy else ik))) pp mm/\Hole V (d+1) L1 L2 C D mm/\prT C++(mm++prT D)=prT A++(m++prT B)/\(pgT C++(pp++pgT D)++[t.1]).Perm (pgT A++(pk++pgT B)):=by
 have hA:A=[]∨∃C t,A=C++[t]:=by
  cases hA:A with
  | nil => exact .inl rfl
  | cons a l => exact .inr ⟨_, _, (yY (List.cons_ne_nil a l)).symm⟩
 rcases hA with rfl|⟨C,t,rfl⟩
 ·have hl:=h.la;cases K1 with
  | cons => simp at hl
  | nil =>
   cases K2 with
   | nil => exact absurd rfl hne
   | cons k L2 =>
    have hb:=h.lb;cases B with
    | nil => simp at hb
    | cons t D =>
     have hs:Seps (k::L2) (m::t.2.2::msT D):=h.seps;have hk:=h.keys.1 k (by simp);have hq:=KidsT.cons.1 h.kb;have hab:Above t.2.2 k:=λp hp=>hs.2.1 p (by rw[hG];exact cL _ hp);refine⟨true,[],k,L2,[],D,t,rfl,rfl,hk,hq.1.1,hq.1.2,λx hx=>by rw[eM];simp[hx],by simp,rfl,λi0=>⟨i0,t.1,rfl,rfl⟩,λkk ik pk ky iy py h1 h2 hp=>⟨m++t.2.2,pk++py,h1.join h2 hs.1 hab hk,h.mergeR,by rw[fT];simp,?_⟩⟩;rw[eM,hp,oK];intro x;simp only[sD,uQ,uP];omega
 ·have hl:=h.la;rw[aF,gB] at hl;have hn1:K1≠[]:=λe=>by rw[e] at hl;simp at hl
  obtain⟨L1,k,rfl⟩:∃L1 k,K1=L1++[k]:=⟨K1.dropLast,K1.getLast hn1,(yY hn1).symm⟩
  rw[aF,gB] at hl;have hs:=h.seps;rw[gG,bP,bP,gV] at hs;have hs2:Seps (k::K2) (t.2.2::m::msT B):=Seps.drop (by rw[msT,dr];omega) hs;have hk:=h.keys.1 k (by simp);have hq:=KidsT.cons.1 (KidsT.app.1 h.ka).2;have hab:Above m k:=λp hp=>hs2.2.1 p (by rw[hG];exact cL _ hp);refine⟨false,L1,k,K2,C,B,t,by simp,by omega,hk,hq.1.1,hq.1.2,λx hx=>by rw[eO,eM];simp[hx],by simp,by simp,λi0=>⟨t.1,i0,by rw[iw];simp[bs],rfl⟩,λkk ik pk ky iy py h1 h2 hp=>⟨t.2.2++m,py++pk,h2.join h1 hs2.1 hab hk,h.mergeL,by rw[g9,fT];simp[prT],?_⟩⟩;rw[eO,eM,hp,oK];intro x;simp only[sD,uQ,uP,pgT,yU];omega
end Go.Sac
