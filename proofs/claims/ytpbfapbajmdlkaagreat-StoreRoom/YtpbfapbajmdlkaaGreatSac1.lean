/- As long as there is the room that the page says nothing is refused for want of it; on a small disk what is refused changes nothing. It holds for every input; there are no conditions. -/
import Derived.Test.YtpbfapbajmdlkaaGreatSac0
import Derived.Shelf.SlIterI.Nil
import Derived.Shelf.SortM.Plain
import Derived.Shelf.SortM.SortNone
import Derived.Shelf.SlMaps.Clone
import Derived.Laws.Externs
import Derived.Lib.Bytealg
import Derived.ProofKit
import Derived.OpenShut
import Derived.Lib.SlKeysI
import Derived.RangeFuncGives
import Derived.Maps.RangeWalk
import Derived.Maps.Keyed
namespace Go.Sac
open Go
def Blk(w:World)(b:Nat)(cs:List Value):Prop:=∃e,w.heap[b]?=some (.cells cs.toArray e (0,0))
section
variable {w w':World}{b:Nat}{cs:List Value}{S:List Nat}
theorem Blk.chg(h:Blk w b cs)(hm:Chg S w w')(hn:b∉S):Blk w' b cs:=by
 obtain⟨e,h⟩:=h;exact⟨e,hm.blk h hn⟩
theorem Blk.chg0(h:Blk w b cs)(hm:Chg [] w w'):Blk w' b cs:=h.chg hm (by simp)
theorem Blk.nb{c:Nat}(h:Blk w b cs)(hm:Chg [c] w w')(hn:b≠c):Blk w' b cs:=h.chg hm (by simpa using hn)
theorem Blk.heap(h:Blk w b cs)(hh:Hp w' w):Blk w' b cs:=h.chg0 (Chg.heap hh)
theorem Blk.lt(h:Blk w b cs):b<w.heap.size:=by
 obtain⟨e,h⟩:=h;exact cJ h
theorem Blk.c(h:Blk w b cs){off:Nat}{v:Value}(hv:cs[off]?=some v):w.cell? ⟨b,off,none⟩=some v:=by
 obtain⟨e,h⟩:=h;exact cell_of h (by simpa using hv)
theorem Blk.at(h:Blk w b cs){off:Nat}{l:List Value}(hl:(cs.drop off).take l.length=l):At w b off l:=by
 obtain⟨e,h⟩:=h;exact At.of_blk' h (by simpa using hl)
theorem Arr.blk{α:Type}[Flat α]{l:List α}(h:Arr w b l):Blk w b (bq l):=h
variable {P:Program}{E:Env}{ty t:TypeId}{x y:Operand}
theorem Gp{d:TypeDesc}{i:TypeInfo}{off:Nat}(l:List Value)(ht:P.underlying t=some d)(hd:iz d=true)(hi:P.info? t=some i)(hx:ev E x=.pointer (some ⟨b,off,none⟩))(h:Blk w b cs)(hl:(cs.drop off).take l.length=l)(hs:i.size=l.length) :
  exec P E (.load t x) ty w=.ok (.value (.agg l.toArray)) w:=cN ht hd hi hx (h.at hl) hs
theorem yc(c:List Value)(off:Nat)(vs:List Value)(h:off+vs.length<=c.length):gr c.toArray off vs=(spl c off vs).toArray:=by
 apply Ge;intro j;rw[iX _ _ _ _ (by simpa using h)];simp only[spl,mO];by_cases h1:j<off
 ·rw[if_neg (by omega),bQ,iO (by rw[bz];omega),ld,if_pos h1]
 ·by_cases h2:j<off+vs.length
  ·rw[if_pos (by omega),iO (by rw[aF,bz];omega),g0 (by rw[bz];omega),bz,eC (by omega)]
  ·rw[if_neg (by omega),g0 (by rw[aF,bz];omega),aF,bz,lV,eC (by omega)];congr 1;omega
theorem cK{i:TypeInfo}{off:Nat}{v:Value}{l cs':List Value}(hi:P.info? t=some i)(hx:ev E x=.pointer (some ⟨b,off,none⟩))(hy:ev E y=v)(hb:Blk w b cs)(hv:v.cells.toList=l)(hs:i.size=l.length)(ho:off+l.length<=cs.length)(hc:∀q∈l,fM q=true)(hr:spl cs off l=cs') :
  ∃w1,exec P E (.store t x y) ty w=.ok .skip w1/\Blk w1 b cs'/\Chg [b] w w1/\w1.heap.size=w.heap.size:=by
 obtain⟨e,hb⟩:=hb;subst hv hr;have hsz:v.cells.size=v.cells.toList.length:=by simp
 have h1:=uu (ty:=ty) hi hx hy (by rw[hsz,hs]) hb (by rw[hsz,oK];exact ho) (je _) hc;refine⟨_,h1,⟨e,?_⟩,Chg.set _ _ _,dW _ _ _⟩;rw[eG (cJ hb),yc _ _ _ ho]
theorem bJ{i:TypeInfo}{off:Nat}{v:Value}{cs':List Value}(hi:P.info? t=some i)(hx:ev E x=.pointer (some ⟨b,off,none⟩))(hy:ev E y=v)(hb:Blk w b cs)(hv:v.cells.toList=[v])(hs:i.size=1)(ho:off<cs.length)(hc:fM v=true)(hr:spl cs off [v]=cs') :
  ∃w1,exec P E (.store t x y) ty w=.ok .skip w1/\Blk w1 b cs'/\Chg [b] w w1/\w1.heap.size=w.heap.size :=
 cK hi hx hy hb hv hs (by simp only[gC];omega) (by simpa using hc) hr
theorem dy{i:TypeInfo}{z:Value}{l:List Value}(hi:P.info? t=some i)(hz:i.zero=some z)(hl:z.cells=l.toArray) :
  ∃v w1,exec P E (.alloc t) ty w=.ok (.value v) w1/\∃b,v=.pointer (some ⟨b,0,none⟩)/\w.heap.size<=b/\Blk w1 b l/\Chg [] w w1/\b<w1.heap.size :=
 ⟨_,_,zr hi hz,_,rfl,aN _,⟨t,by rw[<-hl];exact fU _ _⟩,Chg.push _ _,by rw[ga];omega⟩
theorem df{v:Value}{l:List Value}(hx:ev E x=v)(hl:v.cells=l.toArray) :
  ∃v w1,exec P E (.box t x) ty w=.ok (.value v) w1/\∃b,v=.pointer (some ⟨b,0,none⟩)/\w.heap.size<=b/\Blk w1 b l/\Chg [] w w1/\b<w1.heap.size :=
 ⟨_,_,x_box hx,_,rfl,aN _,⟨t,by rw[<-hl];exact fU _ _⟩,Chg.push _ _,by rw[ga];omega⟩
theorem ei{place:Nat->Option (Nat×Nat)}{cs cs':List Value}(h:cs=cs'):Instr.fill place cs.toArray []=some cs'.toArray:=by subst h;rfl
theorem bR{place:Nat->Option (Nat×Nat)}{cs l:List Value}{i off size:Nat}{v:Value}{rest:List (Nat×Value)}{r:Option (Array Value)}(hp:place i=some (off,size))(hv:v.cells.toList=l)(hl:l.length=size)(ho:off+size<=cs.length)
  (h:Instr.fill place (spl cs off l).toArray rest=r):Instr.fill place cs.toArray ((i,v)::rest)=r:=by
 subst hv;have hsz:v.cells.size=size:=by rw[<-hl];simp
 rw[yA hp hsz (by simpa using ho),yc _ _ _ (by rw[hl];exact ho),h]
theorem bW{fs:List Field}{i:TypeInfo}{z:Value}{ps:List (Nat×Operand)}{cs zs:List Value}(ht:P.underlying t=some (.struct fs.toArray))(hi:P.info? t=some i)(hz:i.zero=some z)(hzs:z.cells=zs.toArray)(hfs:fs.all (λf=>(P.info? f.type).isSome)=true)
  (hf:Instr.fill ((fs.map λf=>(f.offset,P.cellsOf f.type)).toArray[·]?) zs.toArray (ps.map λp=>(p.1,ev E p.2))=some cs.toArray):exec P E (.build t ps.toArray) ty w=.ok (.value (.agg cs.toArray)) w:=by
 refine Gu ht hi hz hfs ?_;rw[uK,zg,hzs];exact hf
theorem In.nil{S:List Nat}{n l c:Nat}:In (.slice none l c) S n:=λb hb=>by simp[ay] at hb
theorem zp{α:Type}[Flat α](vs:List Value)(l:List α){e:TypeId}{i:TypeInfo}{z:Value}{n:Nat}{ps:List (Nat×Operand)}(ht:P.underlying t=some (.slice e))(hi:P.info? e=some i)(hz:i.zero=some z)(hsz:i.size=Flat.sz α)(hzs:z.cells.size=Flat.sz α)
  (hps:(ps.map λp=>(p.1,ev E p.2))=vs.zipIdx.map λx=>(x.2,x.1)) (hv:vs.map (λv=>v.cells.toList)=l.map Flat.enc) (hn:l.length=n) (hb:n*Flat.sz α<=16777216) :
  ∃v' w',exec P E (.buildSlice t n ps.toArray) ty w=.ok (.value v') w'/\Own w' v' l/\Chg [] w w'/\In v' [] w.heap.size:=by
 obtain⟨v',h1,h2,h3⟩:=qX (ty:=ty) (w:=w) (ps:=ps.toArray) vs l ht hi hz hsz hzs (by rw[uK,zg];exact hps) hv hn hb;exact⟨v',_,h1,h2,Chg.push _ _,h3⟩
theorem Own.form{α:Type}[Flat α]{w:World}{v:Value}{l:List α}(h:Own w v l){n:Nat}(hn:l.length=n):∃p c,v=.slice p n c:=by
 obtain⟨p,c,rfl,_⟩:=h;exact⟨p,c,by rw[hn]⟩
theorem Sl.form{α:Type}[Flat α]{w:World}{v:Value}{l:List α}(h:Sl w v l){n:Nat}(hn:l.length=n):∃p c,v=.slice p n c:=by
 obtain⟨p,c,rfl,_⟩:=h;exact⟨p,c,by rw[hn]⟩
theorem Sl.srcH{α:Type}[Flat α]{P:Program}{w w':World}{v:Value}{l:List α}(h:Sl w v l)(hh:Hp w' w):Src α P w' v l:=(h.heap hh).src
theorem nblk{b a off l c:Nat}{sp:Option Nat}(h:b≠a):b∉ay (.slice (some ⟨a,off,sp⟩) l c):=by
 simpa [ay] using h
theorem In.of_ge{a off l c n:Nat}{sp:Option Nat}{S:List Nat}(h:n<=a):In (.slice (some ⟨a,off,sp⟩) l c) S n:=λb hb=>by
 simp only[ay,gk] at hb;subst hb;exact .inr h
theorem bI{P:Program}{n:Nat}{Q:jj}{E:Env}{w:World}{c:Operand}{x y:Code}{p:Prop}[d:Decidable p](hc:ev E c=.bool (decide p))(hp:p)(h:wpE P n x Q E w):wpE P n (.cond c x y) Q E w :=
 aB hc (λ_=>h) (λh'=>absurd hp h')
theorem aL{P:Program}{n:Nat}{Q:jj}{E:Env}{w:World}{c:Operand}{x y:Code}{p:Prop}[d:Decidable p](hc:ev E c=.bool (decide p))(hp:¬p)(h:wpE P n y Q E w):wpE P n (.cond c x y) Q E w :=
 aB hc (λh'=>absurd h' hp) (λ_=>h)
theorem Appended.step{α:Type}[Flat α]{vx v':Value}{l m:List α}{w w1 w2:World}(h:Appended vx l m w1 v' w2)(hc:Chg [] w w1)(hi:In vx [] w.heap.size):Own w2 v' (l++m)/\Chg [] w w2/\In v' [] w.heap.size :=
 ⟨h.own,hc.t0 h.mod hi.ge,h.inn.mono (λb hb=>.inr (hi.ge b hb)) hc.1⟩
theorem Own.some{α:Type}[Flat α]{w:World}{v:Value}{l:List α}(h:Own w v l){n:Nat}(hn:l.length=n)(hp:0<n):∃b off c,v=.slice (.some ⟨b,off,none⟩) n c:=by
 obtain⟨p,c,rfl,_,h⟩:=h;cases p with
 | none => obtain ⟨rfl, _⟩ := h; simp at hn; omega
 | some a =>
  obtain⟨b,off,sp⟩:=a;obtain⟨h1,_⟩:=h;simp only at h1;subst h1;exact⟨b,off,c,by rw[hn]⟩
theorem bE{P:Program}{E:Env}{op:Op}{ty:TypeId}{w:World}{v v':Value}(h:exec P E op ty w=.ok (.value v) w)(hv:v=v'):exec P E op ty w=.ok (.value v') w:=by rw[h,hv]
theorem nb1{l:List Nat}{b:Nat}(h:b∉l):∀x∈l,x∉[b]:=λx hx he=>by
 simp only[gk] at he;subst he;exact h hx
theorem DV{a m m' r:List Value}{k:Nat}(h:m'.length=m.length)(hk:k=a.length):spl (a++m++r) k m'=a++m'++r:=by
 subst hk;unfold spl;rw[bQ a m r,cR,h,<-bQ,<-aF,et]
 ·rfl
 ·rfl
end
theorem EW{m m' r:List Value}(h:m'.length=m.length):spl (m++r) 0 m'=m'++r:=by
 have:=DV (a:=[]) (r:=r) h rfl
 simpa using this
theorem GU{a r:List Value}{x x':Value}{k:Nat}(hk:k=a.length):spl (a++x::r) k [x']=a++x'::r:=by
 have:=DV (a:=a) (m:=[x]) (m':=[x']) (r:=r) rfl hk
 simpa using this
theorem kM{α:Type}{a r m:List α}{k j:Nat}(hk:k=a.length)(hj:j=m.length):spl (a++r) k m=a++m++r.drop j:=by
 subst hk hj;unfold spl;rw[cR,BX]
 ·congr 1;simp
 ·rfl
theorem Ik{a r:List Value}{k i:Nat}{v:Value}(hk:k=a.length+i)(h:r[i]?=some v):(a++r)[k]?=some v:=by
 subst hk;rw[g0 (by omega),Nat.add_sub_cancel_left];exact h
theorem mN{a r:List Value}:((a++r).drop 0).take a.length=a:=by simp
theorem Own.clip{α:Type}[Flat α]{w:World}{p:Option Addr}{n c:Nat}{l:List α}(h:Own w (.slice p n c) l):Own w (.slice p n n) l:=by
 obtain⟨p',cap,he,hlc,h⟩:=h;simp only[Value.slice.injEq] at he;obtain⟨rfl,rfl,rfl⟩:=he;refine⟨p,l.length,rfl,aN _,?_⟩;cases p with
 | none => exact ⟨h.1, by rw [h.1]; rfl⟩
 | some a =>
  obtain⟨h1,cs,e,fr,h2,h3,h4,h5⟩:=h;refine⟨h1,cs,e,fr,h2,h3,?_,h5⟩
  have:l.length*Flat.sz α<=c*Flat.sz α:=eB _ hlc
  omega
section
variable {α:Type}[Flat α]{P:Program}{E:Env}{w:World}{ty t t' u:TypeId}{x lo hi mx:Operand}
theorem x_clip{e:TypeId}{i:TypeInfo}{p:Option Addr}{c:Nat}{l:List α}{k k':IntKind}(ht:P.underlying t=some (.slice e))(hi':P.info? e=some i)(hx:ev E x=.slice p l.length c)(hs:Own w (.slice p l.length c) l)(hl:ev E hi=.int k l.length)(hm:ev E mx=.int k' l.length)(hc:l.length<=c) :
  ∃v',(∀w',exec P E (.slice t x none (some hi) (some mx)) ty w'=.ok (.value v') w')/\Own w v' l/\ay v'=ay (.slice p l.length c):=by
 refine⟨_,λw'=>xQ ht hi' hx hl hm (by omega) (by omega),?_,?_⟩
 ·have:=hs.clip
  cases p with
  | none => simpa using this
  | some a =>
   obtain⟨ab,ao,asp⟩:=a;have h1:asp=none:=by
    obtain⟨p',cap,he,hlc,h⟩:=id this;simp only[Value.slice.injEq] at he;obtain⟨rfl,-,-⟩:=he;exact h.1
   subst h1;have hadd:(⟨ab,ao,none⟩:Addr).add 0=⟨ab,ao,none⟩:=by rw[eI,qR]
   simpa [hadd] using this
 ·cases p with
  | none => simp [ay]
  | some a => rw [ph (p := some a) (l := l.length) (c := c) add_blk.symm]
theorem x_fromO(n:Nat){e:TypeId}{i:TypeInfo}{v:Value}{l:List α}{k:IntKind}{j:Int}(ht:P.underlying t=some (.slice e))(hi:P.info? e=some i)(hsz:i.size=Flat.sz α)(hs:Own w v l)(hx:ev E x=v)(hl:ev E lo=.int k j)(hn:j=n)(hj:n<=l.length) :
  ∃v',(∀w',exec P E (.slice t x (some lo) none none) ty w'=.ok (.value v') w')/\(∃p c,v'=.slice p (l.length-n) c)/\Own w v' (l.drop n)/\ay v'=ay v:=by
 subst hn;obtain⟨p,cap,rfl,hlc,h⟩:=id hs;refine⟨_,λw'=>qW ht hi hx hl (by omega),⟨_,_,rfl⟩,?_,?_⟩
 ·have:=hs.cut_lo (lo:=n) hj
  rw[hsz];simpa using this
 ·rw[ph (p:=p) (l:=l.length) (c:=cap) add_blk.symm]
theorem vj{i:TypeInfo}{z:Value}(l0:List α)(hi:P.info? t=some i)(hz:i.zero=some z)(hl:z.cells=(bq l0).toArray) :
  ∃v w1,exec P E (.alloc t) ty w=.ok (.value v) w1/\∃b,v=.pointer (some ⟨b,0,none⟩)/\w.heap.size<=b/\Arr w1 b l0/\Chg [] w w1/\b<w1.heap.size :=
 ⟨_,_,zr hi hz,_,rfl,aN _,⟨t,by rw[<-hl];exact fU _ _⟩,Chg.push _ _,by rw[ga];omega⟩
theorem DP{y:Operand}{e:TypeId}{i:TypeInfo}{z:Value}{d:TypeDesc}{vx vy:Value}{l m:List α}(ht:P.underlying t=some (.slice e))(ht':P.underlying t'=some d)(hi:P.info? e=some i)(hd:d=.string∨∃e',d=.slice e')
  (hz:i.zero=some z) (hsz:i.size=Flat.sz α) (hzs:z.cells.size=Flat.sz α) (hby:i.bytes<=1024) (hl:Own w vx l) (hm:Src α P w vy m) (hx:ev E x=vx) (hy:ev E y=vy) (hb:l.length+m.length<=1073741824) :
  ∃v' w',exec P E (.call { callee:=.builtin .append,args:=#[x,y],argTypes:=#[t,t'] }) ty w=.ok (.value v') w'/\Appended vx l m w v' w':=vh ht ht' hd hi hz hsz hzs hby hx hy hl hm hb
theorem iE{a:Addr}{n c:Nat}{l:List UInt8}{e:TypeId}(ht:P.underlying t=some (.slice e))(he:P.underlying e=some (.int .u8))(hx:ev E x=.slice (some a) n c)(hs:Sl w (.slice (some a) n c) l) :
  ∃w',exec P E (.convert t t x) ty w=.ok (.value (.slice (some a) n c)) w'/\Sl w' (.slice (some a) n c) l/\Chg [a.block] w w'/\w'.heap.size=w.heap.size:=by
 obtain⟨p,cap,heq,hlc,hp⟩:=hs;simp only[Value.slice.injEq] at heq;obtain⟨rfl,rfl,rfl⟩:=heq;obtain⟨h1,cs,ee,fr,hb,hc⟩:=hp;obtain⟨ab,ao,asp⟩:=a;simp only at h1 hb hc;subst h1;have hsh:(shape ab).run P w=.ok (some (ee,cs.size)) w:=by
  show Result.ok (w.shape? ab) _=_;unfold World.shape?;rw[hb]
 have hmk:(markStringish ⟨ab,ao,none⟩).run P w=.ok () (w.freeze ⟨ab,cs.size,none⟩ 1):=by
  unfold markStringish;rw[au hsh];rfl
 refine⟨w.freeze ⟨ab,cs.size,none⟩ 1,?_,?_,?_,?_⟩
 ·rw[A5,hx];refine bh ?_;unfold convert;rw[au (run_underlying ht w),au (run_underlying ht w)];simp only[beq_self_eq_true];rw[au (run_underlying he w)];simp only[];rw[au hmk];rfl
 ·refine⟨_,_,rfl,hlc,rfl,cs,ee,if fr.1==fr.2 then (cs.size,cs.size+1) else (min fr.1 cs.size,max fr.2 (cs.size+1)),?_,hc⟩;unfold World.freeze;simp only[Nat.one_ne_zero,if_false];rw[Array.getElem?_modify,if_pos rfl,hb];obtain⟨lo,hi⟩:=fr;rfl
 ·refine⟨?_,λb' _ hn=>?_,rfl,rfl⟩
  ·simp[World.freeze]
  ·simp only[World.freeze,Nat.one_ne_zero,if_false];rw[Array.getElem?_modify,if_neg (by simpa [eq_comm] using hn)]
 ·simp[World.freeze]
theorem nT(κ:Type)[Key κ]:∃v w',exec P E (.makeMap t none) ty w=.ok (.value v) w'/\∃r,v=.map (some r)/\w.heap.size<=r/\MapAt w' r ([]:List (κ×Value))/\Chg [] w w'/\r<w'.heap.size :=
 ⟨_,_,EK,_,rfl,aN _,MapAt.new w,Chg.push _ _,by rw[ga];omega⟩
theorem n3(k:Nat){e:TypeId}{n b:Nat}{i:TypeInfo}{kd:IntKind}{j:Int}(ht:P.underlying t=some (.array n e))(hi':P.info? e=some i)(hx:ev E x=.pointer (some ⟨b,0,none⟩))(hl:ev E lo=.int kd j)(hj:j=k)(hk:k<n) :
  exec P E (.slice t x (some lo) none none) ty w=.ok (.value (.slice (some ⟨b,k*i.size,none⟩) (n-k) (n-k))) w:=by
 subst hj
 have:=Gw (ty:=ty) (w:=w) ht hi' hx hl (by omega)
 rw[jn,if_neg (by omega),jP] at this;exact this
theorem n1{y:Operand}{e:TypeId}{i:TypeInfo}{vx vy:Value}{l m:List α}(ht:P.underlying t=some (.slice e))(hi:P.info? e=some i)(hsz:i.size=Flat.sz α)(ho:Own w vx l)(hm:Src α P w vy m)(hl:0<l.length)(hx:ev E x=vx)(hy:ev E y=vy) :
  ∃w1,exec P E (.call { callee:=.builtin .copy,args:=#[x,y],argTypes:=#[t,t'] }) ty w=.ok (.value (.int .i64 (min m.length l.length:Nat))) w1/\Own w1 vx (spl l 0 (m.take (min m.length l.length)))/\Chg (ay vx) w w1/\w1.heap.size=w.heap.size:=by
 obtain⟨p,cap,rfl,hlc,hp⟩:=ho;cases p with
 | none => obtain ⟨rfl, _⟩ := hp; simp at hl
 | some a =>
  obtain⟨b,off,sp⟩:=a;obtain⟨h1,c,ee,fr,h2,h3,h4,h5⟩:=hp;simp only at h1 h2 h4 h5;subst h1;have hroom:off+l.length*Flat.sz α<=c.size:=by
   have:l.length*Flat.sz α<=cap*Flat.sz α:=eB _ hlc
   omega
  have hx':=Cg (t':=t') (ty:=ty) ht hi hsz hx hy hm h2 h3 hroom;have hml:(m.take (min m.length l.length)).length=min m.length l.length:=by rw[bz];omega
  have hsl:(spl l 0 (m.take (min m.length l.length))).length=l.length:=spl_len (by rw[hml];omega);have hel:(bq (m.take (min m.length l.length))).length<=l.length*Flat.sz α:=by
   rw[aV,hml];exact eB _ (by omega)
  refine⟨_,hx',⟨some ⟨b,off,none⟩,cap,by rw[hsl],by rw[hsl];exact hlc,rfl,_,ee,fr,eG (cJ h2),h3.size (dc _ _ _),by rw[dc];exact h4,?_⟩,(Chg.set _ _ _).mono (λx hx _=>by simpa [ay] using hx),dW _ _ _⟩;intro j z hj;show(gr c off (bq (m.take (min m.length l.length))))[off+j]?=some z;rw[iX _ _ _ _ (by omega)];have hsp:bq (spl l 0 (m.take (min m.length l.length)))=bq (m.take (min m.length l.length))++(bq l).drop ((bq (m.take (min m.length l.length))).length):=by
   rw[spl,mW,dK,dT,<-fj,aV,jP]
  rw[hsp] at hj;by_cases hlt:j<(bq (m.take (min m.length l.length))).length
  ·rw[iO hlt] at hj;rw[if_pos (by omega),show off+j-off=j from by omega];exact hj
  ·rw[g0 (by omega),lV] at hj;rw[if_neg (by omega)];exact h5 j z (by rw[<-hj];congr 1;omega)
theorem DM{f:FuncId}{c:Operand}{v:Value}(hc:ev E c=v):exec P E (.makeFunc (.func f) #[] #[c]) ty w=.ok (.value (.func (.func f) #[] #[v])) w:=by
 subst hc;have h:exec P E (.makeFunc (.func f) #[] #[c]) ty w=(kf (Instr.makeFunc (.func f) ((#[]:Array Operand).map (ev E)) (#[c].map (ev E)))).run P w:=rfl;rw[h];simp only[uK,eZ,uL];rfl
theorem r8(k:Nat){e:TypeId}{n b:Nat}{i:TypeInfo}{kd:IntKind}{j:Int}(ht:P.underlying t=some (.array n e))(hi':P.info? e=some i)(hx:ev E x=.pointer (some ⟨b,0,none⟩))(hl:ev E hi=.int kd j)(hj:j=k)(hk:k<=n) :
  exec P E (.slice t x none (some hi) none) ty w=.ok (.value (.slice (some ⟨b,0,none⟩) k n)) w:=by
 subst hj
 have:=Gx (ty:=ty) (w:=w) ht hi' hx hl (by omega)
 rw[jn] at this;exact this
theorem uX{b off:Nat}{l:List α}(n:Nat){dd:TypeDesc}{i:TypeInfo}(ht:P.underlying t=some dd)(hd:iz dd=true)(hi:P.info? t=some i)(hs:i.size=n*Flat.sz α)(h:At w b off (bq l))(hn:l.length=n)(hx:ev E x=.pointer (some ⟨b,off,none⟩)) :
  exec P E (.load t x) ty w=.ok (.value (cI l)) w:=cN ht hd hi hx h (by rw[hs,aV,hn])
end
section
variable {κ:Type}[Key κ]{P:Program}{n:Nat}{ops:Array Oper}{Q:jj}{E:Env}{w:World}{rest:List Oper}{d:Option Nat}{ty:TypeId}{x:Operand}{pos:String}{af:Array Edge}
theorem mi{q r:Nat}{m left:List (κ×Value)}(hd:ea d n=true)(h:IterAt w q r m left)(hx:ev E x=.pointer (some ⟨q,0,none⟩))
  (h0:left=[]->wpL P n ops Q rest (dM d (.tuple #[.bool false]) E) w)
  (h1:∀a k v b w',left=a++(k,v)::b->IterAt w' q r m (a++b)->CurAt w' q r k v->Chg [q] w w'->w'.heap.size=w.heap.size->wpL P n ops Q rest (dM d (.tuple #[.bool true,Key.enc k,v]) E) w') :
  wpL P n ops Q (⟨d,.next x false,ty,pos,af,none⟩::rest) E w:=by
 rcases x_next (P:=P) (ty:=ty) hx h with⟨k1,k2⟩|⟨a,k,v,b,w',k1,k2,k3,k4,k5,k6⟩
 ·exact a7 hd k2 (h0 k1)
 ·exact a7 hd k2 (h1 a k v b w' k1 k3 k4 k5 k6)
end
section
variable {α:Type}[Flat α]{P:Program}{n:Nat}{ops:Array Oper}{Q:jj}{E:Env}{w:World}{T:jD}{i:Nat}{p:Plan}{d:Option Nat}{ty t:TypeId}{x:Operand}{pos:String}{af:Array Edge}{g:Option (Nat×Bool)}
theorem lk{dd:TypeDesc}{nf:TypeInfo}{b off:Nat}{l:List α}(k:Nat)(ho:ops[i]?=some ⟨d,.load t x,ty,pos,af,g⟩)(hd:ea d n=true)(hw:cX ops E ⟨d,.load t x,ty,pos,af,g⟩=true)(ht:P.underlying t=some dd)(ha:iz dd=true)(hi:P.info? t=some nf)
  (hs:nf.size=k*Flat.sz α) (hc:At w b off (bq l)) (hn:l.length=k) (hx:ev E x=.pointer (some ⟨b,off,none⟩)) (h:wpP P n ops Q p ((i,λw'=>At w' b off (bq l))::T) (dM d (cI l) E) w):wpP P n ops Q (.read i p) T E w :=
 dI ho hd hw (λw'=>At w' b off (bq l)) hc (λ_ h1=>uX k ht ha hi hs h1 hn hx) h
end
end Go.Sac
section
namespace Go.Sac
open Go
abbrev Sec:={ l:List UInt8 // l.length=64 }
instance:Flat Sec:=⟨64,λs=>bq s.1,λs=>by rw[aV,s.2];rfl,λs=>gy s.1⟩
def sec0:Sec:=⟨List.replicate 64 0,rfl⟩
instance:Inhabited Sec:=⟨sec0⟩
structure DSt where
 steps:Nat
 offAt:Nat
 kept:List Sec
 pend:List (Int×Sec)
def gq(m:List (Int×Sec)):List (Int×Value):=m.map λp=>(p.1,cI p.2.1)
def DiskAt(w:World)(b:Nat)(kv:Value)(r:Nat)(s:DSt):Prop :=
 Blk w b [.int .i64 s.steps,.int .i64 s.offAt,kv,.map (some r)]/\Own w kv s.kept/\MapAt w r (gq s.pend)/\b≠r/\b∉ay kv/\r∉ay kv
def DF(b:Nat)(kv:Value)(r:Nat):List Nat:=b::r::ay kv
theorem DiskAt.chg{w w':World}{b r:Nat}{kv:Value}{s:DSt}{S:List Nat}(h:DiskAt w b kv r s)(hm:Chg S w w')(hn:∀x∈DF b kv r,x∉S):DiskAt w' b kv r s:=by
 obtain⟨h1,h2,h3,h4⟩:=h;exact⟨h1.chg hm (hn b (by simp[DF])),h2.mod hm (λx hx=>hn x (by simp[DF,hx])),h3.mod hm (hn r (by simp[DF])),h4⟩
theorem DiskAt.chg0{w w':World}{b r:Nat}{kv:Value}{s:DSt}(h:DiskAt w b kv r s)(hm:Chg [] w w'):DiskAt w' b kv r s:=h.chg hm (by simp)
theorem DiskAt.lt{w:World}{b r:Nat}{kv:Value}{s:DSt}(h:DiskAt w b kv r s):∀x∈DF b kv r,x<w.heap.size:=by
 obtain⟨h1,h2,h3,h4⟩:=h;intro x hx;simp only[DF,bZ] at hx;rcases hx with rfl|rfl|hx
 ·exact h1.lt
 ·exact h3.lt
 ·exact h2.sl.lt x hx
namespace DSt
def off(s:DSt):Bool:=decide (0<s.offAt)&&decide (s.offAt<=s.steps)
def step(s:DSt):DSt:={ s with steps:=s.steps+1 }
def is(s:DSt)(i:Int):Bool:=decide (0<=i)&&decide (i<s.kept.length)
def now(s:DSt)(i:Int):Sec:=(cF i s.pend).getD (s.kept.getD i.toNat sec0)
def putS(c:Sec)(b:List UInt8):Sec:=⟨(b++c.1.drop b.length).take 64,by
 have:=c.2
 rw[bz,aF,bG];omega⟩
def write(s:DSt)(i:Int)(b:List UInt8):DSt×Int :=
 if s.step.off then (s.step,61)
 else if !s.is i||decide (64<b.length) then (s.step,60)
 else ({ s.step with pend:=dY i (putS (s.now i) b) s.pend },0)
def apply(k:List Sec)(m:List (Int×Sec)):List Sec:=k.mapIdx λi c=>(cF (i:Int) m).getD c
def flush(s:DSt):DSt×Int :=
 if s.step.off then (s.step,61) else ({ s.step with kept:=apply s.kept s.pend,pend:=[] },0)
def power(s:DSt)(n:Int):DSt :=
 if s.off then s else if n<=0 then { s with offAt:=0 } else { s with offAt:=s.steps+(min n 1099511627776).toNat }
structure Fine(s:DSt):Prop where
 steps:s.steps<=1000000000000
 offAt:s.offAt<=4000000000000
 keys:∀p∈s.pend,0<=p.1/\p.1<s.kept.length
 size:s.kept.length<=4000
end DSt
theorem wm(i:Int)(m:List (Int×Sec)):cF i (gq m)=(cF i m).map λc=>cI c.1:=by
 induction m with
 | nil => rfl
 | cons p m ih =>
  obtain⟨k,c⟩:=p;simp only[gq,eZ,cF];by_cases h:i=k
  ·simp[h]
  ·simp only[h,if_false];exact ih
theorem B0(i:Int)(c:Sec)(m:List (Int×Sec)):dY i (cI c.1) (gq m)=gq (dY i c m):=by
 induction m with
 | nil => rfl
 | cons p m ih =>
  obtain⟨k,c'⟩:=p;simp only[gq,eZ,dY];by_cases h:i=k
  ·simp[h]
  ·simp only[h,if_false,eZ];exact congrArg _ ih
theorem lookP(i:Int)(m:List (Int×Sec)):(Value.tuple #[(cF i (gq m)).getD (cI sec0.1),.bool (cF i (gq m)).isSome])=.tuple #[cI ((cF i m).getD sec0).1,.bool (cF i m).isSome]:=by
 rw[wm];cases cF i m <;> rfl
theorem HH(i:Int)(m:List (Int×Sec)):(cF i (gq m)).getD (cI sec0.1)=cI ((cF i m).getD sec0).1:=by
 rw[wm];cases cF i m <;> rfl
theorem x8{α:Type}(l m:List α):spl l 0 m=m++l.drop m.length:=by simp[spl]
theorem oW(c:Sec)(b:List UInt8)(h:b.length<=64):(DSt.putS c b).1=b++c.1.drop b.length:=by
 have:=c.2
 exact cd (by rw[aF,bG];omega)
theorem An(m:List (Int×Sec))(a b:List (Int×Value))(k:Int)(v:Value)(h:gq m=a++(k,v)::b):∃a' c b',m=a'++(k,c)::b'/\v=cI c.1/\a=gq a'/\b=gq b':=by
 unfold gq at h;obtain⟨a',m',rfl,ha,hm⟩:=List.map_eq_append_iff.1 h;obtain⟨p,b',rfl,hp,hb⟩:=List.map_eq_cons_iff.1 hm;obtain⟨k',c⟩:=p;simp only[lH] at hp;obtain⟨rfl,rfl⟩:=hp;exact⟨a',c,b',rfl,rfl,ha.symm,hb.symm⟩
theorem zt(a b:List (Int×Sec)):gq (a++b)=gq a++gq b:=by simp[gq]
theorem vr(m:List (Int×Sec)):(gq m).map (·.1)=m.map (·.1):=by simp[gq]
theorem sT{κ ν:Type}[DecidableEq κ]{k:κ}{m:List (κ×ν)}(h:k∉m.map (·.1)):cF k m=none:=by
 induction m with
 | nil => rfl
 | cons p m ih =>
  obtain⟨x,u⟩:=p;simp only[eZ,bZ,not_or] at h;simp only[cF,h.1,if_false];exact ih h.2
theorem fu{κ ν:Type}[DecidableEq κ]{k:κ}{v:ν}{m:List (κ×ν)}(hn:(m.map (·.1)).Nodup):cF k m=some v↔(k,v)∈m:=by
 induction m with
 | nil => simp [cF]
 | cons p m ih =>
  obtain⟨x,u⟩:=p;simp only[eZ,jE] at hn;simp only[cF,bZ,lH];by_cases h:k=x
  ·subst h;simp only[if_true,oH,true_and]
   constructor
   ·intro h;exact .inl h.symm
   ·rintro(h|h)
    ·exact h.symm
    ·exact absurd (List.mem_map.2 ⟨_,h,rfl⟩) hn.1
  ·simp only[h,if_false,false_and,false_or];exact ih hn.2
theorem Fp{κ ν:Type}[DecidableEq κ]{m m':List (κ×ν)}(hp:m.Perm m')(hn:(m.map (·.1)).Nodup)(k:κ):cF k m=cF k m':=by
 have hn':(m'.map (·.1)).Nodup:=(hp.map _).nodup_iff.1 hn;cases h:cF k m with
 | none =>
  cases h':cF k m' with
  | none => rfl
  | some v =>
   have:=(fu hn').1 h'
   rw[(fu hn).2 (hp.mem_iff.2 this)] at h;cases h
 | some v =>
  have:=(fu hn).1 h
  rw[(fu hn').2 (hp.mem_iff.1 this)]
theorem tR{κ ν:Type}[DecidableEq κ](k:κ)(a b:List (κ×ν)):cF k (a++b)=(cF k a).or (cF k b):=by
 induction a with
 | nil => rfl
 | cons p a ih =>
  obtain⟨x,u⟩:=p;simp only[BZ,cF];by_cases h:k=x
  ·simp[h]
  ·simp only[h,if_false];exact ih
theorem Dn{m m':List (Int×Sec)}(hp:m.Perm m')(hn:(m.map (·.1)).Nodup)(k:List Sec):DSt.apply k m=DSt.apply k m':=by
 unfold DSt.apply;congr 1;funext i c;rw[Fp hp hn]
theorem yL(k:List Sec):DSt.apply k []=k:=by
 unfold DSt.apply;apply mQ;intro i;rw[yU];cases k[i]? <;> rfl
theorem nB(k:List Sec)(m:List (Int×Sec)):(DSt.apply k m).length=k.length:=by simp[DSt.apply]
theorem wS(k:List Sec)(m:List (Int×Sec))(i:Int)(c:Sec)(hi:0<=i)(hn:i∉m.map (·.1)):DSt.apply k (m++[(i,c)])=(DSt.apply k m).set i.toNat c:=by
 apply mQ;intro j;unfold DSt.apply;rw[yU,yT];by_cases hj:i.toNat=j
 ·subst hj;rw[if_pos rfl,show((i.toNat:Nat):Int)=i from by omega];rw[tR,sT hn,List.length_mapIdx];by_cases hl:i.toNat<k.length
  ·rw[if_pos hl,bN hl];simp[cF]
  ·rw[if_neg hl,yV (by omega)];rfl
 ·rw[if_neg hj,yU]
  have:cF (j:Int) (m++[(i,c)])=cF (j:Int) m:=by
   rw[tR];have h2:¬((j:Int)=i):=by omega
   simp[cF,h2]
  rw[this]
def jC(c:UInt8):Nat:=if c=255 then 64 else c.toNat % 64
theorem Ap(c:UInt8):jC c<=64:=by unfold jC;split <;> omega
def lO(was now:Sec)(c:UInt8):Sec:=⟨now.1.take (jC c)++was.1.drop (jC c),by
 have h1:=was.2;have h2:=now.2
 have:=Ap c
 rw[aF,bz,bG];omega⟩
def imageOf(k:List Sec):List UInt8:=k.flatMap (·.1)
theorem CS{ν:Type}(k:Int)(v:ν)(m:List (Int×ν)):∀p∈dY k v m,p.1=k∨∃q∈m,q.1=p.1:=by
 induction m with
 | nil => intro p hp; simp [dY] at hp; subst hp; exact .inl O
 | cons q m ih =>
  obtain⟨x,u⟩:=q;intro p hp;simp only[dY] at hp;by_cases h:k=x
  ·rw[if_pos h] at hp;rcases List.mem_cons.1 hp with rfl|hp
   ·exact .inl h.symm
   ·exact .inr ⟨p,by simp[hp],rfl⟩
  ·rw[if_neg h] at hp;rcases List.mem_cons.1 hp with rfl|hp
   ·exact .inr ⟨_,by simp,rfl⟩
   ·rcases ih p hp with h1|⟨q,hq,h1⟩
    ·exact .inl h1
    ·exact .inr ⟨q,by simp[hq],h1⟩
theorem DSt.Fine.write{s:DSt}(h:s.Fine)(hs:s.steps+1<=1000000000000)(i:Int)(l:List UInt8):(s.write i l).1.Fine:=by
 obtain⟨h1,h2,h3,h4⟩:=h;have h0:s.step.Fine:=⟨hs,h2,h3,h4⟩
 unfold DSt.write
 split
 ·exact h0
 ·split
  ·exact h0
  ·rename_i hi
   have his:s.is i=true:=by simp at hi;exact hi.1
   have:0<=i/\i<s.kept.length:=by simpa [DSt.is] using his
   refine⟨hs,h2,λp hp=>?_,h4⟩;rcases CS _ _ _ p hp with h|⟨q,hq,h⟩
   ·rw[h];exact this
   ·rw[<-h];exact h3 q hq
theorem DSt.Fine.flush{s:DSt}(h:s.Fine)(hs:s.steps+1<=1000000000000):s.flush.1.Fine:=by
 obtain⟨h1,h2,h3,h4⟩:=h;unfold DSt.flush
 split
 ·exact⟨hs,h2,h3,h4⟩
 ·exact⟨hs,h2,λp hp=>by simp at hp,by show(DSt.apply _ _).length<=4000;rw[nB];exact h4⟩
theorem DSt.write_steps(s:DSt)(i:Int)(l:List UInt8):(s.write i l).1.steps=s.steps+1:=by
 unfold DSt.write;split
 ·rfl
 ·split <;> rfl
theorem DSt.flush_steps(s:DSt):s.flush.1.steps=s.steps+1:=by unfold DSt.flush;split <;> rfl
theorem DSt.write_kept(s:DSt)(i:Int)(l:List UInt8):(s.write i l).1.kept=s.kept:=by
 unfold DSt.write;split
 ·rfl
 ·split <;> rfl
theorem DSt.flush_len(s:DSt):s.flush.1.kept.length=s.kept.length:=by
 unfold DSt.flush;split
 ·rfl
 ·exact nB _ _
theorem DSt.is_iff{s:DSt}{i:Int}:s.is i=true↔0<=i/\i<s.kept.length:=by simp[DSt.is]
theorem DiskAt.turn{w w':World}{b r:Nat}{kv:Value}{s s':DSt}(h:DiskAt w b kv r s)(hb:Blk w' b [.int .i64 s'.steps,.int .i64 s'.offAt,kv,.map (some r)])(hm:Chg [b] w w')(hk:s'.kept=s.kept)(hp:s'.pend=s.pend):DiskAt w' b kv r s':=by
 obtain⟨h1,h2,h3,h4,h5,h6⟩:=h;exact⟨hb,by rw[hk];exact h2.mod hm (nb1 h5),by rw[hp];exact h3.mod hm (by simpa using Ne.symm h4),h4,h5,h6⟩
theorem qG{b r:Nat}{kv:Value}{w w':World}(h:Chg [b] w w'):Chg (DF b kv r) w w':=h.mono (λx hx _=>by simp at hx;subst hx;simp[DF])
def mA(l:List Int):List Int:=l.mergeSort (λx y=>decide (x<=y))
def ja(m:List (Int×Sec)):List Int->List UInt8->List Sec->List Sec
 | [], _, k => k
 | i :: is, ch, k => ja m is (ch.drop 1) (k.set i.toNat (lO (k.getD i.toNat sec0) ((cF i m).getD sec0) (ch.headD 0)))
def DSt.crash(s:DSt)(ch:List UInt8):DSt:=⟨s.steps,0,ja s.pend (mA (s.pend.map (·.1))) ch s.kept,[]⟩
theorem pU(m:List (Int×Sec))(is:List Int)(ch:List UInt8)(k:List Sec):(ja m is ch k).length=k.length:=by
 induction is generalizing ch k with
 | nil => rfl
 | cons i is ih => rw [ja, ih, gV]
end Go.Sac

end
namespace Go.Sac
open Go Go.Maps Go.Proofs Go.Shelf
theorem AR{P:Program}{kt:TypeId}{w:World}{r:Nat}{m:List (Int×Value)}(hk:P.underlying kt=some (.int .i64))(hm:MapAt w r m)
  (hr:∀p∈m,-9223372036854775808<=p.1/\p.1<9223372036854775808) (hl:m.length<=maxLen) :
  ∃D0:DataW Unit,w.ownsMap P kt (λ_=>some (.lit (.bool true),[])) r m.length D0/\(intKeys D0).Perm (m.map (·.1))/\Maps.size D0=m.length:=by
 obtain⟨es,cl,hb,he,hn,hbn,hlt⟩:=hm;have hlen:es.size=m.length:=by have:=congrArg List.length he;simpa using this
 have hkey:∀a:Int,-9223372036854775808<=a/\a<9223372036854775808->keyOf P kt (.int .i64 a)=some (.int .i64 a):=λa ha=>by
  unfold keyOf;rw[hk];simp only[mapKey,hk];have h1:IntKind.i64.min = -9223372036854775808:=by decide
  have h2:IntKind.i64.max=9223372036854775807:=by decide
  have hw:(Lit.int .i64 a).wf=true:=by
   simp only[Lit.wf,jW,decide_eq_true_eq,h1,h2];omega
  simp[hw]
 have hes:∀x∈es.toList,∃a:Int,x.key=.int .i64 a /\ -9223372036854775808<=a/\a<9223372036854775808:=λx hx=>by
  have h1:(x.key,x.val)∈es.toList.map (λe=>(e.key,e.val)):=List.mem_map.2 ⟨x,hx,rfl⟩;rw[he] at h1;obtain⟨p,hp,h2⟩:=List.mem_map.1 h1;simp only[lH] at h2;exact⟨p.1,h2.1.symm,hr p hp⟩
 have hF:WideElems.Fit P kt (λ_=>some ((.lit (.bool true):DataW Unit),[])) es cl:=by
  refine⟨by omega,⟨hlt,hbn,?_⟩,λx hx=>?_⟩
  ·rw[oZ he];unfold List.Nodup at hn ⊢;rw[ur];exact hn.imp (λh e=>h (Key.inj _ _ e))
  ·obtain⟨a,ha,har⟩:=hes x hx;exact⟨(.int .i64 a,.lit (.bool true)),by simp[WideElems.rd,ha,hkey a har]⟩
 refine⟨_,⟨es,cl,hb,hF,by omega,rfl⟩,?_,?_⟩
 ·have hp:=(Go.WideShapes.sorted_perm (es.toList.map (WideElems.rg P kt (λ_=>some ((.lit (.bool true):DataW Unit),[]))))).map (λp=>intOf p.1);refine hp.trans (List.Perm.of_eq ?_);rw[fL];have h3:es.toList.map ((λp:Lit×DataW Unit=>intOf p.1) ∘ WideElems.rg P kt (λ_=>some ((.lit (.bool true):DataW Unit),[])))=es.toList.map (λe=>match e.key with|.int _ a=>a|_=>0):=by
   apply sw;intro x hx;obtain⟨a,ha,har⟩:=hes x hx;simp[WideElems.rg,WideElems.rd,ha,hkey a har,intOf]
  rw[h3];have h4:es.toList.map (λe=>match e.key with|.int _ a=>a|_=>0)=(es.toList.map (λe=>(e.key,e.val))).map (λp=>match p.1 with|.int _ a=>a|_=>0):=by
   rw[fL];rfl
  rw[h4,he,fL];apply sw;intro p _;rfl
 ·simp[Maps.size,length_sorted,hlen]
theorem CN{w:World}{base:Nat}{e:TypeId}{v:Value}{l:List Int}(h:w.ownsRow base e 1 v l.length (l.map encZ)):Own w v l/\In v [] base:=by
 obtain⟨_,h⟩:=h;have he:bq l=l.map encZ:=Bp encZ (λ_=>rfl) l;rcases h with⟨rfl,h0⟩|⟨g,cap,cur,rfl,hb,hblk,hn,hcap,hcs,hx⟩
 ·have:l=[]:=kq h0
  subst this;exact⟨Own.nil w,In.nil⟩
 ·refine⟨⟨some ⟨g,0,none⟩,cap,rfl,hn,rfl,cur,e,(0,0),hblk,je _,?_,λi x hi=>?_⟩,In.of_ge hb⟩
  ·show 0+cap*1<=cur.size;omega
  ·rw[he,<-hx] at hi;have h1:=ld (l:=cur.toList) (i:=l.length*1) (j:=i);rw[h1] at hi
   split at hi
   ·simp only[jP]
    simpa using hi
   ·cases hi
theorem Av{P:Program}{ρk ρs:Ren}(Lk:SlLaysZI.n7 P ρk)(Ls:SlLaysZI.n6 P ρs)(sorts:∀m,AnyZI.SortsIn P ρs Fence.wide m)
  (e9:∀args w,(callFunc (ρs.f 9) args).run P w=.ok (.enter (ρs.f 9) args) w) (eg:∀args w,(callFunc (ρk.f 10) args).run P w=.ok (.enter (ρk.f 10) args) w)
  (hk:P.underlying (ρk.t 26)=some (.int .i64)) (w:World) (q r:Nat) (m:List (Int×Value)) (hB:Blk w q [.map (some r)]) (hm:MapAt w r m)
  (hr:∀p∈m,-9223372036854775808<=p.1/\p.1<9223372036854775808) (hl:m.length<=1000000) :
  Ret P (ρs.f 6) #[.func (.func (ρk.f 10)) #[] #[.pointer (some ⟨q,0,none⟩)]] w λv w'=>Own w' v (mA (m.map (·.1)))/\Chg [] w w'/\In v [] w.heap.size:=by
 obtain⟨D0,hown,hperm,hsz⟩:=AR hk hm hr (by unfold maxLen;omega);have hseq:SeqGives Fence.wide 2 P (ρk.f 10) #[.pointer (some ⟨q,0,none⟩)] encZ (λss=>ss.Perm (intKeys D0)) (Maps.size D0) w :=
  AnyZI.keys_gives (ρ:=ρk) { Lk with } Fence.wide _ trivial rfl (by omega) q r m.length D0 _ hB.lt (hB.c O) hown
 have cS:=AnyZI.sorted_in Ls Fence.wide 5 trivial trivial trivial trivial rfl (by omega) (sorts _) e9 (ρk.f 10) #[.pointer (some ⟨q,0,none⟩)] trivial eg _ _ (by rw[hsz];unfold maxLen;omega) (by omega) _ hseq;refine Calls.mono (callsIn_wide.1 cS) ?_;rintro e w' ⟨v,ss,rfl,hS,hrow,hnil,hb⟩;refine⟨v,rfl,?_⟩;have hss:ss.mergeSort (λx y=>decide (x<=y))=mA (m.map (·.1)):=mergeSort_of_perm_i (hS.trans hperm);have hlen:ss.length=(mA (m.map (·.1))).length:=by rw[<-hss,(yS ss _).length_eq]
 rw[hss,hlen] at hrow;obtain⟨h1,h2⟩:=CN hrow;exact⟨h1,⟨hb.size,λb hb' _=>hb.block b hb',hb.os,hb.output⟩,h2⟩
end Go.Sac
namespace Go.Sac
open Go
theorem drw(w:World):Chg [] w { w with drawn:=w.drawn+1 }:=Chg.heap rfl
theorem x5(z:Value)(n:Nat):Builtin.zeroCells #[z] n=(List.replicate n z).toArray:=by
 unfold Builtin.zeroCells;apply Array.ext
 ·simp
 ·intro i h1 h2;simp[Nat.mod_one]
section
variable {P:Program}{E:Env}{w:World}{ty t t':TypeId}{x y:Operand}
theorem DO{α:Type}[Flat α](vs:List Value)(l:List α){e:TypeId}{i:TypeInfo}{z:Value}{n:Nat}{ps:List (Nat×Operand)}(ht:P.underlying t=some (.slice e))(hi:P.info? e=some i)(hz:i.zero=some z)(hsz:i.size=Flat.sz α)(hzs:z.cells.size=Flat.sz α)
  (hps:(ps.map λp=>(p.1,ev E p.2))=vs.zipIdx.map λx=>(x.2,x.1)) (hv:vs.map (λv=>v.cells.toList)=l.map Flat.enc) (hn:l.length=n) (hb:n*Flat.sz α<=16777216) :
  ∃v' w',exec P E (.buildSlice t n ps.toArray) ty w=.ok (.value v') w'/\(∃p c,v'=.slice p n c)/\Own w' v' l/\Chg [] w w'/\In v' [] w.heap.size:=by
 obtain⟨v',w',h1,h2,h3,h4⟩:=zp (ty:=ty) (w:=w) vs l ht hi hz hsz hzs hps hv hn hb;exact⟨v',w',h1,h2.form hn,h2,h3,h4⟩
def SubOf(α:Type)[Flat α](v v':Value)(k n:Nat):Prop:=∃b off c,v=.slice (some ⟨b,off,none⟩) n c/\v'=.slice (some ⟨b,off+k*Flat.sz α,none⟩) (n-k) (c-k)
theorem gZ{α:Type}[Flat α](k:Nat){lo:Operand}{e:TypeId}{i:TypeInfo}{v:Value}{l:List α}{kd:IntKind}{j:Int}(ht:P.underlying t=some (.slice e))(hi:P.info? e=some i)(hsz:i.size=Flat.sz α)(ho:Own w v l)(hx:ev E x=v)(hl:ev E lo=.int kd j)(hj:j=k)(hk:k<l.length) :
  ∃v',(∀w',exec P E (.slice t x (some lo) none none) ty w'=.ok (.value v') w')/\SubOf α v v' k l.length:=by
 subst hj;obtain⟨p,c,rfl,hlc,hp⟩:=ho;cases p with
 | none => obtain ⟨rfl, _⟩ := hp; simp at hk
 | some a =>
  obtain⟨b,off,sp⟩:=a;obtain⟨h1,_⟩:=hp;simp only at h1;subst h1;refine⟨_,λw'=>qW ht hi hx hl (by omega),b,off,c,rfl,?_⟩;rw[jn,if_neg (by omega),hsz];simp only[zc,eI]
theorem dU{α:Type}[Flat α]{e:TypeId}{i:TypeInfo}{v v' vy:Value}{l m:List α}{k:Nat}(ht:P.underlying t=some (.slice e))(hi:P.info? e=some i)(hsz:i.size=Flat.sz α)(ho:Own w v l)(hs:SubOf α v v' k l.length)(hk:k<l.length)(hm:Src α P w vy m)(hx:ev E x=v')(hy:ev E y=vy) :
  ∃w1,exec P E (.call { callee:=.builtin .copy,args:=#[x,y],argTypes:=#[t,t'] }) ty w=.ok (.value (.int .i64 (min m.length (l.length-k):Nat))) w1/\Own w1 v (spl l k (m.take (min m.length (l.length-k))))/\Chg (ay v) w w1/\w1.heap.size=w.heap.size:=by
 obtain⟨b,off,c,rfl,rfl⟩:=hs;obtain⟨p,cap,hpe,hlc,hp⟩:=ho;simp only[Value.slice.injEq] at hpe;obtain⟨rfl,_,rfl⟩:=hpe;obtain⟨h1,cc,ee,fr,h2,h3,h4,h5⟩:=hp;simp only at h1 h2 h4 h5;have hlm:l.length*Flat.sz α<=c*Flat.sz α:=eB _ hlc;have hkm:k*Flat.sz α+(l.length-k)*Flat.sz α=l.length*Flat.sz α:=by rw[<-fc];congr 1;omega
 have hroom:off+k*Flat.sz α+(l.length-k)*Flat.sz α<=cc.size:=by omega
 have hx':=Cg (t':=t') (ty:=ty) ht hi hsz hx hy hm h2 h3 hroom;have hml:(m.take (min m.length (l.length-k))).length=min m.length (l.length-k):=by rw[bz];omega
 have hsl:(spl l k (m.take (min m.length (l.length-k)))).length=l.length:=by
  unfold spl;simp only[aF,bz,bG];omega
 have hel:(bq (m.take (min m.length (l.length-k)))).length<=(l.length-k)*Flat.sz α:=by
  rw[aV,hml];exact eB _ (by omega)
 refine⟨_,hx',⟨some ⟨b,off,none⟩,c,by rw[hsl],by rw[hsl];exact hlc,rfl,_,ee,fr,eG (cJ h2),h3.size (dc _ _ _),by rw[dc];exact h4,?_⟩,(Chg.set _ _ _).mono (λx hx _=>by simpa [ay] using hx),dW _ _ _⟩;intro j z hj;show(gr cc (off+k*Flat.sz α) (bq (m.take (min m.length (l.length-k)))))[off+j]?=some z;rw[iX _ _ _ _ (by omega)];have hsp:bq (spl l k (m.take (min m.length (l.length-k))))=(bq l).take (k*Flat.sz α)++(bq (m.take (min m.length (l.length-k)))++(bq l).drop ((k+(m.take (min m.length (l.length-k))).length)*Flat.sz α)):=by
  rw[spl,dT,dT,<-gT,<-fj,bQ]
 have hkl:((bq l).take (k*Flat.sz α)).length=k*Flat.sz α:=by rw[bz,aV];exact eC (eB _ (by omega))
 rw[hsp] at hj;by_cases hlt:j<k*Flat.sz α
 ·rw[iO (by omega),ld,if_pos hlt] at hj;rw[if_neg (by omega)];exact h5 j z hj
 ·rw[g0 (by omega),hkl] at hj;by_cases hlt2:j-k*Flat.sz α<(bq (m.take (min m.length (l.length-k)))).length
  ·rw[iO hlt2] at hj;rw[if_pos (by omega),show off+j-(off+k*Flat.sz α)=j-k*Flat.sz α by omega];exact hj
  ·rw[g0 (by omega),lV,aV] at hj;rw[aV] at hlt2;rw[if_neg (by rw[aV];omega)];refine h5 j z ?_;rw[<-hj,fc];congr 1;omega
theorem tA{α:Type}[Flat α](vs:List Value)(l:List α){e:TypeId}{i:TypeInfo}{z:Value}{n:Nat}{ps:List (Nat×Operand)}(ht:P.underlying t=some (.slice e))(hi:P.info? e=some i)(hz:i.zero=some z)(hsz:i.size=Flat.sz α)(hzs:z.cells.size=Flat.sz α)
  (hps:(ps.map λp=>(p.1,ev E p.2))=vs.zipIdx.map λx=>(x.2,x.1)) (hv:vs.map (λv=>v.cells.toList)=l.map Flat.enc) (hn:l.length=n) (hb:n*Flat.sz α<=16777216) (h0:0<n) :
  ∃v' w',exec P E (.buildSlice t n ps.toArray) ty w=.ok (.value v') w'/\(∃b o c,v'=.slice (some ⟨b,o,none⟩) n c)/\Own w' v' l/\Chg [] w w'/\In v' [] w.heap.size:=by
 obtain⟨v',w',h1,h2,h3,h4⟩:=zp (ty:=ty) (w:=w) vs l ht hi hz hsz hzs hps hv hn hb;exact⟨v',w',h1,h2.some hn h0,h2,h3,h4⟩
theorem gF{d:TypeId}{a:List UInt8}(hx:ev E x=str a)(ht:P.underlying d=some .string):exec P E (.call { callee:=.builtin .len,args:=#[x],argTypes:=#[d] }) ty w=.ok (.value (.int .i64 a.length)) w:=by
 rw[EM hx ht];simp[ByteArray.size]
theorem uZ{u:TypeId}{a b:List UInt8}(hx:ev E x=str a)(hy:ev E y=str b):exec P E (.binOp .eql t x y u) ty w=.ok (.value (.bool (decide (a=b)))) w:=by
 rw[x_streq hx hy];congr 3;simp only[ByteArray.toList_eq];rw[qM];simp
theorem tw{u:TypeId}{a b:List UInt8}(hx:ev E x=str a)(hy:ev E y=str b):exec P E (.binOp .neq t x y u) ty w=.ok (.value (.bool (decide (a≠b)))) w:=by
 rw[x_strne hx hy];congr 3;simp only[ByteArray.toList_eq];rw[qM];simp
theorem Gy{e:TypeId}{i:TypeInfo}{k:IntKind}{vx:Value}{l:List UInt8}{j:Int}(m:Nat)(ht:P.underlying t=some (.slice e))(ht':P.underlying t'=some (.int k))(hi:P.info? e=some i)(hz:i.zero=some (.int .u8 0))(hsz:i.size=1)
  (hby:i.bytes<=1024) (hl:Own w vx l) (hx:ev E x=vx) (hy:ev E y=.int .i64 j) (hj:j=m) (hb:l.length+m<=1073741824) :
  ∃v' w',exec P E (.call { callee:=.builtin .append,args:=#[x,y],argTypes:=#[t,t'] }) ty w=.ok (.value v') w'/\Appended vx l (List.replicate m (0:UInt8)) w v' w':=by
 subst hj;obtain⟨p,cap,rfl,hlc,hp⟩:=hl;have hown:Own w (.slice p l.length cap) l:=⟨p,cap,rfl,hlc,hp⟩
 have hzc:(Value.int .u8 0).cells=#[Value.int .u8 0]:=rfl;have henc:∀n,bq (List.replicate n (0:UInt8))=List.replicate n (.int .u8 0):=λn=>by
  rw[sd,List.map_replicate];rfl
 have key:∃v' w',(Builtin.append_ #[t,t'] ty #[.slice p l.length cap,.int .i64 m]).run P w=.ok v' w'/\Appended (.slice p l.length cap) l (List.replicate m (0:UInt8)) w v' w':=by
  unfold Builtin.append_;simp only[mO,sy,uO];rw[au (run_underlying ht w)];simp only[];rw[au (cB hi w)];rw[au (run_underlying ht' w)];have happ:∀w':World,(if m*i.size=0 then (pure #[]:Sem (Array Value)) else do pure (Builtin.zeroCells (<-zeroValue e).cells m)).run P w'=.ok (bq (List.replicate m (0:UInt8))).toArray w':=λw'=>by
   rw[hsz,qQ];by_cases h0:m=0
   ·rw[if_pos h0,h0];rfl
   ·rw[if_neg h0,au (dw hi hz w'),hzc,x5,henc];rfl
  simp only[pure_bind,if_true,Bool.not_true,DG,if_false];have ha:(asInt (.int .i64 (m:Int))).run P w=.ok (m:Int) w:=rfl;rw[au ha,jZ (by omega)];rw[if_neg (by omega)];rw[au (dJ hi w)];have hnb0:¬((m:Int)*(i.bytes:Int) > 2 ^ 48):=by
   have:m*i.bytes<=1073741824*1024:=uj (by omega) hby
   have h2:((m*i.bytes:Nat):Int)<=1073741824*1024:=by omega
   rw[Int.natCast_mul] at h2;omega
  rw[if_neg hnb0];simp only[jn];by_cases hc:l.length+m<=cap
  ·rw[if_pos hc];rw[au (happ w)];cases p with
   | none =>
    obtain⟨rfl,rfl⟩:=hp;have hm0:m=0:=by simpa using hc
    subst hm0;exact⟨_,w,rfl,⟨none,0,rfl,en _,rfl,rfl⟩,Chg.refl' _ _,by intro b hb;simp[ay] at hb⟩
   | some a =>
    obtain⟨b,off,sp⟩:=a;obtain⟨h1,c,ee,fr,h2,h3,h4,h5⟩:=hp;simp only at h1 h2 h4 h5;subst h1;have hz1:Flat.sz UInt8=1:=rfl;rw[hz1,qQ] at h4;have hlen:(bq (List.replicate m (0:UInt8))).length=m:=by rw[henc,cQ]
    have hll:(bq l).length=l.length:=by rw[aV,hz1,qQ]
    have hroom:off+l.length+(bq (List.replicate m (0:UInt8))).length<=c.size:=by omega
    simp only[eI,hsz,qQ];rw[au (fk _ h2 (by simpa using hroom) h3 (by simpa using gy _))];refine⟨_,_,rfl,⟨some ⟨b,off,none⟩,cap,by rw[aF,cQ],by simpa using hc,rfl,_,ee,fr,eG (cJ h2),h3.size (dc _ _ _),by rw[dc,hz1,qQ];exact h4,?_⟩,?_,?_⟩
    ·intro k q hk;rw[dT] at hk;simp only at hk ⊢;by_cases hkl:k<(bq l).length
     ·rw[iO hkl] at hk;exact rH (by simpa using hroom) (h5 k q hk) (by omega)
     ·rw[g0 (by omega)] at hk
      have:=vT (c:=c) (off:=off+l.length) (vs:=(bq (List.replicate m (0:UInt8))).toArray.toList) (by simpa using hroom) (by simpa using hk)
      rw[show off+l.length+(k-(bq l).length)=off+k from by omega] at this;exact this
    ·exact(Chg.set _ _ _).mono (λb hb _=>by simpa [ay] using hb)
    ·intro b hb;left;simpa [ay] using hb
  ·rw[if_neg hc];have hov:¬((l.length+m:Nat):Int) > IntKind.i64.max:=by
    have:IntKind.i64.max=9223372036854775807:=by decide
    omega
   rw[au (dJ hi w),if_neg (by intro h;exact absurd h.1 hov),au (dJ hi w)];have hnc:=qq (l.length+m) cap (by omega);have hnb:¬Builtin.nextslicecap (l.length+m) cap*i.bytes > 2 ^ 48:=by
    have:Builtin.nextslicecap (l.length+m) cap*i.bytes<=(4*1073741824+2000)*1024:=uj (by omega) hby
    omega
   rw[if_neg hnb];obtain⟨nc,hnc1,hch⟩:=nh (P:=P) (w:=w) (need:=l.length+m) (cap:=cap) (e:=e);rw[au hch];rw[au (dJ hi _),au lR];have hf1:=((hown.sl.heap (w':={ w with drawn:=w.drawn+1 }) O).first (P:=P) l.length (aN _))
   rw[cZ] at hf1;rw[hsz];have h1:Flat.sz UInt8=1:=rfl;rw[h1] at hf1;rw[au hf1];have happ':=happ { w with drawn:=w.drawn+1 }
   rw[hsz] at happ';rw[au happ',au (dw hi hz _)];refine⟨.slice (some ⟨w.heap.size,0,none⟩) (l++List.replicate m (0:UInt8)).length nc,_,?_,rN (w:={ w with drawn:=w.drawn+1 }) (l:=l++List.replicate m (0:UInt8)) (e:=e) (rest:=Builtin.zeroCells (Value.int .u8 0).cells (nc-(l.length+m))) (cap:=nc) (by simpa using hnc1) ?_,?_,?_⟩
   ·rw[aF,cQ,dT];simp only[<-List.append_toArray];rfl
   ·rw[l7,aF,cQ];rfl
   ·exact(Chg.push { w with drawn:=w.drawn+1 } _).mono (by simp)
   ·intro b hb;right;simp only[ay,gk] at hb;omega
 obtain⟨v',w',h1,h2⟩:=key;refine⟨v',w',?_,h2⟩;rw[sg,hx,hy];exact bh h1
end
abbrev W48:={ l:List UInt8 // l.length=48 }
def w48z:W48:=⟨List.replicate 48 0,rfl⟩
structure Slt where
 w:W48
 gen:UInt64
def slt0:Slt:=⟨w48z,0⟩
def vSlt(x:Slt):Value:=.agg (bq x.w.1++[Value.int .u64 x.gen.toNat]).toArray
structure SSt where
 full:List (Int×Slt)
 puts:UInt64
 dead:Bool
def vFull(m:List (Int×Slt)):List (Int×Value):=m.map λp=>(p.1,vSlt p.2)
def SlotAt(w:World)(sb fr b:Nat)(s:SSt):Prop :=
 Blk w sb [.pointer (some ⟨b,0,none⟩),.map (some fr),.int .u64 s.puts.toNat,.bool s.dead]/\MapAt w fr (vFull s.full)/\sb≠fr
theorem SlotAt.chg{w w':World}{sb fr b:Nat}{s:SSt}{S:List Nat}(h:SlotAt w sb fr b s)(hm:Chg S w w')(h1:sb∉S)(h2:fr∉S):SlotAt w' sb fr b s :=
 ⟨h.1.chg hm h1,h.2.1.mod hm h2,h.2.2⟩
theorem SlotAt.chg0{w w':World}{sb fr b:Nat}{s:SSt}(h:SlotAt w sb fr b s)(hm:Chg [] w w'):SlotAt w' sb fr b s:=h.chg hm (by simp) (by simp)
def eY(n:Nat)(w:List UInt8):List UInt8:=be 8 n++w++be 8 n
def Cl(l:List UInt8):UInt64:=UInt64.ofNat (dF (l.take 8))
def GK(l:List UInt8):UInt64:=UInt64.ofNat (dF (((l.drop 8).drop 48).take 8))
def ER(l:List UInt8):W48:=⟨((l.drop 8).take 48++List.replicate 48 0).take 48,by simp⟩
def ef(l:List UInt8):UInt64×W48:=if GK l=Cl l then (Cl l,ER l) else (0,w48z)
def mD(l:List UInt8):List UInt8:=l++List.replicate (64-l.length) 0
theorem iB(n:Nat)(w:List UInt8):(eY n w).length=16+w.length:=by simp[eY,aP];omega
theorem nq(l:List UInt8)(h:l.length<=64):(mD l).length=64:=by simp[mD];omega
theorem unfW_eq(l:List UInt8)(h:l.length=64):(ER l).1=(l.drop 8).take 48:=by
 unfold ER;exact cR (by rw[bz,bG];omega)
def wrD(ds:DSt)(i:Int)(l:List UInt8):DSt×Int:=if (ds.write i (mD l)).2=0 then (ds.write i (mD l)).1.flush else ds.write i (mD l)
def SSt.died(s:SSt)(e:Int):SSt:={ s with dead:=s.dead||decide (e=61) }
def cntD(ds:DSt)(n:UInt64):DSt×Int:=wrD ds (24+((n % 2).toNat:Int)) (eY n.toNat w48z.1)
def qA(i:Int):Bool:=decide (0<=i)&&decide (i<24)
def mkW:Nat->Nat->DSt->DSt×Int
 | 0, _, ds => (ds, 0)
 | k + 1, i, ds => if (ds.write i (List.replicate 64 0)).2 = 0 then mkW k (i + 1) (ds.write i (List.replicate 64 0)).1 else ds.write i (List.replicate 64 0)
def makeD(ds:DSt):DSt×Int :=
 if ds.kept.length<64 then (ds,70)
 else if (mkW 26 0 ds).2=0 then (mkW 26 0 ds).1.flush else mkW 26 0 ds
def ss0:SSt:=⟨[],0,false⟩
def Cm(a b:UInt64):UInt64:=if a.toNat<=b.toNat then b else a
def SSt.reads(s:SSt)(i:Int)(l:List UInt8):SSt :=
 { s with puts:=Cm s.puts (ef l).1,full:=if i<24/\0<(ef l).1 then dY i ⟨(ef l).2,(ef l).1⟩ s.full else s.full }
def nK(ds:DSt)(n:Nat):SSt:=(List.range n).foldl (λ(s:SSt) (i:Nat)=>s.reads (i:Int) (ds.now (i:Int)).1) ss0
def He(ds:DSt)(s:SSt)(i:Int)(kek key:List UInt8)(hk:key.length=32):DSt×SSt×Int :=
 if s.dead then (ds,s,260)
 else if qA i then
  let c:=cntD ds (s.puts+1)
  if c.2=0 then
   let s1:SSt:={ s.died c.2 with puts:=s.puts+1 }
   let x:Slt:=⟨⟨rh kek i.toNat (s.puts+1).toNat key,iF _ _ _ _ hk⟩,s.puts+1⟩
   let d:=wrD c.1 i (eY x.gen.toNat x.w.1)
   if d.2=0 then (d.1,{ s1.died d.2 with full:=dY i x s1.full },0) else (d.1,s1.died d.2,d.2)
  else (c.1,s.died c.2,c.2)
 else (ds,s,70)
def wJ(ds:DSt)(s:SSt)(i:Int):DSt×SSt×Int :=
 if s.dead then (ds,s,260)
 else if qA i then
  let d:=wrD ds i []
  if d.2=0 then (d.1,{ s.died d.2 with full:=kC i s.full },0) else (d.1,s.died d.2,d.2)
 else (ds,s,70)
def getS(s:SSt)(i:Int)(kek:List UInt8):List UInt8×Int :=
 if qA i then
  match cF i s.full with
  | none => (List.replicate 32 0, 120)
  | some x => if pP kek (dj i.toNat x.gen.toNat) tWrap x.w.1 then (gK kek (dj i.toNat x.gen.toNat) (x.w.1.take 32), 0) else (List.replicate 32 0, 50)
 else (List.replicate 32 0,70)
def usedS(s:SSt)(n:Nat):List Int:=((List.range n).map λ(i:Nat)=>(i:Int)).filter λi=>(cF i s.full).isSome
def freeS(s:SSt):Nat->Nat->Int
 | 0, _ => -1
 | k + 1, i => if (cF (i : Int) s.full).isSome then freeS s k (i + 1) else i
theorem max_u64(a b:UInt64):max (a.toNat:Int) (b.toNat:Int)=((Cm a b).toNat:Int):=by
 unfold Cm;split <;> omega
def sltC(x:Slt):List Value:=bq x.w.1++[Value.int .u64 x.gen.toNat]
theorem wrD_pos{ds:DSt}{i:Int}{l:List UInt8}(h:(ds.write i (mD l)).2=0):wrD ds i l=(ds.write i (mD l)).1.flush:=by unfold wrD;rw[if_pos h]
theorem qn(ds:DSt)(n:Nat):nK ds (n+1)=(nK ds n).reads n (ds.now n).1:=by
 unfold nK;rw[iD,lf];rfl
theorem qm(ds:DSt):nK ds 0=ss0:=rfl
def RunD(w0 w:World)(b:Nat)(kv:Value)(r:Nat)(ds:DSt):Prop:=DiskAt w b kv r ds/\Chg [] w0 w/\∀x∈DF b kv r,w0.heap.size<=x
def RunS(w0 w:World)(sb fr b:Nat)(kv:Value)(r:Nat)(s:SSt):Prop:=SlotAt w sb fr b s/\(sb∉DF b kv r/\fr∉DF b kv r)/\w0.heap.size<=sb/\w0.heap.size<=fr
theorem RunD.chg0{w0 w w':World}{b r:Nat}{kv:Value}{ds:DSt}(h:RunD w0 w b kv r ds)(hm:Chg [] w w'):RunD w0 w' b kv r ds:=⟨h.1.chg0 hm,h.2.1.tr hm,h.2.2⟩
theorem RunS.chg0{w0 w w':World}{sb fr b r:Nat}{kv:Value}{s:SSt}(h:RunS w0 w sb fr b kv r s)(hm:Chg [] w w'):RunS w0 w' sb fr b kv r s:=⟨h.1.chg0 hm,h.2⟩
attribute [irreducible] ef nK wrD mkW makeD
end Go.Sac
section
namespace Go.Sac
open Go
abbrev PgF:=UInt32->Bool
def kz:PgF:=λ_=>false
def A9(g:Nat->Bool):UInt8:=UInt8.ofNat ((List.range 8).foldl (λn k=>n ||| (g k).toNat <<< k) 0)
theorem Di(g:Nat->Bool)(k:Nat)(hk:k<8):(A9 g).toNat.testBit k=g k:=by
 have h:∀b0 b1 b2 b3 b4 b5 b6 b7:Bool,∀k:Fin 8,(UInt8.ofNat (0 ||| b0.toNat <<< 0 ||| b1.toNat <<< 1 ||| b2.toNat <<< 2 ||| b3.toNat <<< 3 ||| b4.toNat <<< 4 ||| b5.toNat <<< 5 ||| b6.toNat <<< 6 ||| b7.toNat <<< 7)).toNat.testBit k=[b0,b1,b2,b3,b4,b5,b6,b7].getD k false:=by decide +kernel
 have:=h (g 0) (g 1) (g 2) (g 3) (g 4) (g 5) (g 6) (g 7) ⟨k,hk⟩
 unfold A9;simp only[List.range,List.range.loop,List.foldl];rw[this];rcases k with _|_|_|_|_|_|_|_|k <;> first|rfl|omega
theorem Ib{a b:UInt8}(h:∀k,k<8->a.toNat.testBit k=b.toNat.testBit k):a=b:=by
 apply UInt8.toNat_inj.1;apply Nat.eq_of_testBit_eq;intro k;by_cases hk:k<8
 ·exact h k hk
 ·have ha:=a.toNat_lt;have hb:=b.toNat_lt;have h2:2 ^ 8<=2 ^ k:=mT (by omega) (by omega);rw[Nat.testBit_lt_two_pow (by omega),Nat.testBit_lt_two_pow (by omega)]
def eT(f:PgF):List UInt8:=(List.range 50).map λi=>A9 λk=>f (UInt32.ofNat (8*i+k))
def jx(l:List UInt8)(k:Nat):Bool:=(l.getD (k / 8) 0).toNat.testBit (k % 8)
def qj(l:List UInt8):PgF:=λk=>decide (k.toNat<400)&&jx l k.toNat
theorem fy(f:PgF):(eT f).length=50:=by simp[eT]
theorem CV(f:PgF)(i:Nat)(h:i<50):(eT f).getD i 0=A9 λk=>f (UInt32.ofNat (8*i+k)):=by
 unfold eT;rw[eN,mP,List.getElem?_range h];rfl
theorem wq(f:PgF)(k:Nat)(h:k<400):jx (eT f) k=f (UInt32.ofNat k):=by
 unfold jx;rw[CV f _ (by omega),Di _ _ (by omega)];congr 2;omega
theorem Dk{f:PgF}{l:List UInt8}(hl:l.length=50)(h:∀k,k<400->jx l k=f (UInt32.ofNat k)):l=eT f:=by
 apply mQ;intro i;by_cases hi:i<50
 ·have h1:l[i]?=some (l.getD i 0):=by rw[eN,bN (by omega)];rfl
  have h2:(eT f)[i]?=some ((eT f).getD i 0):=by rw[eN,bN (by rw[fy];exact hi)];rfl
  rw[h1,h2];congr 1;apply Ib;intro k hk;have q1:=h (8*i+k) (by omega);have q2:=wq f (8*i+k) (by omega);rw[<-q2] at q1;unfold jx at q1;rw[show(8*i+k) / 8=i by omega,show(8*i+k) % 8=k by omega] at q1;exact q1
 ·rw[yV (by omega),yV (by rw[fy];omega)]
theorem tJ{f:PgF}(h:∀k,f k=true->k.toNat<400):qj (eT f)=f:=by
 funext k
 unfold qj;by_cases hk:k.toNat<400
 ·rw[decide_eq_true hk,j6,wq f _ hk,zb]
 ·rw[decide_eq_false hk,Bool.false_and];cases hf:f k with
  | false => rfl
  | true => exact absurd (h k hf) hk
theorem yf{l:List UInt8}{k:UInt32}(h:qj l k=true):k.toNat<400:=by
 unfold qj at h;simp only[jW,decide_eq_true_eq] at h;exact h.1
structure Sup where
 root:UInt32
 txt:List UInt8
 used:PgF
 written:PgF
 commit:UInt64
 epoch:UInt32
def Cq:List UInt8:=[115,117,112,101,114]
def bC:List UInt8:=[112,97,103,101]
def lQ(k b:List UInt8):List UInt8:=qu (bs k Cq 0) b
def iQ(s:Sup):List UInt8:=be 8 s.commit.toNat++be 4 s.epoch.toNat++be 4 s.root.toNat++(be 2 s.txt.length++s.txt)++eT s.used++eT s.written
def cA(k:List UInt8)(s:Sup):List UInt8:=iQ s++lQ k (iQ s)
theorem kN(k b:List UInt8):(lQ k b).length=32:=eh _ _
theorem pJ(s:Sup):(iQ s).length=118+s.txt.length:=by simp[iQ,aP,fy];omega
theorem gQ(k:List UInt8)(s:Sup):(cA k s).length=150+s.txt.length:=by
 rw[cA,aF,pJ,kN];omega
def txN(b:List UInt8):Nat:=dF ((b.drop 16).take 2)
def kF(b:List UInt8):Sup :=
 ⟨UInt32.ofNat (dF ((b.drop 12).take 4)),(b.drop 18).take (txN b),qj ((b.drop (18+txN b)).take 50),qj ((b.drop (68+txN b)).take 50),UInt64.ofNat (dF (b.take 8)),UInt32.ofNat (dF ((b.drop 8).take 4))⟩
def dX(k b:List UInt8):Option Sup :=
 if b.length<56∨200<txN b∨b.length<150+txN b then none
 else if (b.drop (118+txN b)).take 32=lQ k (b.take (118+txN b)) then some (kF b) else none
def fN:Nat->List UInt8->List UInt8->List UInt8
 | 0, _, _ => []
 | n + 1, nb, b => (nb ++ b.take 56 ++ List.replicate (56 - (b.take 56).length) 0 ++ nb) ++ fN n nb (b.drop 56)
def dR(b:List UInt8)(n:UInt64):List UInt8:=fN ((b.length+55) / 56) (be 4 n.toNat) b
def nF(nb:List UInt8):Nat->List UInt8->List UInt8
 | 0, _ => []
 | n + 1, b => if b.take 4 = nb /\ (b.drop 60).take 4 = nb then (b.drop 4).take 56 ++ nF nb n (b.drop 64) else []
def iU(b:List UInt8):List UInt8:=nF (b.take 4) (b.length / 64) b
def mE:Nat->List UInt8->List UInt64
 | 0, _ => []
 | n + 1, b => UInt64.ofNat (dF (b.take 4)) :: UInt64.ofNat (dF ((b.drop 60).take 4)) :: mE n (b.drop 64)
def gu(b:List UInt8):List UInt64:=mE (b.length / 64) b
def me(c x:UInt64):UInt64:=du ((gP ((x-c).toNat:Int)).toNat:Int)
theorem FU(c x:UInt64):me c x=(x-c).toUInt32.toUInt64:=by unfold me;rw[xZ,sG]
def ft(c n x:UInt64):UInt64:=if me c x<65536 then Cm n (c+me c x) else n
def E8(c:UInt64)(l:List UInt64):UInt64:=l.foldl (ft c) c+1
theorem pO:∀(n:Nat) (nb b:List UInt8),nb.length=4->(fN n nb b).length=64*n
 | 0, _, _, _ => rfl
 | n + 1, nb, b, h => by
  rw[fN,aF,pO n nb _ h];simp only[aF,cQ,bz,h];omega
theorem m8(b:List UInt8)(n:UInt64):(dR b n).length=64*((b.length+55) / 56):=pO _ _ _ (aP _ _)
theorem xW(nb:List UInt8):∀(n:Nat) (b:List UInt8),b.length=64*n->∃m,(nF nb n b).length=56*m/\m<=n
 | 0, _, _ => ⟨0, rfl, aN _⟩
 | n + 1, b, h => by
  rw[nF]
  split
  ·obtain⟨m,h1,h2⟩:=xW nb n (b.drop 64) (by rw[bG];omega);exact⟨m+1,by rw[aF,h1,bz,bG];omega,by omega⟩
  ·exact⟨0,rfl,by omega⟩
theorem kP:∀(n:Nat) (b:List UInt8),(mE n b).length=2*n
 | 0, _ => rfl
 | n + 1, b => by rw [mE, cf, cf, kP n]; omega
namespace DSt
def wr:Nat->DSt->Int->List UInt8->DSt×Int
 | 0, s, _, _ => (s, 0)
 | n + 1, s, i, l => if (s.write i (l.take 64)).2 = 0 then wr n (s.write i (l.take 64)).1 (i + 1) (l.drop 64) else s.write i (l.take 64)
def writes(s:DSt)(i:Int)(l:List UInt8):DSt×Int:=wr ((l.length+63) / 64) s i l
def reads(s:DSt)(i:Int)(n:Nat):List UInt8:=(List.range n).flatMap λ(k:Nat)=>(s.now (i+(k:Int))).1
theorem reads_succ(s:DSt)(i:Int)(n:Nat):s.reads i (n+1)=s.reads i n++(s.now (i+(n:Int))).1:=by
 unfold reads;rw[iD,nQ];simp
theorem reads_zero(s:DSt)(i:Int):s.reads i 0=[]:=rfl
theorem reads_length(s:DSt)(i:Int)(n:Nat):(s.reads i n).length=64*n:=by
 induction n with
 | zero => rfl
 | succ n ih => rw [reads_succ, aF, ih, (s.now _).2]; omega
end DSt
def iZ(n:Nat):Int:=min ((max ((n:Int)-32) 0) / 8) 400
def fB(ds:DSt)(i:Nat):List UInt8:=ds.reads ((i:Int)*16) 16
def eo(k:List UInt8)(ds:DSt)(best:Option (Sup×Nat))(i:Nat):Option (Sup×Nat) :=
 match dX k (iU (fB ds i)) with
 | none => best
 | some s => match best with
  | none => some (s, i)
  | some (b, j) => if b.commit < s.commit then some (s, i) else some (b, j)
def newest(k:List UInt8)(ds:DSt):Option (Sup×Nat):=eo k ds (eo k ds none 0) 1
def kj(best:Option (Sup×Nat)):UInt64:=match best with|none=>0|some (s,_)=>s.commit
def pF(best:Option (Sup×Nat)):Int:=match best with|none => -1|some (_,j)=>j
def uc(best:Option (Sup×Nat)):UInt32:=match best with|none=>0|some (s,_)=>s.epoch
def fK(k:List UInt8)(ds:DSt):UInt64:=E8 (kj (newest k ds)) (gu (fB ds 0)++gu (fB ds 1))
def db(k:List UInt8)(ds:DSt)(at_:Nat)(s:Sup):DSt×Int :=
 if (ds.writes ((at_:Int)*16) (dR (cA k s) s.commit)).2=0 then (ds.writes ((at_:Int)*16) (dR (cA k s) s.commit)).1.flush
 else ds.writes ((at_:Int)*16) (dR (cA k s) s.commit)
namespace DSt
theorem wr_bnd(n:Nat):∀(ds:DSt) (i:Int) (l:List UInt8),ds.Fine->ds.steps+n<=1000000000000->(wr n ds i l).1.Fine/\(wr n ds i l).1.steps<=ds.steps+n/\(wr n ds i l).1.kept=ds.kept:=by
 induction n with
 | zero => intro ds i l hf hs; exact ⟨hf, aN _, rfl⟩
 | succ n ih =>
  intro ds i l hf hs;have h1:=hf.write (by omega) i (l.take 64);have h2:=write_steps ds i (l.take 64);have h3:=write_kept ds i (l.take 64);rw[wr];by_cases h:(ds.write i (l.take 64)).2=0
  ·rw[if_pos h];obtain⟨q1,q2,q3⟩:=ih _ (i+1) (l.drop 64) h1 (by omega);exact⟨q1,by omega,by rw[q3,h3]⟩
  ·rw[if_neg h];exact⟨h1,by omega,h3⟩
end DSt
end Go.Sac

end
namespace Go.Sac
open Go
set_option maxRecDepth 100000
def keyN(n:UInt8):List UInt8:=n::(List.replicate 30 0++[200])
def sv(l:List UInt8):Option Slt:=if 0<(ef l).1 then some ⟨(ef l).2,(ef l).1⟩ else none
theorem oX(n:UInt64):UInt64.ofNat (dF (be 8 n.toNat))=n:=by
 rw[gI];apply UInt64.toNat_inj.1;rw[ek]
 have:=n.toNat_lt
 have h:(256:Nat) ^ 8=18446744073709551616:=by decide
 rw[h];omega
theorem Bf(n:Nat)(w:List UInt8):(eY n w).take 8=be 8 n:=by
 unfold eY;rw[bQ,cR (aP 8 n)]
theorem tT(n:Nat)(w:List UInt8):(eY n w).drop 8=w++be 8 n:=by
 unfold eY;rw[bQ,et (aP 8 n)]
theorem rm(l:List UInt8):ef l=if GK l=Cl l then (Cl l,ER l) else (0,w48z):=by unfold ef;rfl
theorem kx(n:UInt64)(x:W48):ef (eY n.toNat x.1)=(n,x):=by
 have h1:Cl (eY n.toNat x.1)=n:=by unfold Cl;rw[Bf,oX]
 have h2:GK (eY n.toNat x.1)=n:=by
  unfold GK;rw[tT,et x.2,cd (by rw[aP];omega),oX]
 have h3:ER (eY n.toNat x.1)=x:=by
  apply Subtype.ext;rw[unfW_eq _ (by rw[iB,x.2]),tT,cR x.2]
 rw[rm,if_pos (by rw[h1,h2]),h1,h3]
theorem pH:ef (List.replicate 64 0)=(0,w48z):=by
 have h1:Cl (List.replicate 64 0)=0:=by decide
 have h2:GK (List.replicate 64 0)=0:=by decide
 have h3:ER (List.replicate 64 0)=w48z:=by apply Subtype.ext;decide
 rw[rm,if_pos (by rw[h1,h2]),h1,h3]
theorem DT:sv (List.replicate 64 0)=none:=by unfold sv;rw[pH];rfl
theorem y6(n:UInt64)(x:W48)(h:0<n):sv (eY n.toNat x.1)=some ⟨x,n⟩:=by
 unfold sv;rw[kx,if_pos h]
def pD(l:List UInt8):Sec:=DSt.putS sec0 (mD l)
theorem zF(l:List UInt8)(h:l.length<=64):(pD l).1=mD l:=by
 have hl:=nq l h;unfold pD;rw[oW _ _ (by omega),hl,gm (kH sec0.2),cH]
theorem Ha(c:Sec)(l:List UInt8)(h:l.length<=64):DSt.putS c (mD l)=pD l:=by
 have hl:=nq l h;apply Subtype.ext;rw[zF l h,oW _ _ (by omega),hl,gm (kH c.2),cH]
theorem CM(l:List UInt8)(h:l.length=64):mD l=l:=by simp[mD,h]
theorem FR(k:List Sec)(i:Int)(c:Sec)(hi:0<=i):DSt.apply k [(i,c)]=k.set i.toNat c:=by
 have:=wS k [] i c hi (by simp)
 rwa [dK,yL] at this
theorem Cj{ds:DSt}{i:Int}{l:List UInt8}(h0:ds.offAt=0)(hp:ds.pend=[])(hi:0<=i)(hi2:i<ds.kept.length)(hl:l.length<=64) :
  wrD ds i l=(⟨ds.steps+2,0,ds.kept.set i.toNat (pD l),[]⟩,0):=by
 have hw:ds.write i (mD l)=(⟨ds.steps+1,0,ds.kept,[(i,pD l)]⟩,0):=by
  have ho:ds.step.off=false:=by simp[DSt.off,DSt.step,h0]
  have his:ds.is i=true:=by simp[DSt.is,hi,hi2]
  unfold DSt.write;rw[if_neg (by rw[ho];decide),if_neg (by rw[his,decide_eq_false (by rw[nq l hl];omega)];decide),hp,Ha _ _ hl];simp[dY,DSt.step,h0]
 rw[wrD_pos (by rw[hw]),hw];unfold DSt.flush;rw[if_neg (by simp[DSt.off,DSt.step])];simp only[DSt.step,FR _ _ _ hi]
structure SInv(ds:DSt)(s:SSt):Prop where
 pend:ds.pend=[]
 len:64<=ds.kept.length
 full:∀i:Nat,i<24->cF (i:Int) s.full=sv (ds.kept.getD i sec0).1
 keys:(s.full.map (·.1)).Nodup
 gens:∀i:Nat,i<26->(ef (ds.kept.getD i sec0).1).1.toNat<=s.puts.toNat
theorem wo{ν:Type}(i k:Int)(v:ν)(m:List (Int×ν)):cF i (dY k v m)=if i=k then some v else cF i m:=by
 induction m with
 | nil =>
  simp only[dY,cF]
 | cons p m ih =>
  obtain⟨x,u⟩:=p;simp only[dY];by_cases h:k=x
  ·subst h;simp only[if_true,cF];by_cases hi:i=k <;> simp[hi]
  ·simp only[h,if_false,cF];by_cases hi:i=x
   ·subst hi
    have:¬i=k:=λe=>h e.symm
    simp[this]
   ·simp only[hi,if_false];exact ih
theorem xk{ν:Type}(k:Int)(v:ν)(m:List (Int×ν)):(dY k v m).map (·.1)=if k∈m.map (·.1) then m.map (·.1) else m.map (·.1)++[k]:=by
 induction m with
 | nil => simp [dY]
 | cons p m ih =>
  obtain⟨x,u⟩:=p;simp only[dY];by_cases h:k=x
  ·subst h;simp
  ·simp only[h,if_false,eZ,bZ,false_or,ih]
   split <;> simp
theorem tQ{ν:Type}(k:Int)(v:ν)(m:List (Int×ν))(h:(m.map (·.1)).Nodup):((dY k v m).map (·.1)).Nodup:=by
 rw[xk]
 split
 ·exact h
 ·rename_i hk
  rw[ko];exact⟨h,by simp,λa ha b hb=>by simp at hb;subst hb;exact λe=>hk (e▸ha)⟩
theorem HC{ν:Type}(k:Int)(m:List (Int×ν)):(kC k m).Sublist m:=by
 induction m with
 | nil => exact List.Sublist.refl _
 | cons p m ih =>
  obtain⟨x,u⟩:=p;simp only[kC]
  split
  ·exact um _ _
  ·exact ih.cons_cons _
theorem Fq{ν:Type}(i k:Int)(m:List (Int×ν))(h:(m.map (·.1)).Nodup):cF i (kC k m)=if i=k then none else cF i m:=by
 induction m with
 | nil => simp [kC, cF]
 | cons p m ih =>
  obtain⟨x,u⟩:=p;simp only[eZ,jE] at h;simp only[kC];by_cases hk:k=x
  ·subst hk;simp only[if_true];by_cases hi:i=k
   ·subst hi;rw[if_pos rfl,sT h.1]
   ·rw[if_neg hi];simp[cF,hi]
  ·simp only[hk,if_false,cF];by_cases hi:i=x
   ·subst hi
    have:¬i=k:=λe=>hk e.symm
    simp[this]
   ·simp only[hi,if_false];exact ih h.2
theorem rZ{α:Type}(l:List α)(i j:Nat)(a d:α)(h:i<l.length):(l.set i a).getD j d=if i=j then a else l.getD j d:=by
 rw[eN,yT,eN];by_cases hij:i=j
 ·subst hij;simp[h]
 ·simp[hij]
def rI(k:List Sec)(n:UInt64)(i:Nat)(w:List UInt8):List Sec :=
 (k.set (24+(n % 2).toNat) (pD (eY n.toNat w48z.1))).set i (pD (eY n.toNat w))
theorem E4{ds:DSt}{s:SSt}{i:Nat}{kek key:List UInt8}(hy:key.length=32)(h0:ds.offAt=0)(hp:ds.pend=[])(hl:64<=ds.kept.length)(hdd:s.dead=false)(hi:i<24) :
  He ds s i kek key hy=(⟨ds.steps+4,0,rI ds.kept (s.puts+1) i (rh kek i (s.puts+1).toNat key),[]⟩,
   ⟨dY (i:Int) ⟨⟨rh kek i (s.puts+1).toNat key,iF _ _ _ _ hy⟩,s.puts+1⟩ s.full,s.puts+1,false⟩,0):=by
 have h2:((s.puts+1) % 2).toNat<2:=by rw[UInt64.toNat_mod];exact Nat.mod_lt _ (by decide)
 have hc:cntD ds (s.puts+1)=(⟨ds.steps+2,0,ds.kept.set (24+((s.puts+1) % 2).toNat) (pD (eY (s.puts+1).toNat w48z.1)),[]⟩,0):=by
  unfold cntD;rw[Cj h0 hp (by omega) (by omega) (by rw[iB,w48z.2];decide)];congr 3
 have hw:∀l:List UInt8,l.length<=64->wrD ⟨ds.steps+2,0,ds.kept.set (24+((s.puts+1) % 2).toNat) (pD (eY (s.puts+1).toNat w48z.1)),[]⟩ (i:Int) l=(⟨ds.steps+2+2,0,(ds.kept.set (24+((s.puts+1) % 2).toNat) (pD (eY (s.puts+1).toNat w48z.1))).set i (pD l),[]⟩,0):=by
  intro l hl';rw[Cj rfl rfl (by omega) (by simp only[gV];omega) hl'];rfl
 have his:qA (i:Int)=true:=by simp[qA];omega
 unfold He;rw[if_neg (by rw[hdd];decide),if_pos his];simp only[hc,if_true,jn];rw[hw _ (by rw[iB,iF _ _ _ _ hy];decide)];simp only[if_true,SSt.died,hdd];rfl
theorem yB{ds:DSt}{s:SSt}{i:Nat}(h0:ds.offAt=0)(hp:ds.pend=[])(hl:64<=ds.kept.length)(hdd:s.dead=false)(hi:i<24) :
  wJ ds s i=(⟨ds.steps+2,0,ds.kept.set i (pD []),[]⟩,⟨kC (i:Int) s.full,s.puts,false⟩,0):=by
 have his:qA (i:Int)=true:=by simp[qA];omega
 have hw:=Cj (i:=(i:Int)) (l:=[]) h0 hp (by omega) (by omega) (by decide);unfold wJ;rw[if_neg (by rw[hdd];decide),if_pos his];simp only[hw,if_true,SSt.died,hdd,jn];rfl
theorem rC(l:List UInt8)(h:l.length=64):(pD l).1=l:=by rw[zF l (by omega),CM l h]
theorem vF:(pD []).1=List.replicate 64 0:=zF [] (by decide)
theorem vV(k:List Sec)(n:UInt64)(i:Nat)(w:List UInt8):(rI k n i w).length=k.length:=by simp[rI]
theorem oe(k:List Sec)(n:UInt64)(i j:Nat)(w:List UInt8)(hl:64<=k.length)(hi:i<24) :
  (rI k n i w).getD j sec0=if i=j then pD (eY n.toNat w) else if 24+(n % 2).toNat=j then pD (eY n.toNat w48z.1) else k.getD j sec0:=by
 have h2:(n % 2).toNat<2:=by rw[UInt64.toNat_mod];exact Nat.mod_lt _ (by decide)
 unfold rI;rw[rZ _ _ _ _ _ (by rw[gV];omega),rZ _ _ _ _ _ (by omega)]
theorem SInv.put{ds:DSt}{s:SSt}{i:Nat}{kek key:List UInt8}(h:SInv ds s)(hy:key.length=32)(h0:ds.offAt=0)(hdd:s.dead=false)(hi:i<24)(hpu:s.puts.toNat<1000000000000) :
  SInv (He ds s i kek key hy).1 (He ds s i kek key hy).2.1:=by
 obtain⟨h1,h2,h3,h4,h5⟩:=h;have hn:(s.puts+1).toNat=s.puts.toNat+1:=by
  rw[qN];show(s.puts.toNat+1) % 18446744073709551616=_;omega
 have hpos:0<s.puts+1:=by rw[mS,hn];exact Nat.succ_pos _
 rw[E4 hy h0 h1 h2 hdd hi]
 generalize hx:(⟨rh kek i (s.puts+1).toNat key,iF _ _ _ _ hy⟩:W48)=x
 have hxw:rh kek i (s.puts+1).toNat key=x.1:=by rw[<-hx]
 rw[hxw];have hfl:∀y:W48,(eY (s.puts+1).toNat y.1).length=64:=λy=>by rw[iB,y.2]
 refine⟨rfl,by simp only[vV];exact h2,λj hj=>?_,tQ _ _ _ h4,λj hj=>?_⟩
 ·simp only;rw[wo,oe _ _ _ _ _ h2 hi];by_cases hij:i=j
  ·subst hij;rw[if_pos rfl,if_pos rfl,rC _ (hfl x),y6 _ _ hpos]
  ·have:¬(j:Int)=(i:Int):=by omega
   rw[if_neg this,if_neg hij,if_neg (by omega)];exact h3 j hj
 ·simp only;rw[oe _ _ _ _ _ h2 hi];by_cases hij:i=j
  ·rw[if_pos hij,rC _ (hfl x),kx];exact aN _
  ·rw[if_neg hij]
   split
   ·rw[rC _ (hfl w48z),kx];exact aN _
   ·have:=h5 j hj;omega
theorem SInv.erase{ds:DSt}{s:SSt}{i:Nat}(h:SInv ds s)(h0:ds.offAt=0)(hdd:s.dead=false)(hi:i<24) :
  SInv (wJ ds s i).1 (wJ ds s i).2.1:=by
 obtain⟨h1,h2,h3,h4,h5⟩:=h;rw[yB h0 h1 h2 hdd hi];refine⟨rfl,by simp only[gV];exact h2,λj hj=>?_,(((HC _ _).map _).nodup h4),λj hj=>?_⟩
 ·simp only;rw[Fq _ _ _ h4,rZ _ _ _ _ _ (by omega)];by_cases hij:i=j
  ·subst hij;rw[if_pos rfl,if_pos rfl,vF,DT]
  ·have:¬(j:Int)=(i:Int):=by omega
   rw[if_neg this,if_neg hij];exact h3 j hj
 ·simp only;rw[rZ _ _ _ _ _ (by omega)]
  split
  ·rw[vF,pH];exact en _
  ·exact h5 j hj
theorem vw(a b:UInt64):(Cm a b).toNat=max a.toNat b.toNat:=by unfold Cm;split <;> omega
theorem AW{ds:DSt}(h:ds.pend=[])(i:Nat):ds.now i=ds.kept.getD i sec0:=by
 unfold DSt.now;rw[h];rfl
theorem Fi(ds:DSt)(n:Nat)(i:Nat):cF (i:Int) (nK ds n).full=if i<n/\i<24 then sv (ds.now i).1 else none:=by
 induction n with
 | zero => rw [qm]; simp [ss0, cF]
 | succ n ih =>
  rw[qn];unfold SSt.reads;simp only;by_cases hc:(n:Int)<24/\0<(ef (ds.now n).1).1
  ·rw[if_pos hc,wo];by_cases hin:i=n
   ·subst hin;rw[if_pos rfl,if_pos (by omega)];unfold sv;rw[if_pos hc.2]
   ·rw[if_neg (by omega),ih];by_cases h1:i<n/\i<24
    ·rw[if_pos h1,if_pos (by omega)]
    ·rw[if_neg h1,if_neg (by omega)]
  ·rw[if_neg hc,ih];by_cases hin:i=n
   ·subst hin;rw[if_neg (by omega)]
    split
    ·rename_i h24
     unfold sv;rw[if_neg (λh=>hc ⟨by omega,h⟩)]
    ·rfl
   ·by_cases h1:i<n/\i<24
    ·rw[if_pos h1,if_pos (by omega)]
    ·rw[if_neg h1,if_neg (by omega)]
theorem CP(ds:DSt)(n:Nat):((nK ds n).full.map (·.1)).Nodup:=by
 induction n with
 | zero => rw [qm]; simp [ss0]
 | succ n ih =>
  rw[qn];unfold SSt.reads;simp only
  split
  ·exact tQ _ _ _ ih
  ·exact ih
theorem CO(ds:DSt)(n:Nat):(∀i,i<n->(ef (ds.now i).1).1.toNat<=(nK ds n).puts.toNat)/\∀B,(∀i:Nat,i<n->(ef (ds.now i).1).1.toNat<=B)->(nK ds n).puts.toNat<=B:=by
 induction n with
 | zero => rw [qm]; exact ⟨λi h => by omega, λB _ => en _⟩
 | succ n ih =>
  rw[qn];have hp:((nK ds n).reads n (ds.now n).1).puts=Cm (nK ds n).puts (ef (ds.now n).1).1:=rfl;rw[hp,vw];refine⟨λi hi=>?_,λB hB=>?_⟩
  ·by_cases hin:i=n
   ·subst hin;omega
   ·have:=ih.1 i (by omega);omega
  ·have h1:=ih.2 B (λi hi=>hB i (by omega));have h2:=hB n (by omega);omega
theorem SInv.open{ds:DSt}(hp:ds.pend=[])(hl:64<=ds.kept.length):SInv ds (nK ds 26):=by
 refine⟨hp,hl,λi hi=>?_,CP _ _,λi hi=>?_⟩
 ·rw[Fi,if_pos (by omega),AW hp]
 ·have:=(CO ds 26).1 i hi
  rwa [AW hp] at this
def HoldsS(ds:DSt)(C:Nat->Option (List UInt8×List UInt8)):Prop :=
 ∀i,i<24->match C i with
  | none => sv (ds.kept.getD i sec0).1 = none
  | some (k, y) => ∃ (h : y.length = 32) (g : UInt64), 0 < g /\ sv (ds.kept.getD i sec0).1 = some ⟨⟨rh k i g.toNat y, iF _ _ _ _ h⟩, g⟩
def setC(C:Nat->Option (List UInt8×List UInt8))(i:Nat)(v:Option (List UInt8×List UInt8)):Nat->Option (List UInt8×List UInt8):=λj=>if j=i then v else C j
theorem HoldsS.is{ds:DSt}{s:SSt}{C:Nat->Option (List UInt8×List UInt8)}(h:SInv ds s)(hC:HoldsS ds C){i:Nat}(hi:i<24):(cF (i:Int) s.full).isSome=(C i).isSome:=by
 have h1:=hC i hi;rw[h.full i hi];cases hc:C i with
 | none => rw [hc] at h1; simp only at h1; rw [h1]; rfl
 | some p =>
  obtain⟨k,y⟩:=p;rw[hc] at h1;obtain⟨hy,g,hg,hsv⟩:=h1;rw[hsv];rfl
theorem HoldsS.put{ds:DSt}{s:SSt}{C:Nat->Option (List UInt8×List UInt8)}{i:Nat}{kek key:List UInt8}(h:SInv ds s)(hC:HoldsS ds C)(hy:key.length=32)(h0:ds.offAt=0)(hdd:s.dead=false)(hi:i<24)(hpu:s.puts.toNat<1000000000000) :
  HoldsS (He ds s i kek key hy).1 (setC C i (some (kek,key))):=by
 have hn:(s.puts+1).toNat=s.puts.toNat+1:=by
  rw[qN];show(s.puts.toNat+1) % 18446744073709551616=_;omega
 have hpos:0<s.puts+1:=by rw[mS,hn];exact Nat.succ_pos _
 rw[E4 hy h0 h.pend h.len hdd hi];intro j hj;simp only;rw[oe _ _ _ _ _ h.len hi];unfold setC;by_cases hij:j=i
 ·subst hij;rw[if_pos rfl,if_pos rfl];have hwl:=iF kek j (s.puts+1).toNat key hy;refine⟨hy,s.puts+1,hpos,?_⟩
  have:=y6 (s.puts+1) ⟨rh kek j (s.puts+1).toNat key,hwl⟩ hpos
  rw[rC _ (by rw[iB,hwl])];exact this
 ·rw[if_neg hij,if_neg (λe=>hij e.symm),if_neg (by omega)];exact hC j hj
theorem HoldsS.erase{ds:DSt}{s:SSt}{C:Nat->Option (List UInt8×List UInt8)}{i:Nat}(h:SInv ds s)(hC:HoldsS ds C)(h0:ds.offAt=0)(hdd:s.dead=false)(hi:i<24) :
  HoldsS (wJ ds s i).1 (setC C i none):=by
 rw[yB h0 h.pend h.len hdd hi];intro j hj;simp only;have hlen:=h.len;rw[rZ _ _ _ _ _ (by omega)];unfold setC;by_cases hij:j=i
 ·subst hij;rw[if_pos rfl,if_pos rfl];simp only;rw[vF,DT]
 ·rw[if_neg hij,if_neg (λe=>hij e.symm)];exact hC j hj
theorem FT(k:List Sec)(m:List (Int×Sec))(j:Nat)(h:j<k.length):(DSt.apply k m).getD j sec0=(cF (j:Int) m).getD (k.getD j sec0):=by
 unfold DSt.apply;rw[eN,yU,eN,bN h];rfl
def dsN(n:Nat):DSt:=⟨0,0,List.replicate n sec0,[]⟩
theorem Bw(n:Nat)(h:n<=4000):(dsN n).Fine:=⟨en _,en _,λp hp=>by simp[dsN] at hp,by simpa [dsN] using h⟩
end Go.Sac
namespace Go.Sac
open Go
theorem qt{κ ν:Type}[DecidableEq κ](i k:κ)(v:ν)(m:List (κ×ν)):cF i (dY k v m)=if i=k then some v else cF i m:=by
 induction m with
 | nil =>
  simp only[dY,cF]
 | cons p m ih =>
  obtain⟨x,u⟩:=p;simp only[dY];by_cases h:k=x
  ·subst h;simp only[if_true,cF];by_cases hi:i=k <;> simp[hi]
  ·simp only[h,if_false,cF];by_cases hi:i=x
   ·subst hi
    have:¬i=k:=λe=>h e.symm
    simp[this]
   ·simp only[hi,if_false];exact ih
theorem CU{κ ν:Type}[DecidableEq κ](i k:κ)(m:List (κ×ν))(h:(m.map (·.1)).Nodup):cF i (kC k m)=if i=k then none else cF i m:=by
 induction m with
 | nil => simp [kC, cF]
 | cons p m ih =>
  obtain⟨x,u⟩:=p;simp only[eZ,jE] at h;simp only[kC];by_cases hk:k=x
  ·subst hk;simp only[if_true];by_cases hi:i=k
   ·subst hi;rw[if_pos rfl,sT h.1]
   ·rw[if_neg hi];simp[cF,hi]
  ·simp only[hk,if_false,cF];by_cases hi:i=x
   ·subst hi
    have:¬i=k:=λe=>hk e.symm
    simp[this]
   ·simp only[hi,if_false];exact ih h.2
def SetAt(w:World)(r:Nat)(f:PgF):Prop:=∃m:List (UInt32×Value),MapAt w r m/\∀k,cF k m=if f k=true then some (.bool true) else none
def fb(f:PgF)(k:UInt32):PgF:=λj=>decide (j=k)||f j
def eW(f:PgF)(k:UInt32):PgF:=λj => !decide (j=k)&&f j
section
variable {w w':World}{r:Nat}{f:PgF}
theorem SetAt.mod{S:List Nat}(h:SetAt w r f)(hm:Chg S w w')(hn:r∉S):SetAt w' r f:=by
 obtain⟨m,h1,h2⟩:=h;exact⟨m,h1.mod hm hn,h2⟩
theorem SetAt.chg0(h:SetAt w r f)(hm:Chg [] w w'):SetAt w' r f:=h.mod hm (by simp)
theorem SetAt.lt(h:SetAt w r f):r<w.heap.size:=by
 obtain⟨m,h1,h2⟩:=h;exact h1.lt
theorem SetAt.nil(h:MapAt w r ([]:List (UInt32×Value))):SetAt w r kz:=⟨[],h,λk=>by simp[cF,kz]⟩
theorem SetAt.look{k:UInt32}{m:List (UInt32×Value)}(h:∀k,cF k m=if f k=true then some (.bool true) else none):(cF k m).getD (.bool false)=.bool (f k):=by
 rw[h k];cases f k <;> rfl
theorem rB{m:List (UInt32×Value)}(h:∀k,cF k m=if f k=true then some (.bool true) else none)(k:UInt32):∀j,cF j (dY k (.bool true) m)=if fb f k j=true then some (.bool true) else none:=by
 intro j;rw[qt];unfold fb;by_cases hj:j=k
 ·subst hj;simp
 ·rw[if_neg hj,h j,decide_eq_false hj,qL]
theorem Eu{m:List (UInt32×Value)}(h:∀k,cF k m=if f k=true then some (.bool true) else none)(hn:(m.map (·.1)).Nodup)(k:UInt32):∀j,cF j (kC k m)=if eW f k j=true then some (.bool true) else none:=by
 intro j;rw[CU _ _ _ hn];unfold eW;by_cases hj:j=k
 ·subst hj;simp
 ·rw[if_neg hj,h j,decide_eq_false hj,sD,j6]
end
theorem FP(l:List UInt8)(k j:Nat)(hk:k / 8<l.length):jx (l.set (k / 8) (l.getD (k / 8) 0 ||| Cu 1 (k % 8))) j=(decide (j=k)||jx l j):=by
 unfold jx;by_cases hj:j / 8=k / 8
 ·rw[hj,eN,List.getElem?_set_self hk,ze,UInt8.toNat_or,Nat.testBit_or];have h1:(Cu 1 (k % 8)).toNat=2 ^ (k % 8):=by
   unfold Cu;rw[jm]
   have:∀q:Fin 8,(((1:UInt8).toNat <<< q.1) % 2 ^ 8)=2 ^ q.1:=by decide
   exact this ⟨k % 8,by omega⟩
  rw[h1,Nat.testBit_two_pow,Bool.or_comm];congr 1;by_cases h2:j=k
  ·subst h2;simp
  ·rw[decide_eq_false h2,decide_eq_false (by omega)]
 ·rw[eN,List.getElem?_set_ne (λh=>hj h.symm),<-eN,decide_eq_false (λh=>hj (by rw[h])),qL]
def orBit(c:UInt8)(k:Nat):UInt8:=c ||| Cu 1 k
theorem bit_one(c:UInt8)(k:Nat)(hk:k<8):(shr8 c k &&& 1=1)↔c.toNat.testBit k=true:=by
 have:∀(c:Fin 256) (k:Fin 8),(shr8 (UInt8.ofNat c.1) k.1 &&& 1=1)↔(UInt8.ofNat c.1).toNat.testBit k.1=true:=by decide +kernel
 have:=this ⟨c.toNat,c.toNat_lt⟩ ⟨k,hk⟩
 rw[UInt8.ofNat_toNat] at this;exact this
theorem Dl(k:Nat):jx (List.replicate 50 0) k=false:=by
 unfold jx
 have:(List.replicate 50 (0:UInt8)).getD (k / 8) 0=0:=by
  rw[eN,List.getElem?_replicate];split <;> rfl
 rw[this];simp
abbrev M50:={ l:List UInt8 // l.length=50 }
instance:Flat M50:=⟨50,λs=>bq s.1,λs=>by rw[aV,s.2];rfl,λs=>gy s.1⟩
def m50(f:PgF):M50:=⟨eT f,fy f⟩
def ey(s:Sup)(u r:Nat):List Value:=[.int .u32 s.root.toNat,str s.txt,.map (some u),.map (some r),.int .u64 s.commit.toNat,.int .u32 s.epoch.toNat]
def EU(s:Sup)(u r:Nat):Value:=.agg (ey s u r).toArray
structure Sup.Ok(s:Sup):Prop where
 txt:s.txt.length<=200
 used:∀k,s.used k=true->k.toNat<400
 written:∀k,s.written k=true->k.toNat<400
theorem fg(s:Sup)(u r:Nat):∀q∈ey s u r,fM q=true:=by
 intro q hq;simp only[ey,bZ,dH,or_false] at hq;rcases hq with rfl|rfl|rfl|rfl|rfl|rfl <;> rfl
theorem Cp(n:Nat):gP ((UInt64.ofNat n).toNat:Int)=UInt32.ofNat n:=by
 rw[xZ];apply UInt32.toNat_inj.1;simp
theorem supC_of(b:List UInt8)(u r:Nat):[.int .u32 (gP ((UInt64.ofNat (dF ((b.drop (8+4)).take 4))).toNat:Int)).toNat,str ((b.drop 18).take (txN b)),.map (some u),.map (some r),.int .u64 (UInt64.ofNat (dF (b.take 8))).toNat,.int .u32 (gP ((UInt64.ofNat (dF ((b.drop 8).take 4))).toNat:Int)).toNat]=ey (kF b) u r:=by
 rw[Cp,Cp];rfl
theorem AM{k b:List UInt8}(h:150+txN b<=b.length)(h2:txN b<=200):dX k b=if (b.drop (118+txN b)).take 32=lQ k (b.take (118+txN b)) then some (kF b) else none:=by
 unfold dX;rw[if_neg (by omega)]
end Go.Sac
namespace Go.Sac
open Go Go.Maps Go.Proofs Go.Shelf
theorem yH{κ:Type}[Key κ]{P:Program}{ρ:Ren}(L:SlLaysW.n5 P ρ)(w:World)(r:Nat)(m:List (κ×Value))(hm:MapAt w r m) :
  Ret P (ρ.f 5) #[.map (some r)] w λv w'=>∃q,v=.map (some q)/\MapAt w' q m/\Chg [] w w'/\w.heap.size<=q:=by
 obtain⟨es,cl,hb,h⟩:=hm;refine Calls.mono (AnyW.maps_Clone L r es cl w hb) ?_;rintro e w' ⟨rfl,rfl⟩;refine⟨_,rfl,_,rfl,⟨es,cl,?_,h⟩,Chg.push w (.map es cl),aN _⟩;exact fU w (.map es cl)
theorem FN{P:Program}{ρ:Ren}(L:SlLaysW.n5 P ρ)(w:World)(r:Nat)(f:PgF)(hm:SetAt w r f) :
  Ret P (ρ.f 5) #[.map (some r)] w λv w'=>∃q,v=.map (some q)/\SetAt w' q f/\Chg [] w w'/\w.heap.size<=q:=by
 obtain⟨m,h1,h2⟩:=hm;refine Calls.mono (yH L w r m h1) ?_;rintro e w' ⟨v,rfl,q,rfl,h3,h4,h5⟩;exact⟨_,rfl,q,rfl,⟨m,h3,h2⟩,h4,h5⟩
end Go.Sac
namespace Go.Sac
open Go
structure Pst where
 root:UInt32
 txt:List UInt8
 used:PgF
 written:PgF
structure Pg where
 now:Pst
 kept:Sup
 at_:Nat
 count:UInt32
 gens:UInt32->Option UInt64
 broken:Bool
def Pg.free(P:Pg)(i:UInt32):Bool := !P.now.used i && !P.kept.used i
def Pg.fresh(P:Pg)(i:UInt32):Bool:=P.now.used i && !P.kept.used i
structure PR where
 pb:Nat
 u:Nat
 r:Nat
 ku:Nat
 kr:Nat
 g:Nat
def PF(R:PR):List Nat:=[R.pb,R.u,R.r,R.ku,R.kr,R.g]
def stC(s:Pst)(u r:Nat):List Value:=[.int .u32 s.root.toNat,str s.txt,.map (some u),.map (some r)]
def stV(s:Pst)(u r:Nat):Value:=.agg (stC s u r).toArray
def Sup.st(s:Sup):Pst:=⟨s.root,s.txt,s.used,s.written⟩
theorem vC(s:Pst)(u r:Nat):∀q∈stC s u r,fM q=true:=by
 intro q hq;simp only[stC,bZ,dH,or_false] at hq;rcases hq with rfl|rfl|rfl|rfl <;> rfl
def pgA(P:Pg)(R:PR)(b:Nat):List Value:=[.int .u32 P.now.root.toNat,str P.now.txt,.map (some R.u),.map (some R.r),.pointer (some ⟨b,0,none⟩)]
def pgC(P:Pg)(R:PR):List Value:=[.int .u32 P.kept.root.toNat,str P.kept.txt,.map (some R.ku),.map (some R.kr),.int .u64 P.kept.commit.toNat,.int .u32 P.kept.epoch.toNat,.int .i64 P.at_,.int .u32 P.count.toNat,.map (some R.g),.bool P.broken]
def pgL(k pk:List UInt8)(A C:List Value):List Value:=A++(bq k++(bq pk++C))
def GenAt(w:World)(r:Nat)(f:UInt32->Option UInt64):Prop:=∃m:List (UInt32×Value),MapAt w r m/\∀k,cF k m=(f k).map λx=>Value.int .u64 x.toNat
def PagerAt(w:World)(R:PR)(b:Nat)(k:List UInt8)(P:Pg):Prop :=
 Blk w R.pb (pgL k (bs k bC 0) (pgA P R b) (pgC P R))/\SetAt w R.u P.now.used/\SetAt w R.r P.now.written/\SetAt w R.ku P.kept.used/\SetAt w R.kr P.kept.written/\GenAt w R.g P.gens/\(PF R).Nodup
section
variable {k pk:List UInt8}{A A' C C':List Value}
theorem nN(k:List UInt8):(bq k).length=k.length:=by rw[aV];show k.length*1=_;omega
theorem fm(hk:k.length=32)(hp:pk.length=32)(hA:A.length=5)(hC:C.length=10):(pgL k pk A C).length=79:=by
 unfold pgL;simp only[aF,nN];omega
theorem pgL_a(hA:A.length=5)(i:Nat)(hi:i<5){v:Value}(h:A[i]?=some v):(pgL k pk A C)[i]?=some v:=by
 unfold pgL;rw[iO (by omega)];exact h
theorem pgL_c(hk:k.length=32)(hp:pk.length=32)(hA:A.length=5)(i:Nat){v:Value}(h:C[i]?=some v):(pgL k pk A C)[69+i]?=some v:=by
 unfold pgL;rw[g0 (by omega),g0 (by rw[nN];omega),g0 (by rw[nN,nN];omega),nN,nN,<-h];congr 1;omega
theorem pgL_k(_:k.length=32)(hA:A.length=5):((pgL k pk A C).drop 5).take (bq k).length=bq k:=by
 unfold pgL;rw[et hA,cR rfl]
theorem pgL_pk(hk:k.length=32)(hA:A.length=5):((pgL k pk A C).drop 37).take (bq pk).length=bq pk:=by
 unfold pgL;rw[show 37=5+32 from rfl,<-gD,et hA,et (by rw[nN];exact hk),cR rfl]
theorem pgL_at(hk:k.length=32)(hp:pk.length=32)(hA:A.length=5):(pgL k pk A C).drop 69=C:=by
 unfold pgL;rw[show 69=5+(32+32) from rfl,<-gD,et hA,<-gD];have h1:(bq k).length=32:=by rw[nN];exact hk
 have h2:(bq pk).length=32:=by rw[nN];exact hp
 rw[et h1,et h2]
theorem rJ(hA:A.length=5)(i:Nat)(l:List Value)(hi:i+l.length<=5)(h:spl A i l=A'):spl (pgL k pk A C) i l=pgL k pk A' C:=by
 subst h;unfold pgL spl;rw[lJ (by omega),sB (by omega)];simp only[bQ]
theorem kW(X Y l:List Value)(n i:Nat)(hX:X.length=n):spl (X++Y) (n+i) l=X++spl Y i l:=by
 unfold spl;rw[List.take_append,cd (by omega),BX,gm (by omega),show n+i-X.length=i by omega,show n+i+l.length-X.length=i+l.length by omega];simp only[bQ,dK]
theorem lz(hk:k.length=32)(hp:pk.length=32)(hA:A.length=5)(i:Nat)(l:List Value)(h:spl C i l=C'):spl (pgL k pk A C) (69+i) l=pgL k pk A C':=by
 subst h;unfold pgL;rw[show 69+i=5+(32+(32+i)) by omega,kW _ _ _ 5 _ hA,kW _ _ _ 32 _ (by rw[nN];exact hk),kW _ _ _ 32 _ (by rw[nN];exact hp)]
end
section
variable {w w':World}{R:PR}{b:Nat}{k:List UInt8}{P:Pg}
theorem GenAt.mod{S:List Nat}{r:Nat}{f:UInt32->Option UInt64}(h:GenAt w r f)(hm:Chg S w w')(hn:r∉S):GenAt w' r f:=by
 obtain⟨m,h1,h2⟩:=h;exact⟨m,h1.mod hm hn,h2⟩
theorem PagerAt.chg{S:List Nat}(h:PagerAt w R b k P)(hm:Chg S w w')(hn:∀x∈PF R,x∉S):PagerAt w' R b k P:=by
 obtain⟨h1,h2,h3,h4,h5,h6,h7⟩:=h;exact⟨h1.chg hm (hn _ (by simp[PF])),h2.mod hm (hn _ (by simp[PF])),h3.mod hm (hn _ (by simp[PF])),h4.mod hm (hn _ (by simp[PF])),h5.mod hm (hn _ (by simp[PF])),h6.mod hm (hn _ (by simp[PF])),h7⟩
theorem PagerAt.chg0(h:PagerAt w R b k P)(hm:Chg [] w w'):PagerAt w' R b k P:=h.chg hm (by simp)
theorem PagerAt.lt(h:PagerAt w R b k P):∀x∈PF R,x<w.heap.size:=by
 obtain⟨h1,h2,h3,h4,h5,h6,h7⟩:=h;intro x hx;simp only[PF,bZ,dH,or_false] at hx;obtain⟨m,h6,_⟩:=h6;rcases hx with rfl|rfl|rfl|rfl|rfl|rfl
 ·exact h1.lt
 ·exact h2.lt
 ·exact h3.lt
 ·exact h4.lt
 ·exact h5.lt
 ·exact h6.lt
theorem PagerAt.a(h:PagerAt w R b k P)(i:Nat)(hi:i<5){v:Value}(hv:(pgA P R b)[i]?=some v):w.cell? ⟨R.pb,i,none⟩=some v:=h.1.c (pgL_a O i hi hv)
theorem PagerAt.c(h:PagerAt w R b k P)(hk:k.length=32)(i:Nat){v:Value}(hv:(pgC P R)[i]?=some v):w.cell? ⟨R.pb,69+i,none⟩=some v:=h.1.c (pgL_c hk (dP _ _ _) O i hv)
theorem PagerAt.atK(h:PagerAt w R b k P)(hk:k.length=32):At w R.pb 5 (bq k):=h.1.at (pgL_k hk O)
theorem PagerAt.atP(h:PagerAt w R b k P)(hk:k.length=32):At w R.pb 37 (bq (bs k bC 0)):=h.1.at (pgL_pk hk O)
end
section
variable {w w':World}{R:PR}{b:Nat}{k:List UInt8}{P:Pg}
theorem PR.apart(h:(PF R).Nodup):(R.pb≠R.u/\R.pb≠R.r/\R.pb≠R.ku/\R.pb≠R.kr/\R.pb≠R.g)/\(R.u≠R.r/\R.u≠R.ku/\R.u≠R.kr/\R.u≠R.g)/\(R.r≠R.ku/\R.r≠R.kr/\R.r≠R.g)/\(R.ku≠R.kr/\R.ku≠R.g)/\R.kr≠R.g:=by
 simp only[PF,jE,bZ,dH,or_false,not_or] at h;obtain⟨h1,h2,h3,h4,h5,_⟩:=h;exact⟨h1,h2,h3,h4,h5⟩
theorem PagerAt.updU{f:PgF}(h:PagerAt w R b k P)(hs:SetAt w' R.u f)(hc:Chg [R.u] w w'):PagerAt w' R b k { P with now:={ P.now with used:=f } }:=by
 obtain⟨h1,h2,h3,h4,h5,h6,h7⟩:=h;obtain⟨q1,q2,q3,q4,q5⟩:=PR.apart h7;exact⟨h1.nb hc q1.1,hs,h3.mod hc (by simpa using Ne.symm q2.1),h4.mod hc (by simpa using Ne.symm q2.2.1),h5.mod hc (by simpa using Ne.symm q2.2.2.1),h6.mod hc (by simpa using Ne.symm q2.2.2.2),h7⟩
theorem PagerAt.updW{f:PgF}(h:PagerAt w R b k P)(hs:SetAt w' R.r f)(hc:Chg [R.r] w w'):PagerAt w' R b k { P with now:={ P.now with written:=f } }:=by
 obtain⟨h1,h2,h3,h4,h5,h6,h7⟩:=h;obtain⟨q1,q2,q3,q4,q5⟩:=PR.apart h7;exact⟨h1.nb hc q1.2.1,h2.mod hc (by simpa using q2.1),hs,h4.mod hc (by simpa using Ne.symm q3.1),h5.mod hc (by simpa using Ne.symm q3.2.1),h6.mod hc (by simpa using Ne.symm q3.2.2),h7⟩
theorem PagerAt.updG{f:UInt32->Option UInt64}(h:PagerAt w R b k P)(hs:GenAt w' R.g f)(hc:Chg [R.g] w w'):PagerAt w' R b k { P with gens:=f }:=by
 obtain⟨h1,h2,h3,h4,h5,h6,h7⟩:=h;obtain⟨q1,q2,q3,q4,q5⟩:=PR.apart h7;exact⟨h1.nb hc q1.2.2.2.2,h2.mod hc (by simpa using q2.2.2.2),h3.mod hc (by simpa using q3.2.2),h4.mod hc (by simpa using q4.2),h5.mod hc (by simpa using q5),hs,h7⟩
theorem PagerAt.updC{P':Pg}(h:PagerAt w R b k P)(hB:Blk w' R.pb (pgL k (bs k bC 0) (pgA P' R b) (pgC P' R)))(hc:Chg [R.pb] w w')(h1:P'.now.used=P.now.used)(h2:P'.now.written=P.now.written)(h3:P'.kept.used=P.kept.used)(h4:P'.kept.written=P.kept.written)(h5:P'.gens=P.gens):PagerAt w' R b k P':=by
 obtain⟨g1,g2,g3,g4,g5,g6,g7⟩:=h;obtain⟨q1,q2,q3,q4,q5⟩:=PR.apart g7;refine⟨hB,?_,?_,?_,?_,?_,g7⟩
 ·rw[h1];exact g2.mod hc (by simpa using Ne.symm q1.1)
 ·rw[h2];exact g3.mod hc (by simpa using Ne.symm q1.2.1)
 ·rw[h3];exact g4.mod hc (by simpa using Ne.symm q1.2.2.1)
 ·rw[h4];exact g5.mod hc (by simpa using Ne.symm q1.2.2.2.1)
 ·rw[h5];exact g6.mod hc (by simpa using Ne.symm q1.2.2.2.2)
end
def fS(P:Pg)(n:Nat):Nat:=((List.range n).filter λi=>P.free (UInt32.ofNat i)).length
theorem CA(P:Pg)(n:Nat):fS P (n+1)=fS P n+(if P.free (UInt32.ofNat n)=true then 1 else 0):=by
 unfold fS;rw[iD,pZ,aF];congr 1;by_cases h:P.free (UInt32.ofNat n)=true <;> simp[h]
theorem H6(P:Pg)(n:Nat):fS P n<=n:=by
 unfold fS;exact bm (uM _ _) (by simp)
def dO(l:List UInt8):List UInt8:=be 2 l.length++l++List.replicate (480-l.length) 0
def hG(pk:List UInt8)(i g:Nat)(l:List UInt8):List UInt8:=be 8 g++gh pk (dj i g) bC (dO l)++List.replicate 6 0
theorem lZ(l:List UInt8)(h:l.length<=480):(dO l).length=482:=by simp[dO,aP];omega
theorem nk(pk:List UInt8)(i g:Nat)(l:List UInt8)(h:l.length<=480):(hG pk i g l).length=512:=by
 unfold hG;simp only[aF,iG,aP,lZ l h,cQ]
def Pg.gen(P:Pg):UInt64:=Az (du (P.kept.epoch.toNat:Int)) 32 ||| du (P.count.toNat:Int)
def sI(f:UInt32->Option UInt64)(i:UInt32)(g:UInt64):UInt32->Option UInt64:=λj=>if j=i then some g else f j
theorem Eh{f:UInt32->Option UInt64}{m:List (UInt32×Value)}(h:∀k,cF k m=(f k).map λx=>Value.int .u64 x.toNat)(i:UInt32)(g:UInt64):∀k,cF k (dY i (.int .u64 g.toNat) m)=(sI f i g k).map λx=>Value.int .u64 x.toNat:=by
 intro k;rw[qt];unfold sI;by_cases hk:k=i
 ·rw[if_pos hk,if_pos hk];rfl
 ·rw[if_neg hk,if_neg hk];exact h k
theorem GS{α:Type}(a b c m:List α)(hb:b.length=m.length){k:Nat}(hk:a.length=k):spl (a++b++c) k m=a++m++c:=by
 subst hk;unfold spl;have e:a++b++c=a++(b++c):=bQ _ _ _;rw[e,cR rfl,<-gD,et rfl,et hb]
theorem Ff(l:List UInt8)(h:l.length<=480):spl (be 2 l.length++List.replicate (482-2) (0:UInt8)) 2 l=dO l:=by
 have h2:List.replicate (482-2) (0:UInt8)=List.replicate l.length 0++List.replicate (480-l.length) 0:=by
  rw[uq];congr 1;omega
 rw[h2,<-bQ];exact GS _ _ _ _ (by simp) (aP _ _)
theorem iY(g:Nat)(s:List UInt8)(h:s.length=498):spl (be 8 g++List.replicate (512-8) (0:UInt8)) 8 s=be 8 g++s++List.replicate 6 0:=by
 have h2:List.replicate (512-8) (0:UInt8)=List.replicate 498 0++List.replicate 6 0:=by
  rw[uq]
 rw[h2,<-bQ];exact GS _ _ _ _ (by rw[h,cQ]) (aP _ _)
theorem HN{f:UInt32->Option UInt64}{m:List (UInt32×Value)}(h:∀k,cF k m=(f k).map λx=>Value.int .u64 x.toNat)(i:UInt32):(cF i m).getD (.int .u64 0)=.int .u64 ((f i).getD 0).toNat:=by
 rw[h i];cases f i with
 | none => simp
 | some x => simp
theorem Au(X Y l:List Value)(h:l.length=X.length):spl (X++Y) 0 l=l++Y:=by
 unfold spl;rw[mW,dK,jP,h,et rfl]
theorem Hi{z k pk:List UInt8}{A C:List Value}(hz:z.length=32)(hk:k.length=32)(hA:A.length=5):spl (pgL z pk A C) 5 (bq k)=pgL k pk A C:=by
 unfold pgL;rw[show 5=5+0 from rfl,kW _ _ _ 5 _ hA,Au _ _ _ (by rw[nN,nN,hz,hk])]
theorem Hh{z k pk:List UInt8}{A C:List Value}(hk:k.length=32)(hz:z.length=32)(hp:pk.length=32)(hA:A.length=5):spl (pgL k z A C) 37 (bq pk)=pgL k pk A C:=by
 unfold pgL;rw[show 37=5+(32+0) from rfl,kW _ _ _ 5 _ hA,kW _ _ _ 32 _ (by rw[nN];exact hk),Au _ _ _ (by rw[nN,nN,hz,hp])]
theorem fill2{place:Nat->Option (Nat×Nat)}{cs cs' l:List Value}{i off size:Nat}{v:Value}{rest:List (Nat×Value)}{r:Option (Array Value)}(hp:place i=some (off,size))(hv:v.cells.toList=l)(hl:l.length=size)(ho:off+size<=cs.length)(hs:spl cs off l=cs')
  (h:Instr.fill place cs'.toArray rest=r):Instr.fill place cs.toArray ((i,v)::rest)=r:=by
 subst hs;exact bR hp hv hl ho h
def z32:List UInt8:=List.replicate 32 0
def pgA0:List Value:=[.int .u32 0,str [],.map none,.map none,.pointer none]
def pgC0:List Value:=[.int .u32 0,str [],.map none,.map none,.int .u64 0,.int .u32 0,.int .i64 0,.int .u32 0,.map none,.bool false]
theorem qk{place:Nat->Option (Nat×Nat)}{k pk:List UInt8}(hk:k.length=32)(hpk:pk.length=32)(s:Sup)(st:Pst)(b u' r' u rr g a:Nat)(h0:place 0=some (0,4))(h1:place 1=some (4,1))(h2:place 2=some (5,32))(h3:place 3=some (37,32))(h4:place 4=some (69,6))(h5:place 5=some (75,1))(h7:place 7=some (77,1)) :
  Instr.fill place (pgL z32 z32 pgA0 pgC0).toArray [(0,stV st u' r'),(1,.pointer (some ⟨b,0,none⟩)),(2,cI k),(3,cI pk),(4,EU s u rr),(5,.int .i64 a),(7,.map (some g))] =
   some (pgL k pk (pgA ⟨st,s,a,0,λ_=>none,false⟩ ⟨0,u',r',u,rr,g⟩ b) (pgC ⟨st,s,a,0,λ_=>none,false⟩ ⟨0,u',r',u,rr,g⟩)).toArray:=by
 have hz:z32.length=32:=rfl;refine fill2 (l:=stC st u' r') h0 O O (by rw[fm hz hz rfl rfl];omega) (rJ O 0 (stC st u' r') (al O) O) ?_;refine fill2 (l:=[.pointer (some ⟨b,0,none⟩)]) h1 O O (by rw[fm hz hz rfl rfl];omega) (rJ O 4 [.pointer (some ⟨b,0,none⟩)] (al O) O) ?_;refine fill2 (l:=bq k) h2 O (by rw[nN];exact hk) (by rw[fm hz hz rfl rfl];omega) (Hi hz hk O) ?_;refine fill2 (l:=bq pk) h3 O (by rw[nN];exact hpk) (by rw[fm hk hz rfl rfl];omega) (Hh hk hz hpk O) ?_;refine fill2 (l:=ey s u rr) h4 O O (by rw[fm hk hpk rfl rfl];omega) (lz hk hpk O 0 (ey s u rr) O) ?_;refine fill2 (l:=[.int .i64 a]) h5 O O (by rw[fm hk hpk rfl rfl];omega) (lz hk hpk O 6 [.int .i64 a] O) ?_;refine fill2 (l:=[.map (some g)]) h7 O O (by rw[fm hk hpk rfl rfl];omega) (lz hk hpk O 8 [.map (some g)] O) ?_;exact ei O
theorem vn{ds:DSt}(i:Int)(l:List UInt8)(hf:ds.Fine)(h:ds.steps+(l.length+63) / 64<=1000000000000):(ds.writes i l).1.Fine/\(ds.writes i l).1.steps<=ds.steps+(l.length+63) / 64/\(ds.writes i l).1.kept=ds.kept:=DSt.wr_bnd _ ds i l hf h
theorem kX(k:List UInt8)(ds:DSt)(a:Nat)(s:Sup)(hf:ds.Fine)(ht:s.txt.length<=200)(h:ds.steps+20<=1000000000000) :
  (db k ds a s).1.Fine/\(db k ds a s).1.steps<=ds.steps+8/\(db k ds a s).1.kept.length=ds.kept.length:=by
 have hl:(dR (cA k s) s.commit).length=64*((150+s.txt.length+55) / 56):=by rw[m8,gQ]
 obtain⟨h1,h2,h3⟩:=vn ((a:Int)*16) (dR (cA k s) s.commit) hf (by omega);unfold db
 split
 ·have h4:=DSt.flush_steps (ds.writes ((a:Int)*16) (dR (cA k s) s.commit)).1;exact⟨h1.flush (by omega),by omega,by rw[DSt.flush_len,h3]⟩
 ·exact⟨h1,by omega,by rw[h3]⟩
theorem FC(ds:DSt)(h:ds.flush.2=0):ds.flush.1.off=false:=by
 unfold DSt.flush at h ⊢;by_cases hq:ds.step.off=true
 ·rw[if_pos hq] at h;exact absurd h (show ¬(61:Int)=0 by decide)
 ·rw[if_neg hq]
  have:ds.step.off=false:=by simpa using hq
  exact this
theorem Fu(k:List UInt8)(ds:DSt)(a:Nat)(s:Sup)(h:(db k ds a s).2=0):(db k ds a s).1.off=false:=by
 unfold db at h ⊢
 split at h
 ·rename_i h0
  rw[if_pos h0];exact FC _ h
 ·rename_i h0
  exact absurd h h0
theorem CK{k b:List UInt8}{s:Sup}(h:dX k b=some s):s.Ok:=by
 unfold dX at h
 split at h
 ·cases h
 ·rename_i h0
  split at h
  ·cases h;refine⟨?_,λi hi=>yf hi,λi hi=>yf hi⟩;show((b.drop 18).take (txN b)).length<=200;rw[bz];omega
  ·cases h
theorem tO{k:List UInt8}{ds:DSt}{s:Sup}{a:Nat}(h:newest k ds=some (s,a)):a<=1/\dX k (iU (fB ds a))=some s:=by
 have h0:∀(o:Option (Sup×Nat)) (i:Nat),eo k ds o i=o∨∃s,eo k ds o i=some (s,i)/\dX k (iU (fB ds i))=some s:=by
  intro o i;unfold eo
  split
  ·exact .inl O
  ·rename_i s0 hs0
   split
   ·exact .inr ⟨_,rfl,hs0⟩
   ·split
    ·exact .inr ⟨_,rfl,hs0⟩
    ·exact .inl O
 unfold newest at h;rcases h0 (eo k ds none 0) 1 with h1|⟨s1,h1,h2⟩
 ·rw[h1] at h;rcases h0 none 0 with h3|⟨s3,h3,h4⟩
  ·rw[h3] at h;cases h
  ·rw[h3] at h;cases h;exact⟨by omega,h4⟩
 ·rw[h1] at h;cases h;exact⟨by omega,h2⟩
theorem AY{k:List UInt8}{ds:DSt}(h:pF (newest k ds)<0):newest k ds=none:=by
 cases hn:newest k ds with
 | none => rfl
 | some p => obtain ⟨s, a⟩ := p; rw [hn] at h; exact absurd h (by show ¬ ((a : Int) < 0); omega)
theorem Fo{k:List UInt8}{ds:DSt}(h:¬pF (newest k ds)<0):∃s a,newest k ds=some (s,a)/\pF (newest k ds)=(a:Int):=by
 cases hn:newest k ds with
 | none => rw [hn] at h; exact absurd (by show (-1 : Int) < 0; omega) h
 | some p => obtain ⟨s, a⟩ := p; exact ⟨s, a, rfl, rfl⟩
def wk(pk:List UInt8)(i:Nat)(t:List UInt8):Option (List UInt8) :=
 if pP pk (dj i (UInt64.ofNat (dF (t.take 8))).toNat) bC ((t.drop 8).take 498) then
  some (((gK pk (dj i (UInt64.ofNat (dF (t.take 8))).toNat) ((t.drop 8).take 482)).drop 2).take (min (dF ((gK pk (dj i (UInt64.ofNat (dF (t.take 8))).toNat) ((t.drop 8).take 482)).take 2)) 480))
 else none
def A2(ds:DSt)(i:UInt32):UInt64:=UInt64.ofNat (dF ((ds.reads (32+(i.toNat:Int)*8) 1).take 8))
def ez(P:Pg)(root:UInt32)(txt:List UInt8):Sup:=⟨root,txt,P.now.used,P.now.written,P.kept.commit+1,P.kept.epoch⟩
theorem sS(k:List UInt8)(ds:DSt):pF (newest k ds) = -1∨pF (newest k ds)=0∨pF (newest k ds)=1:=by
 have h0:∀(o:Option (Sup×Nat)) (i:Nat),eo k ds o i=o∨∃s,eo k ds o i=some (s,i):=by
  intro o i;unfold eo
  split
  ·exact .inl O
  ·split
   ·exact .inr ⟨_,rfl⟩
   ·split
    ·exact .inr ⟨_,rfl⟩
    ·exact .inl O
 unfold newest;rcases h0 (eo k ds none 0) 1 with h|⟨s,h⟩
 ·rw[h];rcases h0 none 0 with h|⟨s,h⟩
  ·rw[h];exact .inl O
  ·rw[h];exact .inr (.inl O)
 ·rw[h];exact .inr (.inr O)
def gf(k:List UInt8)(ds:DSt)(i:Nat):Sup:=⟨0,[],kz,kz,fK k ds+du (i:Int),uc (newest k ds)+1⟩
def iS(k:List UInt8)(ds:DSt)(i:Nat):Nat:=((pF (newest k ds)+1+i) % 2).toNat
def j8(k:List UInt8)(ds:DSt):Nat->DSt×Int
 | 0 => (ds, 0)
 | i + 1 => db k (j8 k ds i).1 (iS k ds i) (gf k ds i)
theorem Ek(k:List UInt8)(ds:DSt)(i:Nat):iS k ds i<=1:=by unfold iS;omega
theorem D8(k:List UInt8)(ds:DSt)(u r:Nat){ep:UInt32}(h:ep=uc (newest k ds)):ey (gf k ds 0) u r=[.int .u32 0,str [],.map (some u),.map (some r),.int .u64 (fK k ds).toNat,.int .u32 (ep+1).toNat]:=by
 have h0:fK k ds+du ((0:Nat):Int)=fK k ds:=by rw[dV];exact UInt64.add_zero _
 subst h;show[Value.int .u32 0,str [],.map (some u),.map (some r),.int .u64 (fK k ds+du ((0:Nat):Int)).toNat,.int .u32 (uc (newest k ds)+1).toNat]=_;rw[h0]
theorem Bh(k:List UInt8)(ds:DSt)(hf:ds.Fine)(h:ds.steps+60<=1000000000000):∀i,i<=3->(j8 k ds i).1.Fine/\(j8 k ds i).1.steps<=ds.steps+8*i/\(j8 k ds i).1.kept.length=ds.kept.length
 | 0, _ => ⟨hf, aN _, rfl⟩
 | i + 1, hi => by
  obtain⟨h1,h2,h3⟩:=Bh k ds hf h i (by omega);obtain⟨q1,q2,q3⟩:=kX k (j8 k ds i).1 (iS k ds i) (gf k ds i) h1 (by show 0<=200;omega) (by omega);exact⟨q1,by show(db k (j8 k ds i).1 (iS k ds i) (gf k ds i)).1.steps<=_;omega,by show(db k (j8 k ds i).1 (iS k ds i) (gf k ds i)).1.kept.length=_;rw[q3,h3]⟩
theorem fmtS_ok(k:List UInt8)(ds:DSt)(i:Nat):(gf k ds i).Ok:=⟨by show 0<=200;omega,λ_ h=>Bool.noConfusion h,λ_ h=>Bool.noConfusion h⟩
def opS(k:List UInt8)(ds:DSt)(s:Sup):Sup:={ s with commit:=fK k ds,epoch:=s.epoch+1 }
section
variable {κ:Type}[Key κ][DecidableEq κ]
def EntAt(w:World)(r:Nat)(m:List (κ×Value))(k:κ)(born:Nat):Prop :=
 ∃es cl i,w.heap[r]?=some (.map es cl)/\es.findIdx? (λe=>(e.born:Int)==(born:Int))=some i /\
  ∀v,∀w2:World,w2.heap[r]?=some (.map (es.modify i λe=>{ e with val:=v }) cl)->MapAt w2 r (dY k v m)
theorem EntAt.mod{S:List Nat}{w w':World}{r:Nat}{m:List (κ×Value)}{k:κ}{born:Nat}(h:EntAt w r m k born)(hm:Chg S w w')(hn:r∉S):EntAt w' r m k born:=by
 obtain⟨es,cl,i,h1,h2⟩:=h;exact⟨es,cl,i,hm.blk h1 hn,h2⟩
variable {P:Program}{E:Env}{w:World}{ty t:TypeId}{x y z:Operand}
theorem Dd:exec P E (.mapEntry t x y) ty w=(kf (Instr.mapEntry t (ev E x) (ev E y))).run P w:=rfl
theorem A4:exec P E (.entryStore t x y z) ty w=(GI (Instr.entryStore t (ev E x) (ev E y) (ev E z))).run P w:=rfl
theorem yz{es:List MapEntry}(hn:(es.map (·.born)).Nodup){i:Nat}{e:MapEntry}(he:es[i]?=some e):es.findIdx? (λx=>(x.born:Int)==(e.born:Int))=some i:=by
 rw[List.findIdx?_eq_some_iff_getElem];have hi:=(List.getElem?_eq_some_iff.1 he).1;have hv:=(List.getElem?_eq_some_iff.1 he).2;refine⟨hi,by rw[hv];simp,λj hj hb=>?_⟩;have hj':j<es.length:=by omega
 simp only[beq_iff_eq] at hb;have h1:=(List.pairwise_iff_getElem.1 hn) j i (by simpa using hj') (by simpa using hi) hj;simp only[List.getElem_map,hv] at h1;omega
theorem s8(a:Array MapEntry)(p:MapEntry->Bool):a.findIdx? p=a.toList.findIdx? p:=by
 obtain⟨l⟩:=a;simp
theorem uV{kt vt:TypeId}{nf:TypeInfo}{zv:Value}{r:Nat}{k:κ}{m:List (κ×Value)}(ht:P.underlying t=some (.map kt vt))(hk:KeyOk P kt κ)(hi:P.info? vt=some nf)(hz:nf.zero=some zv)(hx:ev E x=.map (some r))(hy:ev E y=Key.enc k)(hm:MapAt w r m) :
  ∃v w',exec P E (.mapEntry t x y) ty w=.ok (.value v) w'/\∃born u,v=.tuple #[u,.int .i64 (born:Nat)]/\EntAt w' r m k born/\Chg [r] w w'/\w'.heap.size=w.heap.size:=by
 obtain⟨es,cl,hb,he,hn,hbn,hcl⟩:=hm;have hg:(getObj r).run P w=.ok (.map es cl) w:=by
  show Sem.run P (.getObj r .pure) w=_;simp only[Sem.run,hb]
 have hset:=λv=>qB k v es.toList m 0 he;have key:∃u born o,(Instr.mapEntry t (.map (some r)) (Key.enc k)).run P w=.ok (.tuple #[u,.int .i64 (born:Nat)]) (w.setB r o)/\EntAt (w.setB r o) r m k born:=by
  unfold Instr.mapEntry;rw[au (run_underlying ht w)];simp only[];rw[au hg];simp only[];rw[au (hk.chk _ k w),au (hk.fnd k es.toList _ w (oZ he))];cases hf:jv k es.toList (m.map (·.1)) 0 with
  | none =>
   simp only[hf] at hset ⊢;rw[au (dw hi hz w),au (iu hb)];refine⟨zv,cl,_,rfl,?_⟩;have hnb:(((es.push { key:=Key.enc k,val:=zv,born:=cl }).toList).map (·.born)).Nodup:=by
    simp only[Gd,gl,eZ,uL];refine List.nodup_append.2 ⟨hbn,by simp,?_⟩;intro a ha b hb';simp only[gk] at hb';obtain⟨e,he',rfl⟩:=List.mem_map.1 ha
    have:=hcl e he'
    omega
   refine⟨_,_,es.size,eG (cJ hb),?_,λv w2 hw2=>⟨_,_,hw2,?_,?_,?_,?_⟩⟩
   ·rw[s8];exact yz hnb (e:={ key:=Key.enc k,val:=zv,born:=cl }) (by simp)
   ·have hl:((es.push { key:=Key.enc k,val:=zv,born:=cl }).modify es.size λe=>{ e with val:=v }).toList=es.toList++[{ key:=Key.enc k,val:=v,born:=cl }]:=by
     rw[uP,Gd];apply mQ;intro i;rw[pW];by_cases hi':es.size=i
     ·subst hi';simp
     ·simp only[hi',if_false,List.getElem?_append,DH];by_cases hlt:i<es.size
      ·simp[hlt]
      ·obtain⟨d,hd⟩:∃d,i-es.size=d+1:=⟨i-es.size-1,by omega⟩
       simp[hlt,hd]
    rw[hl,(hset v).2.1];simp[he]
   ·rw[(hset v).2.1];simp only[gl,eZ,uL];exact List.nodup_append.2 ⟨hn,by simp,by simpa using λa b hab=>by intro hh;subst hh;exact(hset v).1 (List.mem_map.2 ⟨_,hab,rfl⟩)⟩
   ·have:(((es.push { key:=Key.enc k,val:=zv,born:=cl }).modify es.size λe=>{ e with val:=v }).toList.map (·.born))=((es.push { key:=Key.enc k,val:=zv,born:=cl }).toList).map (·.born):=by
     rw[uP];apply mQ;intro i;simp only[mP,pW]
     split
     ·cases (es.push { key:=Key.enc k,val:=zv,born:=cl }).toList[i]? <;> rfl
     ·cases (es.push { key:=Key.enc k,val:=zv,born:=cl }).toList[i]? <;> rfl
    rw[this];exact hnb
   ·intro e he';rw[uP] at he';obtain⟨i,hi'⟩:=List.mem_iff_getElem?.1 he';rw[pW] at hi';cases hh:(es.push { key:=Key.enc k,val:=zv,born:=cl }).toList[i]? with
    | none => rw [hh] at hi'; simp at hi'
    | some e0 =>
     rw[hh] at hi';have h0:e0.born<cl+1:=by
      have hmem:=ig hh;simp only[Gd,fZ,gk] at hmem;rcases hmem with h|rfl
      ·have:=hcl e0 h;omega
      ·simp
     by_cases hij:es.size=i
     ·simp[hij] at hi';subst hi';exact h0
     ·simp[hij] at hi';subst hi';exact h0
  | some q =>
   obtain⟨j,v'⟩:=q;simp only[hf,Nat.sub_zero] at hset ⊢;obtain⟨_,h2,_,_,h5,_⟩:=hset v';have hjs:j<es.toList.length:=h2;have hej:es.toList[j]?=some es.toList[j]:=bN hjs;have hej':es[j]?=some es.toList[j]:=by rw[<-hej];simp
   have hkj:(es.toList[j]).key=Key.enc k:=by rw[hej] at h5;simpa using h5
   have hkey:((es[j]?).map (·.key)).getD (Key.enc k)=Key.enc k:=by rw[hej'];exact hkj
   rw[hkey];have hst:(Instr.keyThatStays (Key.enc k) (Key.enc k)).run P w=.ok (Key.enc k) w:=by
    unfold Instr.keyThatStays;rw[if_pos (Key.bits k)];rfl
   rw[au hst,au (iu hb)];have hbo:((es[j]?).map (λx=>(x.born:Int))).getD 0=((es.toList[j]).born:Int):=by rw[hej'];rfl
   rw[hbo];refine⟨v',(es.toList[j]).born,_,rfl,?_⟩;have hme:es.modify j (λe=>{ e with key:=Key.enc k })=es:=by
    apply Array.ext';rw[uP];apply mQ;intro i;rw[pW];by_cases hij:j=i
    ·subst hij;rw[hej];simp[<-hkj]
    ·simp[hij]
   rw[hme];refine⟨_,_,j,eG (cJ hb),?_,λv w2 hw2=>⟨_,_,hw2,?_,?_,?_,?_⟩⟩
   ·rw[s8];exact yz hbn hej
   ·obtain⟨_,_,h3,_,_,_⟩:=hset v;rw[<-h3,uP];congr 1;apply mQ;intro i;simp only[pW];by_cases hij:j=i
    ·subst hij;rw[hej];simp[<-hkj]
    ·simp[hij]
   ·obtain⟨_,_,_,h4,_,_⟩:=hset v;rw[h4];exact hn
   ·have:((es.modify j λe=>{ e with val:=v }).toList.map (·.born))=es.toList.map (·.born):=by
     rw[uP];apply mQ;intro i;simp only[mP,pW]
     split
     ·cases es.toList[i]? <;> rfl
     ·cases es.toList[i]? <;> rfl
    rw[this];exact hbn
   ·intro e he';rw[uP] at he';obtain⟨i,hi'⟩:=List.mem_iff_getElem?.1 he';rw[pW] at hi';cases hh:es.toList[i]? with
    | none => rw [hh] at hi'; simp at hi'
    | some e0 =>
     rw[hh] at hi'
     have:=hcl e0 (ig hh)
     by_cases hij:j=i
     ·subst hij;simp at hi';subst hi';exact this
     ·simp[hij] at hi';subst hi';exact this
 obtain⟨u,born,o,h1,h2⟩:=key;refine⟨_,_,?_,born,u,rfl,h2,Chg.set _ _ _,dW _ _ _⟩;rw[Dd,hx,hy];exact bh h1
theorem qV{r:Nat}{k:κ}{v:Value}{m:List (κ×Value)}{born:Nat}(hx:ev E x=.map (some r))(hy:ev E y=.int .i64 born)(hv:ev E z=v)(hm:EntAt w r m k born) :
  ∃w',exec P E (.entryStore t x y z) ty w=.ok .skip w'/\MapAt w' r (dY k v m)/\Chg [r] w w'/\w'.heap.size=w.heap.size:=by
 obtain⟨es,cl,i,hb,hf,hs⟩:=hm;have hg:(getObj r).run P w=.ok (.map es cl) w:=by
  show Sem.run P (.getObj r .pure) w=_;simp only[Sem.run,hb]
 refine⟨w.setB r (.map (es.modify i λe=>{ e with val:=v }) cl),?_,hs v _ (eG (cJ hb)),Chg.set _ _ _,dW _ _ _⟩
 rw[A4,hx,hy,hv];have key:(Instr.entryStore t (.map (some r)) (.int .i64 born) v).run P w=.ok () (w.setB r (.map (es.modify i λe=>{ e with val:=v }) cl)):=by
  unfold Instr.entryStore;simp only[];rw[au hg];simp only[];have ha:(asInt (.int .i64 (born:Int))).run P w=.ok (born:Int) w:=rfl;rw[au ha];simp only[hf];exact iu hb
 exact vI key
end
def SlE{α:Type}[Flat α](w:World)(v:Value)(l:List α):Prop:=Sl w v l∨(l=[]/\∃p c,v=.slice p 0 c)
section
variable {α:Type}[Flat α]{P:Program}{E:Env}{w w':World}{v:Value}{l:List α}{S:List Nat}{ty t u:TypeId}{x:Operand}
theorem SlE.form(h:SlE w v l):∃p c,v=.slice p l.length c:=by
 rcases h with h|⟨rfl,p,c,rfl⟩
 ·exact h.form O
 ·exact⟨p,c,rfl⟩
theorem SlE.mod(h:SlE w v l)(hm:Chg S w w')(hn:l≠[]->∀b∈ay v,b∉S):SlE w' v l:=by
 by_cases hl:l=[]
 ·subst hl;obtain⟨p,c,rfl⟩:=h.form;exact .inr ⟨rfl,p,c,rfl⟩
 ·rcases h with h|⟨h,_⟩
  ·exact .inl (h.mod hm (hn hl))
  ·exact absurd h hl
theorem SlE.mod0(h:SlE w v l)(hm:Chg [] w w'):SlE w' v l:=h.mod hm (λ_ _ _=>by simp)
theorem SlE.lt(h:SlE w v l)(hl:l≠[]):∀b∈ay v,b<w.heap.size:=by
 rcases h with h|⟨h,_⟩
 ·exact h.lt
 ·exact absurd h hl
theorem SlE.src(h:SlE w v l):Src α P w v l:=by
 rcases h with h|⟨rfl,p,c,rfl⟩
 ·exact h.src
 ·refine⟨rfl,λw' _ n hn=>?_⟩;obtain rfl:n=0:=by simpa using hn
  cases p with
  | none => rfl
  | some a =>
   show(loadCells a (0*Flat.sz α)).run P w'=_;rw[oI];rfl
end
def chS(l:List UInt8)(q:Nat):Sec:=DSt.putS sec0 ((l.drop (64*q)).take 64)
theorem Hb(c c':Sec)(l:List UInt8)(h:l.length=64):DSt.putS c l=DSt.putS c' l:=by
 apply Subtype.ext;rw[oW _ _ (by omega),oW _ _ (by omega),gm (by rw[c.2];omega),gm (by rw[c'.2];omega)]
theorem A8(l:List UInt8)(q n:Nat)(h:l.length=64*n)(hq:q<n):(chS l q).1=(l.drop (64*q)).take 64:=by
 have hl:((l.drop (64*q)).take 64).length=64:=by rw[bz,bG];omega
 unfold chS;rw[oW _ _ (by omega),hl,show sec0.1.drop 64=[] from gm (by rw[sec0.2];omega),cH]
theorem HZ(l:List UInt8)(q:Nat):chS (l.drop 64) q=chS l (q+1):=by
 unfold chS;rw[gD,show 64+64*q=64*(q+1) by omega]
structure Put(s s':DSt)(i:Int)(l:List UInt8)(m:Nat):Prop where
 kept:s'.kept=s.kept
 offAt:s'.offAt=s.offAt
 pend:∀j,cF j s'.pend=if i<=j/\j<i+m then some (chS l (j-i).toNat) else cF j s.pend
theorem wr_put(n:Nat):∀(s:DSt) (i:Int) (l:List UInt8),l.length=64*n->0<=i->i+n<=s.kept.length ->
  ∃m,m<=n/\Put s (DSt.wr n s i l).1 i l m/\(((DSt.wr n s i l).2=0/\m=n)∨((DSt.wr n s i l).2=61/\m<n/\0<s.offAt)):=by
 induction n with
 | zero =>
  intro s i l _ _ _;refine⟨0,aN _,⟨rfl,rfl,λj=>?_⟩,.inl ⟨rfl,rfl⟩⟩;rw[if_neg (by omega)];rfl
 | succ n ih =>
  intro s i l hl hi hn;have hl1:(l.take 64).length=64:=by rw[bz];omega
  by_cases hoff:s.step.off=true
  ·have hw:s.write i (l.take 64)=(s.step,61):=by unfold DSt.write;rw[if_pos hoff]
   have hr:DSt.wr (n+1) s i l=(s.step,61):=by rw[DSt.wr,hw,if_neg (show ¬(61:Int)=0 by decide)]
   refine⟨0,by omega,?_,.inr ⟨by rw[hr],by omega,?_⟩⟩
   ·rw[hr];refine⟨rfl,rfl,λj=>?_⟩;rw[if_neg (by omega)];rfl
   ·have:s.step.offAt=s.offAt:=rfl
    unfold DSt.off at hoff;simp only[jW,decide_eq_true_eq] at hoff;omega
  ·have his:s.is i=true:=DSt.is_iff.2 (by omega);have hw:s.write i (l.take 64)=({ s.step with pend:=dY i (DSt.putS (s.now i) (l.take 64)) s.pend },0):=by
    unfold DSt.write;rw[if_neg hoff,if_neg (by rw[his,hl1];decide)]
   have hr:DSt.wr (n+1) s i l=DSt.wr n { s.step with pend:=dY i (DSt.putS (s.now i) (l.take 64)) s.pend } (i+1) (l.drop 64):=by rw[DSt.wr,hw,if_pos rfl]
   obtain⟨m,hm,⟨h1,h2,h3⟩,h4⟩:=ih { s.step with pend:=dY i (DSt.putS (s.now i) (l.take 64)) s.pend } (i+1) (l.drop 64) (by rw[bG];omega) (by omega) (by show i+1+(n:Int)<=(s.kept.length:Int);omega);rw[hr];refine⟨m+1,by omega,⟨h1,h2,λj=>?_⟩,?_⟩
   ·rw[h3 j,qt];by_cases hj:j=i
    ·subst hj;rw[if_neg (by omega),if_pos rfl,if_pos (by omega)];congr 1;rw[Hb _ sec0 _ hl1];unfold chS;rw[show(j-j).toNat=0 by omega,Nat.mul_zero,gW]
    ·rw[if_neg hj];by_cases hj2:i+1<=j/\j<i+1+m
     ·rw[if_pos hj2,if_pos (by omega),HZ];congr 2;omega
     ·rw[if_neg hj2,if_neg (by omega)]
   ·rcases h4 with⟨q1,q2⟩|⟨q1,q2,q3⟩
    ·exact .inl ⟨q1,by omega⟩
    ·exact .inr ⟨q1,by omega,q3⟩
theorem vl(n:Nat)(s:DSt)(i:Int)(l:List UInt8)(hl:l.length=64*n)(hi:0<=i)(hn:i+n<=s.kept.length) :
  ∃m,m<=n/\Put s (s.writes i l).1 i l m/\(((s.writes i l).2=0/\m=n)∨((s.writes i l).2=61/\m<n/\0<s.offAt)):=by
 unfold DSt.writes;rw[show(l.length+63) / 64=n by omega];exact wr_put n s i l hl hi hn
theorem xR(n:Nat)(s:DSt)(i:Int)(l:List UInt8)(ho:s.offAt=0)(hl:l.length=64*n)(hi:0<=i)(hn:i+n<=s.kept.length):(s.writes i l).2=0/\Put s (s.writes i l).1 i l n:=by
 obtain⟨m,_,h1,h2⟩:=vl n s i l hl hi hn;rcases h2 with⟨q1,rfl⟩|⟨_,_,q⟩
 ·exact⟨q1,h1⟩
 ·omega
theorem Put.now{s s':DSt}{i:Int}{l:List UInt8}{m:Nat}(h:Put s s' i l m)(j:Int):s'.now j=if i<=j/\j<i+m then chS l (j-i).toNat else s.now j:=by
 unfold DSt.now;rw[h.pend j,h.kept];by_cases hj:i<=j/\j<i+m
 ·rw[if_pos hj,if_pos hj];rfl
 ·rw[if_neg hj,if_neg hj]
theorem lS{s s':DSt}{i:Int}{n:Nat}(h:∀q:Nat,q<n->s'.now (i+q)=s.now (i+q)):s'.reads i n=s.reads i n:=by
 induction n with
 | zero => rfl
 | succ n ih => rw [DSt.reads_succ, DSt.reads_succ, ih (λq hq => h q (by omega)), h n (by omega)]
theorem AK{s:DSt}{i:Int}{l:List UInt8}{n:Nat}(hl:64*n<=l.length)(h:∀q:Nat,q<n->(s.now (i+q)).1=(l.drop (64*q)).take 64):s.reads i n=l.take (64*n):=by
 induction n with
 | zero => rfl
 | succ n ih =>
  rw[DSt.reads_succ,ih (by omega) (λq hq=>h q (by omega)),h n (by omega),show 64*(n+1)=64*n+64 by omega,List.take_add]
theorem Put.reads{s s':DSt}{i:Int}{l:List UInt8}{n:Nat}(h:Put s s' i l n)(hl:l.length=64*n):s'.reads i n=l:=by
 rw[AK (l:=l) (by omega) (λq hq=>?_),<-hl,cZ];rw[h.now,if_pos (by omega),show(i+(q:Int)-i).toNat=q by omega,A8 l q n hl hq]
theorem Put.other{s s':DSt}{i:Int}{l:List UInt8}{m:Nat}(h:Put s s' i l m){j:Int}{n:Nat}(hd:j+n<=i∨i+m<=j):s'.reads j n=s.reads j n :=
 lS λq hq=>by rw[h.now,if_neg (by omega)]
theorem tc{s:DSt}(h:s.flush.2=0){j:Int}(h0:0<=j)(h1:j<s.kept.length):s.flush.1.now j=s.now j:=by
 unfold DSt.flush at h ⊢;by_cases hq:s.step.off=true
 ·rw[if_pos hq] at h;exact absurd h (show ¬(61:Int)=0 by decide)
 ·rw[if_neg hq];obtain⟨n,rfl⟩:∃n:Nat,j=n:=⟨j.toNat,by omega⟩
  show(DSt.apply s.kept s.pend).getD (n:Int).toNat sec0=_;rw[show(n:Int).toNat=n from rfl,FT _ _ _ (by omega)];rfl
theorem D9{s:DSt}(h:s.flush.2=0):s.flush.1.pend=[]:=by
 unfold DSt.flush at h ⊢;by_cases hq:s.step.off=true
 ·rw[if_pos hq] at h;exact absurd h (show ¬(61:Int)=0 by decide)
 ·rw[if_neg hq]
theorem tU(s:DSt):s.flush.1.offAt=s.offAt:=by unfold DSt.flush;split <;> rfl
theorem yy(s:DSt):s.flush.2=0∨(s.flush.2=61/\s.flush.1=s.step/\0<s.offAt):=by
 unfold DSt.flush;by_cases hq:s.step.off=true
 ·rw[if_pos hq];refine .inr ⟨rfl,rfl,?_⟩;unfold DSt.off at hq;simp only[jW,decide_eq_true_eq] at hq;exact hq.1
 ·rw[if_neg hq];exact .inl O
theorem HP{s:DSt}(h:s.offAt=0):s.flush.2=0:=by
 rcases yy s with h1|⟨_,_,h1⟩
 ·exact h1
 ·omega
def j7(s:Sup):Nat:=(150+s.txt.length+55) / 56
theorem kZ(k:List UInt8)(s:Sup):(dR (cA k s) s.commit).length=64*j7 s:=by rw[m8,gQ];rfl
theorem ng{s:Sup}(h:s.txt.length<=200):3<=j7 s/\j7 s<=7:=by unfold j7;omega
structure Laid(k:List UInt8)(ds ds':DSt)(a:Nat)(s:Sup):Prop where
 pend:ds'.pend=[]
 offAt:ds'.offAt=ds.offAt
 now:∀j:Int,0<=j->j<ds.kept.length->ds'.now j=if (a:Int)*16<=j/\j<(a:Int)*16+j7 s then chS (dR (cA k s) s.commit) (j-(a:Int)*16).toNat else ds.now j
 len:ds'.kept.length=ds.kept.length
theorem B6(k:List UInt8)(ds:DSt)(a:Nat)(s:Sup)(ha:a<=1)(hl:32<=ds.kept.length)(ht:s.txt.length<=200) :
  ((db k ds a s).2=0/\Laid k ds (db k ds a s).1 a s)∨((db k ds a s).2=61/\0<ds.offAt/\∃m,m<=j7 s/\Put ds (db k ds a s).1 ((a:Int)*16) (dR (cA k s) s.commit) m):=by
 have hn:=ng ht;obtain⟨m,hm,hp,hr⟩:=vl (j7 s) ds ((a:Int)*16) (dR (cA k s) s.commit) (kZ k s) (by omega) (by omega);unfold db;rcases hr with⟨h0,rfl⟩|⟨h0,_,h2⟩
 ·rw[if_pos h0];rcases yy (ds.writes ((a:Int)*16) (dR (cA k s) s.commit)).1 with hf|⟨hf,hf2,hf3⟩
  ·refine .inl ⟨hf,D9 hf,by rw[tU,hp.offAt],λj hj0 hj1=>?_,by rw[DSt.flush_len,hp.kept]⟩;rw[tc hf hj0 (by rw[hp.kept];exact hj1),hp.now]
  ·refine .inr ⟨hf,by rw[hp.offAt] at hf3;exact hf3,j7 s,aN _,?_⟩;rw[hf2];exact⟨hp.kept,hp.offAt,hp.pend⟩
 ·rw[if_neg (by rw[h0];decide)];exact .inr ⟨h0,h2,m,hm,hp⟩
theorem rW{k:List UInt8}{ds:DSt}{a:Nat}{s:Sup}(ho:ds.offAt=0)(ha:a<=1)(hl:32<=ds.kept.length)(ht:s.txt.length<=200):(db k ds a s).2=0/\Laid k ds (db k ds a s).1 a s:=by
 rcases B6 k ds a s ha hl ht with h|⟨_,h,_⟩
 ·exact h
 ·omega
section
variable {k:List UInt8}{ds ds':DSt}{a:Nat}{s:Sup}
theorem Laid.other(h:Laid k ds ds' a s){j:Int}{n:Nat}(h0:0<=j)(h1:j+n<=ds.kept.length)(hd:j+n<=(a:Int)*16∨(a:Int)*16+j7 s<=j):ds'.reads j n=ds.reads j n :=
 lS λq hq=>by rw[h.now _ (by omega) (by omega),if_neg (by omega)]
theorem oV(ds:DSt)(i:Int)(m n:Nat):ds.reads i (m+n)=ds.reads i m++ds.reads (i+m) n:=by
 induction n with
 | zero => rw [qR, DSt.reads_zero, cH]
 | succ n ih =>
  rw[<-mV,DSt.reads_succ,ih,DSt.reads_succ,bQ,show i+((m+n:Nat):Int)=i+(m:Int)+(n:Int) by omega]
theorem Laid.reg(h:Laid k ds ds' a s)(ha:a<=1)(hl:32<=ds.kept.length)(ht:s.txt.length<=200):fB ds' a=dR (cA k s) s.commit++ds.reads ((a:Int)*16+j7 s) (16-j7 s):=by
 have hn:=ng ht;unfold fB;have hsp:=oV ds' ((a:Int)*16) (j7 s) (16-j7 s);rw[show j7 s+(16-j7 s)=16 by omega] at hsp;rw[hsp];congr 1
 ·rw[AK (l:=dR (cA k s) s.commit) (by rw[kZ];omega) (λq hq=>?_),<-kZ k s,cZ];rw[h.now _ (by omega) (by omega),if_pos (by omega),show((a:Int)*16+(q:Int)-(a:Int)*16).toNat=q by omega,A8 _ q _ (kZ k s) hq]
 ·exact h.other (n:=16-j7 s) (by omega) (by omega) (.inr (Int.le_refl _))
end
def Stands(ds:DSt)(pk:List UInt8)(i:Nat)(g:UInt64)(l:List UInt8):Prop:=ds.reads (32+(i:Int)*8) 8=hG pk i g.toNat l/\l.length<=480
theorem sO(pk:List UInt8)(i:Nat)(g:UInt64)(l:List UInt8):UInt64.ofNat (dF ((hG pk i g.toNat l).take 8))=g:=by
 unfold hG;rw[bQ,cR (aP _ _),oX]
theorem AS(pk:List UInt8)(i:Nat)(g:UInt64)(l:List UInt8)(h:l.length<=480):wk pk i (hG pk i g.toNat l)=some l:=by
 have hpl:=lZ l h;have hsl:(gh pk (dj i g.toNat) bC (dO l)).length=498:=by rw[iG,hpl]
 have h8:((hG pk i g.toNat l).drop 8)=gh pk (dj i g.toNat) bC (dO l)++List.replicate 6 0:=by
  unfold hG;rw[bQ,et (aP _ _)]
 have h498:((hG pk i g.toNat l).drop 8).take 498=gh pk (dj i g.toNat) bC (dO l):=by rw[h8,cR hsl]
 have h482:((hG pk i g.toNat l).drop 8).take 482=(gh pk (dj i g.toNat) bC (dO l)).take ((gh pk (dj i g.toNat) bC (dO l)).length-16):=by
  rw[h8,hsl,lJ (by omega)]
 unfold wk;rw[sO,h498,if_pos (F1 _ _ _ _),h482,Cw];have hd:(dO l).drop 2=l++List.replicate (480-l.length) 0:=by
  unfold dO;rw[bQ,et (aP _ _)]
 have htk:dF ((dO l).take 2)=l.length:=by
  unfold dO;rw[bQ,cR (aP _ _),gI];exact fJ (by omega)
 rw[hd,htk,eC h,cR rfl]
theorem gB{α:Type}{a b:List α}{n m:Nat}(h:a.length=m)(hm:m<=n):(a++b).drop n=b.drop (n-m):=by
 rw[BX,gm (by omega),dK,h]
def Hq(n:Nat)(b:List UInt8):List UInt8:=b++List.replicate (56*n-b.length) 0
theorem Fg(n:Nat)(b:List UInt8)(h:b.length<=56*(n+1)):(b.take 56++List.replicate (56-(b.take 56).length) 0)++Hq n (b.drop 56)=Hq (n+1) b:=by
 unfold Hq;by_cases hb:b.length<=56
 ·rw[cd hb,gm hb,dK,bQ,uq];congr 2;simp only[l9];omega
 ·have h1:(b.take 56).length=56:=by rw[bz];omega
  rw[h1,Nat.sub_self,uo,cH,<-bQ,fe,bG];congr 2;omega
theorem lT(n:Nat)(nb b:List UInt8)(rest:List UInt8)(hn:nb.length=4) :
  ((fN (n+1) nb b++rest).take 4=nb)/\(((fN (n+1) nb b++rest).drop 60).take 4=nb)/\(((fN (n+1) nb b++rest).drop 4).take 56=b.take 56++List.replicate (56-(b.take 56).length) 0)/\((fN (n+1) nb b++rest).drop 64=fN n nb (b.drop 56)++rest):=by
 have hp:(b.take 56++List.replicate (56-(b.take 56).length) (0:UInt8)).length=56:=by
  rw[aF,cQ,bz];omega
 generalize hP:b.take 56++List.replicate (56-(b.take 56).length) (0:UInt8)=p at hp
 have hf:fN (n+1) nb b++rest=nb++(p++(nb++(fN n nb (b.drop 56)++rest))):=by
  rw[fN,<-hP];simp only[bQ]
 rw[hf];refine⟨cR hn,?_,?_,?_⟩
 ·rw[gB hn (by omega),gB hp (by omega),gW,cR hn]
 ·rw[et hn,cR hp]
 ·rw[gB hn (by omega),gB hp (by omega),gB hn (by omega)];rfl
theorem vu(nb:List UInt8)(hn:nb.length=4)(rest:List UInt8):∀(n N:Nat) (b:List UInt8),n<=N->b.length<=56*n ->
  nF nb N (fN n nb b++rest)=Hq n b++nF nb (N-n) rest
 | 0, N, b, _, hb => by
  have:b=[]:=kq (by omega)
  subst this;rfl
 | n + 1, N, b, hN, hb => by
  obtain⟨N,rfl⟩:∃q,N=q+1:=⟨N-1,by omega⟩
  obtain⟨h1,h2,h3,h4⟩:=lT n nb b rest hn;rw[nF,if_pos ⟨h1,h2⟩,h3,h4,vu nb hn rest n N (b.drop 56) (by omega) (by rw[bG];omega),<-bQ,Fg n b hb,show N+1-(n+1)=N-n by omega]
theorem GJ(k:List UInt8)(s:Sup)(rest:List UInt8)(h:j7 s<=16)(hr:rest.length=64*(16-j7 s)):∃z,iU (dR (cA k s) s.commit++rest)=cA k s++z:=by
 have hl:(dR (cA k s) s.commit++rest).length=1024:=by rw[aF,kZ,hr];omega
 have hsl:=gQ k s;have hN:j7 s=((cA k s).length+55) / 56:=by rw[hsl];rfl
 have h3:2<=j7 s:=by unfold j7;omega
 have hfr:dR (cA k s) s.commit=fN (j7 s) (be 4 s.commit.toNat) (cA k s):=by unfold dR;rw[<-hN]
 unfold iU;rw[hl,hfr];obtain⟨m,hm⟩:∃m,j7 s=m+1:=⟨j7 s-1,by omega⟩
 have hh:=(lT m (be 4 s.commit.toNat) (cA k s) rest (aP _ _)).1;rw[<-hm] at hh;rw[hh,show 1024 / 64=16 from rfl,vu _ (aP _ _) rest (j7 s) 16 (cA k s) h (by rw[hN];omega)];exact⟨_,by unfold Hq;rw[bQ]⟩
theorem gG(k:List UInt8)(s:Sup)(z:List UInt8):cA k s++z=be 8 s.commit.toNat++(be 4 s.epoch.toNat++(be 4 s.root.toNat++(be 2 s.txt.length++(s.txt++(eT s.used++(eT s.written++(lQ k (iQ s)++z))))))):=by
 unfold cA
 generalize lQ k (iQ s)=t
 unfold iQ;simp only[bQ]
theorem DR(k:List UInt8)(s:Sup)(z:List UInt8)(h:s.txt.length<=200):txN (cA k s++z)=s.txt.length:=by
 unfold txN;rw[gG,gB (aP _ _) (by omega),gB (aP _ _) (by omega),gB (aP _ _) (by omega),gW,cR (aP _ _),gI];exact fJ (by omega)
theorem EV(k:List UInt8)(s:Sup)(z:List UInt8)(h:s.Ok):kF (cA k s++z)=s:=by
 have ht:=DR k s z h.txt;have h1:=fy s.used;have h2:=fy s.written;have hb:UInt32.ofNat (dF (be 4 s.root.toNat))=s.root:=by rw[gI];apply UInt32.toNat_inj.1;rw[fO];have:=s.root.toNat_lt;omega
 have he:UInt32.ofNat (dF (be 4 s.epoch.toNat))=s.epoch:=by rw[gI];apply UInt32.toNat_inj.1;rw[fO];have:=s.epoch.toNat_lt;omega
 have e1:((cA k s++z).drop 12).take 4=be 4 s.root.toNat:=by rw[gG,gB (aP _ _) (by omega),gB (aP _ _) (by omega),gW,cR (aP _ _)]
 have e2:((cA k s++z).drop 18).take s.txt.length=s.txt:=by rw[gG,gB (aP _ _) (by omega),gB (aP _ _) (by omega),gB (aP _ _) (by omega),gB (aP _ _) (by omega),gW,cR rfl]
 have e3:((cA k s++z).drop (18+s.txt.length)).take 50=eT s.used:=by rw[gG,gB (aP _ _) (by omega),gB (aP _ _) (by omega),gB (aP _ _) (by omega),gB (aP _ _) (by omega),gB rfl (by omega),show 18+s.txt.length-8-4-4-2-s.txt.length=0 by omega,gW,cR h1]
 have e4:((cA k s++z).drop (68+s.txt.length)).take 50=eT s.written:=by rw[gG,gB (aP _ _) (by omega),gB (aP _ _) (by omega),gB (aP _ _) (by omega),gB (aP _ _) (by omega),gB rfl (by omega),gB h1 (by omega),show 68+s.txt.length-8-4-4-2-s.txt.length-50=0 by omega,gW,cR h2]
 have e5:(cA k s++z).take 8=be 8 s.commit.toNat:=by rw[gG,cR (aP _ _)]
 have e6:((cA k s++z).drop 8).take 4=be 4 s.epoch.toNat:=by rw[gG,gB (aP _ _) (by omega),gW,cR (aP _ _)]
 unfold kF;rw[ht,e1,e2,e3,e4,e5,e6,hb,he,oX,tJ h.used,tJ h.written]
theorem sup_tag(k:List UInt8)(s:Sup)(z:List UInt8):((cA k s++z).drop (118+s.txt.length)).take 32=lQ k (iQ s)/\(cA k s++z).take (118+s.txt.length)=iQ s:=by
 have hp:=pJ s;have e:cA k s++z=iQ s++(lQ k (iQ s)++z):=by unfold cA;rw[bQ]
 rw[e,et hp,cR hp,cR (kN _ _)];exact⟨rfl,rfl⟩
theorem CJ(k k2:List UInt8)(s:Sup)(z:List UInt8)(h:s.Ok):dX k2 (cA k s++z)=if lQ k (iQ s)=lQ k2 (iQ s) then some s else none:=by
 have ht:=DR k s z h.txt;have hl:(cA k s++z).length=150+s.txt.length+z.length:=by rw[aF,gQ]
 have h3:=h.txt;obtain⟨h4,h5⟩:=sup_tag k s z;unfold dX;rw[ht,if_neg (by omega),h4,h5,EV k s z h]
theorem CI(k:List UInt8)(s:Sup)(z:List UInt8)(h:s.Ok):dX k (cA k s++z)=some s:=by
 rw[CJ k k s z h,if_pos rfl]
def zG(c:Sec):Nat:=dF (c.1.take 4)
def zE(c:Sec):Nat:=dF ((c.1.drop 60).take 4)
theorem E3(c:Sec):zG c<4294967296:=by
 have:=oY (c.1.take 4)
 have h2:(c.1.take 4).length<=4:=by rw[bz];omega
 have h3:256 ^ (c.1.take 4).length<=256 ^ 4:=mT (by omega) h2;unfold zG
 have:(256:Nat) ^ 4=4294967296:=rfl
 omega
theorem E2(c:Sec):zE c<4294967296:=by
 have:=oY ((c.1.drop 60).take 4)
 have h2:((c.1.drop 60).take 4).length<=4:=by rw[bz];omega
 have h3:256 ^ ((c.1.drop 60).take 4).length<=256 ^ 4:=mT (by omega) h2;unfold zE
 have:(256:Nat) ^ 4=4294967296:=rfl
 omega
theorem AV(ds:DSt):∀(n:Nat) (i:Int) (x:UInt64),x∈mE n (ds.reads i n)->∃q:Nat,q<n/\(x.toNat=zG (ds.now (i+q))∨x.toNat=zE (ds.now (i+q)))
 | 0, _, _, h => by simp [mE] at h
 | n + 1, i, x, h => by
  have hr:ds.reads i (n+1)=(ds.now i).1++ds.reads (i+1) n:=by
   rw[Nat.add_comm n 1,oV];congr 1;rw[DSt.reads_succ,DSt.reads_zero,dK];simp
  have hs:=(ds.now i).2;have e1:(ds.reads i (n+1)).take 4=(ds.now i).1.take 4:=by rw[hr,lJ (by omega)]
  have e2:((ds.reads i (n+1)).drop 60).take 4=((ds.now i).1.drop 60).take 4:=by rw[hr,sB (by omega),lJ (by rw[bG];omega)]
  have e3:(ds.reads i (n+1)).drop 64=ds.reads (i+1) n:=by rw[hr,et hs]
  rw[mE,e1,e2,e3] at h;have h1:=E3 (ds.now i);have h2:=E2 (ds.now i);have hi:i+((0:Nat):Int)=i:=by simp
  rcases List.mem_cons.1 h with rfl|h
  ·refine⟨0,by omega,.inl ?_⟩;rw[hi,ek];exact fJ (by unfold zG at h1;omega)
  ·rcases List.mem_cons.1 h with rfl|h
   ·refine⟨0,by omega,.inr ?_⟩;rw[hi,ek];exact fJ (by unfold zE at h2;omega)
   ·obtain⟨q,hq,hx⟩:=AV ds n (i+1) x h;exact⟨q+1,by omega,by rw[show i+((q+1:Nat):Int)=i+1+(q:Int) by omega];exact hx⟩
theorem E6(ds:DSt):∀(n:Nat) (i:Int) (q:Nat),q<n->UInt64.ofNat (zG (ds.now (i+q)))∈mE n (ds.reads i n)/\UInt64.ofNat (zE (ds.now (i+q)))∈mE n (ds.reads i n)
 | 0, _, _, h => by omega
 | n + 1, i, q, h => by
  have hr:ds.reads i (n+1)=(ds.now i).1++ds.reads (i+1) n:=by
   rw[Nat.add_comm n 1,oV];congr 1;rw[DSt.reads_succ,DSt.reads_zero,dK];simp
  have hs:=(ds.now i).2;have e1:(ds.reads i (n+1)).take 4=(ds.now i).1.take 4:=by rw[hr,lJ (by omega)]
  have e2:((ds.reads i (n+1)).drop 60).take 4=((ds.now i).1.drop 60).take 4:=by rw[hr,sB (by omega),lJ (by rw[bG];omega)]
  have e3:(ds.reads i (n+1)).drop 64=ds.reads (i+1) n:=by rw[hr,et hs]
  rw[mE,e1,e2,e3];rcases q with _|q
  ·rw[show i+((0:Nat):Int)=i by simp];exact⟨cP ..,bO _ (cP ..)⟩
  ·obtain⟨h1,h2⟩:=E6 ds n (i+1) q (by omega);rw[show i+((q+1:Nat):Int)=i+1+(q:Int) by omega];exact⟨bO _ (bO _ h1),bO _ (bO _ h2)⟩
def NumLe(ds:DSt)(M:Nat):Prop:=∀j:Int,0<=j->j<32->zG (ds.now j)<=M/\zE (ds.now j)<=M
theorem NumLe.mem{ds:DSt}{M:Nat}(h:NumLe ds M){x:UInt64}(hx:x∈gu (fB ds 0)++gu (fB ds 1)):x.toNat<=M:=by
 have h0:∀a:Nat,a<=1->x∈gu (fB ds a)->x.toNat<=M:=λa ha hx=>by
  unfold gu fB at hx;rw[DSt.reads_length,show 64*16 / 64=16 from rfl] at hx;obtain⟨q,hq,h1⟩:=AV ds 16 _ x hx
  have:=h ((a:Int)*16+q) (by omega) (by omega)
  omega
 rcases List.mem_append.1 hx with hx|hx
 ·exact h0 0 (by omega) hx
 ·exact h0 1 (by omega) hx
theorem Dr(c x:UInt64)(hc:c.toNat<65536)(hx:x.toNat<65536):(me c x).toNat=if c.toNat<=x.toNat then x.toNat-c.toNat else 4294967296-(c.toNat-x.toNat):=by
 rw[FU,UInt32.toNat_toUInt64,UInt64.toNat_toUInt32,UInt64.toNat_sub]
 split <;> omega
theorem zT(c n x:UInt64)(hc:c.toNat<65536)(hx:x.toNat<65536)(hn:c.toNat<=n.toNat):(ft c n x).toNat=max n.toNat x.toNat:=by
 have h:=Dr c x hc hx;unfold ft;by_cases hcx:c.toNat<=x.toNat
 ·rw[if_pos hcx] at h;have hlt:me c x<65536:=by rw[mS,h];show x.toNat-c.toNat<65536;omega
  rw[if_pos hlt];have ha:(c+me c x).toNat=x.toNat:=by rw[qN,h];omega
  rw[vw,ha]
 ·rw[if_neg hcx] at h;have hlt:¬me c x<65536:=by rw[mS,h];show ¬_<65536;omega
  rw[if_neg hlt];omega
theorem yl(c:UInt64)(hc:c.toNat<65536):∀(l:List UInt64) (n:UInt64),(∀x∈l,x.toNat<65536)->c.toNat<=n.toNat ->
  n.toNat<=(l.foldl (ft c) n).toNat/\(∀x∈l,x.toNat<=(l.foldl (ft c) n).toNat)/\((l.foldl (ft c) n).toNat=n.toNat∨∃x∈l,(l.foldl (ft c) n).toNat=x.toNat)
 | [], n, _, _ => ⟨aN _, by simp, .inl rfl⟩
 | y :: l, n, hl, hn => by
  have hy:=zT c n y hc (hl y (by simp)) hn;obtain⟨h1,h2,h3⟩:=yl c hc l (ft c n y) (λx hx=>hl x (by simp[hx])) (by omega);rw[pX];refine⟨by omega,λx hx=>?_,?_⟩
  ·rcases List.mem_cons.1 hx with rfl|hx
   ·omega
   ·exact h2 x hx
  ·rcases h3 with h3|⟨x,hx,h3⟩
   ·by_cases hh:n.toNat<=y.toNat
    ·exact .inr ⟨y,by simp,by omega⟩
    ·exact .inl (by omega)
   ·exact .inr ⟨x,by simp[hx],h3⟩
theorem tP{k:List UInt8}{ds:DSt}{M:Nat}(h:NumLe ds M)(hM:M<60000)(hc:(kj (newest k ds)).toNat<=M):(kj (newest k ds)).toNat<(fK k ds).toNat/\(fK k ds).toNat<=M+1/\NumLe ds ((fK k ds).toNat-1):=by
 have hl:∀x∈gu (fB ds 0)++gu (fB ds 1),x.toNat<65536:=λx hx=>by have:=h.mem hx;omega
 obtain⟨h1,h2,h3⟩:=yl (kj (newest k ds)) (by omega) _ (kj (newest k ds)) hl (aN _);have hr:((gu (fB ds 0)++gu (fB ds 1)).foldl (ft (kj (newest k ds))) (kj (newest k ds))).toNat<=M:=by
  rcases h3 with h3|⟨x,hx,h3⟩
  ·omega
  ·have:=h.mem hx;omega
 have hn:(fK k ds).toNat=((gu (fB ds 0)++gu (fB ds 1)).foldl (ft (kj (newest k ds))) (kj (newest k ds))).toNat+1:=by
  unfold fK E8;rw[qN];exact fJ (by show _+1<_;omega)
 refine⟨by omega,by omega,λj hj0 hj1=>?_⟩;rw[hn];have hmem:∀a:Nat,a<=1->∀q:Nat,q<16->UInt64.ofNat (zG (ds.now ((a:Int)*16+q)))∈gu (fB ds a)/\UInt64.ofNat (zE (ds.now ((a:Int)*16+q)))∈gu (fB ds a):=by
  intro a ha q hq;unfold gu fB;rw[DSt.reads_length,show 64*16 / 64=16 from rfl];exact E6 ds 16 _ q hq
 have hmem2:∀x:UInt64,(∃a:Nat,a<=1/\x∈gu (fB ds a))->x∈gu (fB ds 0)++gu (fB ds 1):=by
  rintro x ⟨a,ha,hx⟩;rcases(by omega:a=0∨a=1) with rfl|rfl
  ·exact cO _ hx
  ·exact cj _ hx
 obtain⟨a,ha,q,hq,rfl⟩:∃a:Nat,a<=1/\∃q:Nat,q<16/\j=(a:Int)*16+q:=by
  by_cases hj:j<16
  ·exact⟨0,by omega,j.toNat,by omega,by omega⟩
  ·exact⟨1,by omega,(j-16).toNat,by omega,by omega⟩
 obtain⟨m1,m2⟩:=hmem a ha q hq;have g1:=h2 _ (hmem2 _ ⟨a,ha,m1⟩);have g2:=h2 _ (hmem2 _ ⟨a,ha,m2⟩);have b1:=E3 (ds.now ((a:Int)*16+q));have b2:=E2 (ds.now ((a:Int)*16+q));rw[ek] at g1 g2;omega
structure POK(n k:Nat)(key:List UInt8)(ds:DSt)(P:Pg)(V:UInt32->List UInt8):Prop where
 off:ds.offAt=0
 fine:ds.Fine
 len:ds.kept.length=32+8*n
 size:4<=n/\n<=400
 steps:ds.steps<=100*k
 few:k<=1000000
 broken:P.broken=false
 at_:P.at_<=1
 used:∀i,P.now.used i=true->i.toNat<n
 kused:∀i,P.kept.used i=true->i.toNat<n
 written:∀i,P.now.written i=true->P.now.used i=true
 kwritten:∀i,P.kept.written i=true->P.kept.used i=true
 wok:∀i,P.now.written i=true->P.kept.used i=false∨P.kept.written i=true
 pages:∀i,P.now.written i=true∨P.kept.written i=true->∃g,P.gens i=some g/\Stands ds (bs key bC 0) i.toNat g (V i)
def x9(V:UInt32->List UInt8)(i:UInt32)(l:List UInt8):UInt32->List UInt8:=λj=>if j=i then l else V j
theorem wv{n L:Nat}(h:L=32+8*n)(h2:n<=400):iZ L=n:=by unfold iZ;omega
section
variable {n k:Nat}{key:List UInt8}{ds:DSt}{P:Pg}{V:UInt32->List UInt8}
theorem POK.many(h:POK n k key ds P V):iZ ds.kept.length=n:=wv h.len h.size.2
theorem POK.small(h:POK n k key ds P V):ds.kept.length<=4000:=by have:=h.len;have:=h.size;omega
theorem POK.offF(h:POK n k key ds P V):ds.off=false:=by
 unfold DSt.off;rw[h.off];rfl
theorem POK.inn(h:POK n k key ds P V){i:UInt32}(hi:P.now.used i=true):40+i.toNat*8<=ds.kept.length:=by
 have:=h.used i hi
 have:=h.len
 omega
theorem fresh_iff{P:Pg}{i:UInt32}:P.fresh i=true↔P.now.used i=true/\P.kept.used i=false:=by
 unfold Pg.fresh;simp
theorem free_iff{P:Pg}{i:UInt32}:P.free i=true↔P.now.used i=false/\P.kept.used i=false:=by
 unfold Pg.free;simp
theorem POK.alloc(h:POK n k key ds P V)(i:UInt32)(hi:i.toNat<n):POK n k key ds { P with now:={ P.now with used:=fb P.now.used i } } V where
 off:=h.off
 fine:=h.fine
 len:=h.len
 size:=h.size
 steps:=h.steps
 few:=h.few
 broken:=h.broken
 at_:=h.at_
 used:=λj hj=>by
  have hj:fb P.now.used i j=true:=hj;unfold fb at hj;simp only[mX,decide_eq_true_eq] at hj;rcases hj with rfl|hj
  ·exact hi
  ·exact h.used j hj
 kused:=h.kused
 written:=λj hj=>by
  show fb P.now.used i j=true;unfold fb;rw[h.written j hj,Bool.or_true]
 kwritten:=h.kwritten
 wok:=h.wok
 pages:=h.pages
theorem POK.free(h:POK n k key ds P V)(i:UInt32):POK n k key ds { P with now:={ P.now with used:=eW P.now.used i,written:=eW P.now.written i } } V where
 off:=h.off
 fine:=h.fine
 len:=h.len
 size:=h.size
 steps:=h.steps
 few:=h.few
 broken:=h.broken
 at_:=h.at_
 used:=λj hj=>h.used j (by
  have hj:eW P.now.used i j=true:=hj;unfold eW at hj;simp only[jW] at hj;exact hj.2)
 kused:=h.kused
 written:=λj hj=>by
  have hj:eW P.now.written i j=true:=hj;unfold eW at hj;simp only[jW] at hj;show eW P.now.used i j=true;unfold eW;rw[hj.1,h.written j hj.2];rfl
 kwritten:=h.kwritten
 wok:=λj hj=>h.wok j (by
  have hj:eW P.now.written i j=true:=hj;unfold eW at hj;simp only[jW] at hj;exact hj.2)
 pages:=λj hj=>h.pages j (by
  rcases hj with hj|hj
  ·have hj:eW P.now.written i j=true:=hj;unfold eW at hj;simp only[jW] at hj;exact .inl hj.2
  ·exact .inr hj)
theorem POK.undo(h:POK n k key ds P V):POK n k key ds { P with now:=P.kept.st } V where
 off:=h.off
 fine:=h.fine
 len:=h.len
 size:=h.size
 steps:=h.steps
 few:=h.few
 broken:=h.broken
 at_:=h.at_
 used:=h.kused
 kused:=h.kused
 written:=h.kwritten
 kwritten:=h.kwritten
 wok:=λj hj=>.inr hj
 pages:=λj hj=>h.pages j (.inr (by rcases hj with hj|hj <;> exact hj))
theorem Stands.other{ds ds':DSt}{pk:List UInt8}{i:Nat}{g:UInt64}{l:List UInt8}(h:Stands ds pk i g l)(hc:∀q:Nat,q<8->ds'.now (32+(i:Int)*8+q)=ds.now (32+(i:Int)*8+q)):Stands ds' pk i g l:=⟨by rw[lS hc];exact h.1,h.2⟩
theorem POK.write(h:POK n k key ds P V)(hk:k+1<=1000000)(i:UInt32)(hi:P.fresh i=true)(l:List UInt8)(hl:l.length<=480) :
  (ds.writes (32+(i.toNat:Int)*8) (hG (bs key bC 0) i.toNat P.gen.toNat l)).2=0 /\
  POK n (k+1) key (ds.writes (32+(i.toNat:Int)*8) (hG (bs key bC 0) i.toNat P.gen.toNat l)).1 { P with count:=P.count+1,now:={ P.now with written:=fb P.now.written i },gens:=sI P.gens i P.gen } (x9 V i l):=by
 obtain⟨hu,hku⟩:=fresh_iff.1 hi;have hin:=h.used i hu;have hlen:=h.len;have hpl:=nk (bs key bC 0) i.toNat P.gen.toNat l hl;obtain⟨h0,hp⟩:=xR 8 ds (32+(i.toNat:Int)*8) (hG (bs key bC 0) i.toNat P.gen.toNat l) h.off hpl (by omega) (by omega);have hsteps:=h.steps;have hbn:=vn (32+(i.toNat:Int)*8) (hG (bs key bC 0) i.toNat P.gen.toNat l) h.fine (by omega);refine⟨h0,by rw[hp.offAt];exact h.off,hbn.1,by rw[hbn.2.2];exact hlen,h.size,by omega,hk,h.broken,h.at_,h.used,h.kused,λj hj=>?_,h.kwritten,λj hj=>?_,λj hj=>?_⟩
 ·have hj:fb P.now.written i j=true:=hj;unfold fb at hj;simp only[mX,decide_eq_true_eq] at hj;rcases hj with rfl|hj
  ·exact hu
  ·exact h.written j hj
 ·have hj:fb P.now.written i j=true:=hj;unfold fb at hj;simp only[mX,decide_eq_true_eq] at hj;rcases hj with rfl|hj
  ·exact .inl hku
  ·exact h.wok j hj
 ·by_cases hji:j=i
  ·subst hji;refine⟨P.gen,by show sI P.gens j P.gen j=_;unfold sI;rw[if_pos rfl],?_,by unfold x9;rw[if_pos rfl];exact hl⟩;rw[hp.reads hpl];unfold x9;rw[if_pos rfl]
  ·have hj2:P.now.written j=true∨P.kept.written j=true:=by
    rcases hj with hj|hj
    ·have hj:fb P.now.written i j=true:=hj;unfold fb at hj;rw[decide_eq_false hji,qL] at hj;exact .inl hj
    ·exact .inr hj
   obtain⟨g,hg,hs⟩:=h.pages j hj2;have hjn:j.toNat≠i.toNat:=λhh=>hji (UInt32.toNat_inj.1 hh);refine⟨g,by show sI P.gens i P.gen j=_;unfold sI;rw[if_neg hji];exact hg,?_⟩;unfold x9;rw[if_neg hji];exact hs.other λq hq=>by rw[hp.now,if_neg (by omega)]
theorem POK.read(h:POK n k key ds P V){i:UInt32}(hi:P.now.written i=true) :
  UInt64.ofNat (dF ((ds.reads (32+(i.toNat:Int)*8) 8).take 8))=(P.gens i).getD 0/\wk (bs key bC 0) i.toNat (ds.reads (32+(i.toNat:Int)*8) 8)=some (V i):=by
 obtain⟨g,hg,hs,hl⟩:=h.pages i (.inl hi);rw[hs,sO,hg,AS _ _ _ _ hl];exact⟨rfl,rfl⟩
theorem POK.commit(h:POK n k key ds P V)(hk:k+1<=1000000)(root:UInt32)(txt:List UInt8)(ht:txt.length<=200) :
  ds.flush.2=0/\(db key ds.flush.1 ((P.at_+1) % 2) (ez P root txt)).2=0 /\
  POK n (k+1) key (db key ds.flush.1 ((P.at_+1) % 2) (ez P root txt)).1 { P with now:=(ez P root txt).st,kept:=ez P root txt,at_:=(P.at_+1) % 2 } V /\
  Laid key ds.flush.1 (db key ds.flush.1 ((P.at_+1) % 2) (ez P root txt)).1 ((P.at_+1) % 2) (ez P root txt):=by
 have hsteps:=h.steps;have hlen:=h.len;have hsz:=h.size;have h0:=HP h.off;have hfs:=DSt.flush_steps ds;have hff:=h.fine.flush (by omega);have hfl:=DSt.flush_len ds;have hfo:ds.flush.1.offAt=0:=by rw[tU];exact h.off
 have ht2:(ez P root txt).txt.length<=200:=ht;obtain⟨h1,hL⟩:=rW (k:=key) (a:=(P.at_+1) % 2) (s:=ez P root txt) hfo (by omega) (by omega) ht2;have hbn:=kX key ds.flush.1 ((P.at_+1) % 2) (ez P root txt) hff ht2 (by omega);have hsn:=ng ht2;refine⟨h0,h1,⟨by rw[hL.offAt];exact hfo,hbn.1,by rw[hL.len,hfl];exact hlen,hsz,by omega,hk,h.broken,by show(P.at_+1) % 2<=1;omega,h.used,h.used,h.written,h.written,λj hj=>.inr hj,λj hj=>?_⟩,hL⟩;have hj:P.now.written j=true:=by rcases hj with hj|hj <;> exact hj
 obtain⟨g,hg,hs⟩:=h.pages j (.inl hj);have hjn:=h.used j (h.written j hj);refine⟨g,hg,hs.other λq hq=>?_⟩;rw[hL.now _ (by omega) (by rw[hfl];omega),if_neg (by omega),tc h0 (by omega) (by omega)]
end
theorem yu(nb:List UInt8)(hn:nb.length=4)(rest:List UInt8):∀(n q:Nat) (b:List UInt8),q<n->(fN n nb b++rest).drop (64*q)=fN (n-q) nb (b.drop (56*q))++rest
 | n, 0, b, _ => by simp
 | 0, q + 1, b, h => by omega
 | n + 1, q + 1, b, h => by
  rw[show 64*(q+1)=64+64*q by omega,<-gD,(lT n nb b rest hn).2.2.2,yu nb hn rest n q (b.drop 56) (by omega),gD,show n+1-(q+1)=n-q by omega,show 56+56*q=56*(q+1) by omega]
theorem D5(k:List UInt8)(s:Sup)(hc:s.commit.toNat<4294967296)(q:Nat)(hq:q<j7 s):zG (chS (dR (cA k s) s.commit) q)=s.commit.toNat/\zE (chS (dR (cA k s) s.commit) q)=s.commit.toNat:=by
 have hsl:=gQ k s;have hN:j7 s=((cA k s).length+55) / 56:=by rw[hsl];rfl
 have hfr:dR (cA k s) s.commit=fN (j7 s) (be 4 s.commit.toNat) (cA k s)++[]:=by unfold dR;rw[<-hN,cH]
 obtain⟨m,hm⟩:∃m,j7 s-q=m+1:=⟨j7 s-q-1,by omega⟩
 have hv:=A8 (dR (cA k s) s.commit) q _ (kZ k s) hq;have hd:(dR (cA k s) s.commit).drop (64*q)=fN (m+1) (be 4 s.commit.toNat) ((cA k s).drop (56*q))++[]:=by
  rw[hfr,yu _ (aP _ _) _ _ _ _ hq,hm]
 obtain⟨h1,h2,h3,h4⟩:=lT m (be 4 s.commit.toNat) ((cA k s).drop (56*q)) [] (aP _ _);rw[<-hd] at h1 h2;have hb:dF (be 4 s.commit.toNat)=s.commit.toNat:=by rw[gI];exact fJ hc
 unfold zG zE;rw[hv];refine⟨?_,?_⟩
 ·rw[qS,show min 4 64=4 from rfl,h1,hb]
 ·rw[List.drop_take,qS,show min 4 (64-60)=4 from rfl,h2,hb]
structure SupAt(key:List UInt8)(ds:DSt)(a:Nat)(s:Sup):Prop where
 a_:a<=1
 ok:s.Ok
 reg:∃rest,rest.length=64*(16-j7 s)/\fB ds a=dR (cA key s) s.commit++rest
 oth:∀s',dX key (iU (fB ds ((a+1) % 2)))=some s'->s'.commit<s.commit
 nums:NumLe ds s.commit.toNat
section
variable {key:List UInt8}{ds ds':DSt}{a:Nat}{s:Sup}
theorem SupAt.par(h:SupAt key ds a s):dX key (iU (fB ds a))=some s:=by
 obtain⟨rest,hr,he⟩:=h.reg
 have:=ng h.ok.txt
 obtain⟨z,hz⟩:=GJ key s rest (by omega) hr;rw[he,hz,CI key s z h.ok]
theorem rQ{k:List UInt8}{ds:DSt}{best:Option (Sup×Nat)}{i:Nat}(h:dX k (iU (fB ds i))=none):eo k ds best i=best:=by unfold eo;rw[h]
theorem SupAt.newest(h:SupAt key ds a s):newest key ds=some (s,a):=by
 have hp:=h.par;have ho:=h.oth;unfold Go.Sac.newest;rcases(by have:=h.a_;omega:a=0∨a=1) with rfl|rfl
 ·have h0:eo key ds none 0=some (s,0):=by unfold eo;rw[hp]
  rw[h0];cases hq:dX key (iU (fB ds 1)) with
  | none => exact rQ hq
  | some s' =>
   have:=ho s' hq
   unfold eo;rw[hq];show(if s.commit<s'.commit then some (s',1) else some (s,0))=some (s,0);rw[if_neg];intro hh;rw[mS] at this hh;omega
 ·cases hq:dX key (iU (fB ds 0)) with
  | none =>
   rw[rQ hq];unfold eo;rw[hp]
  | some s' =>
   have:=ho s' hq
   have h0:eo key ds none 0=some (s',0):=by unfold eo;rw[hq]
   rw[h0];unfold eo;rw[hp];show(if s'.commit<s.commit then some (s,1) else some (s',0))=some (s,1);rw[if_pos this]
theorem NumLe.mono{M M':Nat}(h:NumLe ds M)(hm:M<=M'):NumLe ds M':=λj h0 h1=>by have:=h j h0 h1;omega
theorem NumLe.congr{M:Nat}(h:NumLe ds M)(hc:∀j:Int,0<=j->j<32->ds'.now j=ds.now j):NumLe ds' M:=λj h0 h1=>by rw[hc j h0 h1];exact h j h0 h1
theorem vO(ha:a<=1)(hc:∀j:Int,0<=j->j<32->ds'.now j=ds.now j):fB ds' a=fB ds a:=lS λq hq=>hc _ (by omega) (by omega)
theorem SupAt.congr(h:SupAt key ds a s)(hc:∀j:Int,0<=j->j<32->ds'.now j=ds.now j):SupAt key ds' a s:=by
 refine⟨h.a_,h.ok,?_,?_,h.nums.congr hc⟩
 ·rw[vO h.a_ hc];exact h.reg
 ·rw[vO (by omega) hc];exact h.oth
theorem Laid.othReg(h:Laid key ds ds' a s)(_:a<=1)(hl:32<=ds.kept.length)(ht:s.txt.length<=200):fB ds' ((a+1) % 2)=fB ds ((a+1) % 2):=by
 have:=ng ht
 exact h.other (by omega) (by omega) (by omega)
theorem Laid.nums(h:Laid key ds ds' a s)(hl:32<=ds.kept.length){M:Nat}(hn:NumLe ds M)(hM:M<=s.commit.toNat)(hc:s.commit.toNat<4294967296):NumLe ds' s.commit.toNat:=by
 intro j h0 h1;rw[h.now j h0 (by omega)]
 split
 ·rename_i hj
  obtain⟨q1,q2⟩:=D5 key s hc (j-(a:Int)*16).toNat (by omega)
  omega
 ·have:=hn j h0 h1
  omega
theorem Laid.sup(h:Laid key ds ds' a s)(ha:a<=1)(hl:32<=ds.kept.length)(hok:s.Ok){M:Nat}(hn:NumLe ds M)(hM:M<=s.commit.toNat)(hc:s.commit.toNat<4294967296)
  (ho:∀s',dX key (iU (fB ds ((a+1) % 2)))=some s'->s'.commit<s.commit):SupAt key ds' a s:=by
 refine⟨ha,hok,⟨_,DSt.reads_length _ _ _,h.reg ha hl hok.txt⟩,?_,h.nums hl hn hM hc⟩;rw[h.othReg ha hl hok.txt];exact ho
theorem SupAt.next(h:SupAt key ds a s){s':Sup}(hL:Laid key ds ds' ((a+1) % 2) s')(hl:32<=ds.kept.length)(hok:s'.Ok)(hlt:s.commit.toNat<s'.commit.toNat)(hc:s'.commit.toNat<4294967296):SupAt key ds' ((a+1) % 2) s':=by
 have ha:=h.a_;refine hL.sup (by omega) hl hok h.nums (by omega) hc ?_;rw[show((a+1) % 2+1) % 2=a by omega,h.par];intro s2 h2;cases h2;rw[mS];exact hlt
end
theorem Et(n:Nat)(j:Int):(dsN n).now j=sec0:=by
 unfold DSt.now dsN;show(none:Option Sec).getD ((List.replicate n sec0).getD j.toNat sec0)=sec0;rw[Option.getD_none,eN,List.getElem?_replicate]
 split <;> rfl
theorem Bv(n:Nat):NumLe (dsN n) 0:=λj _ _=>by rw[Et];decide
theorem rL{k b:List UInt8}{s:Sup}(h:dX k b=some s):s=kF b:=by
 unfold dX at h
 split at h
 ·cases h
 ·split at h
  ·cases h;rfl
  ·cases h
theorem reads_zero(n:Nat)(i:Int):∀m,(dsN n).reads i m=List.replicate (64*m) 0
 | 0 => rfl
 | m + 1 => by
  rw[DSt.reads_succ,reads_zero n i m,Et];show List.replicate (64*m) (0:UInt8)++List.replicate 64 0=_;rw[uq];rfl
theorem xV:iU (List.replicate (64*16) 0)=List.replicate 896 0:=by decide +kernel
theorem om(k:List UInt8)(n:Nat):kj (newest k (dsN n))=0/\uc (newest k (dsN n))=0:=by
 cases h:newest k (dsN n) with
 | none => exact ⟨rfl, rfl⟩
 | some p =>
  obtain⟨s,a⟩:=p;obtain⟨_,h1⟩:=tO h;have h2:=rL h1;unfold fB at h2;rw[reads_zero,xV] at h2;subst h2;have hz:(kF (List.replicate 896 0)).commit=0/\(kF (List.replicate 896 0)).epoch=0:=by decide +kernel
  exact hz
theorem HO(k:List UInt8)(n:Nat):fK k (dsN n)=1:=by
 have h:=tP (k:=k) (Bv n) (by omega) (by rw[(om k n).1];decide);apply UInt64.toNat_inj.1;show _=1;omega
theorem yw(k:List UInt8)(n i:Nat)(hi:i<=1):gf k (dsN n) i=⟨0,[],kz,kz,UInt64.ofNat (i+1),1⟩:=by
 unfold gf;rw[HO,(om k n).2];rcases(by omega:i=0∨i=1) with rfl|rfl <;> rfl
theorem FB(k:List UInt8)(ds:DSt):iS k ds 1=(iS k ds 0+1) % 2:=by
 have:=sS k ds
 unfold iS;omega
def pgZ(a:Nat):Pg:=⟨⟨0,[],kz,kz⟩,⟨0,[],kz,kz,2,1⟩,a,0,λ_=>none,false⟩
theorem Bg(key:List UInt8)(n:Nat)(hn:4<=n/\n<=400)(V:UInt32->List UInt8) :
  (∀j,j<=2->(j8 key (dsN (32+8*n)) j).2=0)/\(⟨(gf key (dsN (32+8*n)) 1).st,gf key (dsN (32+8*n)) 1,iS key (dsN (32+8*n)) 1,0,λ_=>none,false⟩:Pg)=pgZ (iS key (dsN (32+8*n)) 1) /\
  POK n 1 key (j8 key (dsN (32+8*n)) 2).1 (pgZ (iS key (dsN (32+8*n)) 1)) V/\SupAt key (j8 key (dsN (32+8*n)) 2).1 (iS key (dsN (32+8*n)) 1) ⟨0,[],kz,kz,2,1⟩/\(j8 key (dsN (32+8*n)) 2).1.pend=[]:=by
 generalize hds:dsN (32+8*n)=ds
 have hz0:=yw key (32+8*n) 0 (by omega);have hz1:=yw key (32+8*n) 1 (by omega);have hnm:=Bv (32+8*n);have hf:=Bw (32+8*n) (by omega);have hl:ds.kept.length=32+8*n:=by rw[<-hds];exact cQ
 have hoff:ds.offAt=0:=by rw[<-hds];rfl
 have hst:ds.steps=0:=by rw[<-hds];rfl
 have hnz:=om key (32+8*n);have hpar:∀(a:Nat) (s':Sup),dX key (iU (fB ds a))=some s'->s'.commit<1:=by
  intro a s' h;have h2:=rL h;rw[<-hds] at h2;unfold fB at h2;rw[reads_zero,xV] at h2;subst h2;decide +kernel
 rw[hds] at hz0 hz1 hnm hf hnz;have ha0:=Ek key ds 0;have ha1:=FB key ds;have ok0:(gf key ds 0).Ok:=by rw[hz0];exact⟨en _,λ_ h=>Bool.noConfusion h,λ_ h=>Bool.noConfusion h⟩
 have ok1:(gf key ds 1).Ok:=by rw[hz1];exact⟨en _,λ_ h=>Bool.noConfusion h,λ_ h=>Bool.noConfusion h⟩
 have c0:(gf key ds 0).commit.toNat=1:=by rw[hz0];rfl
 have c1:(gf key ds 1).commit.toNat=2:=by rw[hz1];rfl
 obtain⟨r0,hL0⟩:=rW (k:=key) (a:=iS key ds 0) (s:=gf key ds 0) hoff ha0 (by omega) ok0.txt;have b0:=kX key ds (iS key ds 0) (gf key ds 0) hf ok0.txt (by omega);have hS0:=hL0.sup ha0 (by omega) ok0 hnm (by omega) (by omega) (λs' h=>by
  have:=hpar _ s' h
  rw[mS] at this ⊢;have e:(1:UInt64).toNat=1:=rfl
  omega)
 have hd1:j8 key ds 1=db key ds (iS key ds 0) (gf key ds 0):=rfl;obtain⟨r1,hL1⟩:=rW (k:=key) (ds:=(j8 key ds 1).1) (a:=iS key ds 1) (s:=gf key ds 1) (by rw[hd1,hL0.offAt];exact hoff) (by omega) (by rw[hd1,hL0.len];omega) ok1.txt;have b1:=kX key (j8 key ds 1).1 (iS key ds 1) (gf key ds 1) (by rw[hd1];exact b0.1) ok1.txt (by rw[hd1];omega);have hd2:j8 key ds 2=db key (j8 key ds 1).1 (iS key ds 1) (gf key ds 1):=rfl;have hS1:SupAt key (j8 key ds 2).1 (iS key ds 1) (gf key ds 1):=by
  rw[ha1] at hL1 ⊢;have h:=hS0.next (s':=gf key ds 1) (ds':=(db key (j8 key ds 1).1 ((iS key ds 0+1) % 2) (gf key ds 1)).1) hL1 (by rw[hL0.len];omega) ok1 (by omega) (by omega);rw[hd2,ha1];exact h
 refine⟨λj hj=>?_,?_,⟨?_,?_,?_,hn,?_,by omega,rfl,?_,λi h=>Bool.noConfusion h,λi h=>Bool.noConfusion h,λi h=>Bool.noConfusion h,λi h=>Bool.noConfusion h,λi h=>Bool.noConfusion h,λi h=>by rcases h with h|h <;> exact Bool.noConfusion h⟩,?_,?_⟩
 ·rcases(by omega:j=0∨j=1∨j=2) with rfl|rfl|rfl
  ·rfl
  ·rw[hd1];exact r0
  ·rw[hd2];exact r1
 ·rw[hz1];rfl
 ·rw[hd2,hL1.offAt,hd1,hL0.offAt];exact hoff
 ·rw[hd2];exact b1.1
 ·rw[hd2,hL1.len,hd1,hL0.len];exact hl
 ·rw[hd2];rw[hd1] at b1 ⊢;omega
 ·show iS key ds 1<=1;omega
 ·rw[hz1] at hS1;exact hS1
 ·rw[hd2];exact hL1.pend
theorem Hu{n k:Nat}{key:List UInt8}{ds:DSt}{a:Nat}{s:Sup}{V:UInt32->List UInt8}(hS:SupAt key ds a s)(hoff:ds.offAt=0)(hf:ds.Fine)(hl:ds.kept.length=32+8*n)(hn:4<=n/\n<=400)(hst:ds.steps<=100*k)(hk:k+1<=1000000)(hc:s.commit.toNat<50000)
  (hu:∀i,s.used i=true->i.toNat<n) (hw:∀i,s.written i=true->s.used i=true) (hp:∀i,s.written i=true->∃g,Stands ds (bs key bC 0) i.toNat g (V i)) :
  (db key ds ((a+1) % 2) (opS key ds s)).2=0 /\
  (∀f:UInt32->Option UInt64,(∀i,s.written i=true->f i=some (A2 (db key ds ((a+1) % 2) (opS key ds s)).1 i))->POK n (k+1) key (db key ds ((a+1) % 2) (opS key ds s)).1 ⟨s.st,opS key ds s,(a+1) % 2,0,f,false⟩ V) /\
  SupAt key (db key ds ((a+1) % 2) (opS key ds s)).1 ((a+1) % 2) (opS key ds s)/\Laid key ds (db key ds ((a+1) % 2) (opS key ds s)).1 ((a+1) % 2) (opS key ds s)/\(opS key ds s).commit.toNat=s.commit.toNat+1:=by
 have ha:=hS.a_;have hok:=hS.ok;have hok2:(opS key ds s).Ok:=⟨hok.txt,hok.used,hok.written⟩
 have hnx:=tP (k:=key) hS.nums (by omega) (by rw[hS.newest];exact aN _);have hcm:kj (newest key ds)=s.commit:=by rw[hS.newest];rfl
 rw[hcm] at hnx;have hc2:(opS key ds s).commit.toNat=s.commit.toNat+1:=by show(fK key ds).toNat=_;omega
 obtain⟨r0,hL⟩:=rW (k:=key) (a:=(a+1) % 2) (s:=opS key ds s) hoff (by omega) (by omega) hok2.txt;have hb:=kX key ds ((a+1) % 2) (opS key ds s) hf hok2.txt (by omega);have hsn:=ng hok2.txt;have hS2:=hS.next hL (by omega) hok2 (by omega) (by omega);refine⟨r0,λf hff=>⟨by rw[hL.offAt];exact hoff,hb.1,by rw[hL.len];exact hl,hn,by omega,hk,rfl,by show(a+1) % 2<=1;omega,hu,hu,hw,hw,λi hi=>.inr hi,λi hi=>?_⟩,hS2,hL,hc2⟩;have hi:s.written i=true:=by rcases hi with hi|hi <;> exact hi
 obtain⟨g,hg⟩:=hp i hi;have hin:=hu i (hw i hi);have hg2:Stands (db key ds ((a+1) % 2) (opS key ds s)).1 (bs key bC 0) i.toNat g (V i):=hg.other λq hq=>by
  rw[hL.now _ (by omega) (by omega),if_neg (by omega)]
 refine⟨g,?_,hg2⟩;show f i=some g;rw[hff i hi];unfold A2;have e8:(db key ds ((a+1) % 2) (opS key ds s)).1.reads (32+(i.toNat:Int)*8) 8=(db key ds ((a+1) % 2) (opS key ds s)).1.reads (32+(i.toNat:Int)*8) 1++(db key ds ((a+1) % 2) (opS key ds s)).1.reads (32+(i.toNat:Int)*8+(1:Nat)) 7:=oV _ _ 1 7;have h1:((db key ds ((a+1) % 2) (opS key ds s)).1.reads (32+(i.toNat:Int)*8) 1).length=64:=DSt.reads_length _ _ _;rw[hg2.1] at e8;have e9:(hG (bs key bC 0) i.toNat g.toNat (V i)).take 8=((db key ds ((a+1) % 2) (opS key ds s)).1.reads (32+(i.toNat:Int)*8) 1).take 8:=by rw[e8,lJ (by omega)]
 rw[<-e9,sO]
theorem mget_no{κ ν:Type}[DecidableEq κ]{k:κ}{m:List (κ×ν)}(h:cF k m=none):k∉m.map (·.1):=by
 induction m with
 | nil => simp
 | cons p m ih =>
  obtain⟨x,u⟩:=p;simp only[cF] at h;by_cases hx:k=x
  ·rw[if_pos hx] at h;cases h
  ·rw[if_neg hx] at h;simp only[eZ,bZ,not_or];exact⟨hx,ih h⟩
theorem sj(m:List (Int×Sec))(j:Nat):∀(is:List Int) (ch:List UInt8) (k:List Sec),(∀i∈is,i.toNat≠j)->(ja m is ch k).getD j sec0=k.getD j sec0
 | [], _, _, _ => rfl
 | i :: is, ch, k, h => by
  rw[ja,sj m j is _ _ (λx hx=>h x (by simp[hx]))];have hi:=h i (by simp);rw[eN,List.getElem?_set_ne hi,<-eN]
theorem yG{ds:DSt}(hf:ds.Fine)(ch:List UInt8){j:Int}(hj:0<=j)(hp:cF j ds.pend=none):(ds.crash ch).now j=ds.now j:=by
 have hno:=mget_no hp;unfold DSt.now;rw[hp];show((none:Option Sec).getD ((ja ds.pend (mA (ds.pend.map (·.1))) ch ds.kept).getD j.toNat sec0))=_;rw[Option.getD_none,Option.getD_none];refine sj _ _ _ _ _ (λi hi hh=>hno ?_);unfold mA at hi;rw[List.mem_mergeSort] at hi;obtain⟨p,hp1,hp2⟩:=List.mem_map.1 hi
 have:=hf.keys p hp1
 rw[show j=i by omega];exact hi
theorem Dg{ds:DSt}(hf:ds.Fine)(ch:List UInt8):(ds.crash ch).Fine:=⟨hf.steps,en _,λp hp=>by simp[DSt.crash] at hp,by show(ja _ _ _ _).length<=4000;rw[pU];exact hf.size⟩
theorem FM(ds:DSt)(ch:List UInt8):(ds.crash ch).kept.length=ds.kept.length:=pU _ _ _ _
structure PInv(n k:Nat)(key:List UInt8)(ds:DSt)(P:Pg)(V:UInt32->List UInt8):Prop where
 ok:POK n k key ds P V
 sup:k<=40000->SupAt key ds P.at_ P.kept
 com:k<=40000->P.kept.commit.toNat<=k+1
 few:k<=1000000
 dur0:∀j:Int,0<=j->j<32->cF j ds.pend=none
 dur1:∀i,P.kept.written i=true->∀q:Nat,q<8->cF (32+(i.toNat:Int)*8+q) ds.pend=none
structure PCra(n k:Nat)(key:List UInt8)(ds:DSt)(a:Nat)(s:Sup)(V:UInt32->List UInt8):Prop where
 off:ds.offAt=0
 fine:ds.Fine
 pend:ds.pend=[]
 len:ds.kept.length=32+8*n
 size:4<=n/\n<=400
 steps:ds.steps<=100*k
 few:k<=40000
 sup:SupAt key ds a s
 com:s.commit.toNat<=k+1
 used:∀i,s.used i=true->i.toNat<n
 written:∀i,s.written i=true->s.used i=true
 pages:∀i,s.written i=true->∃g,Stands ds (bs key bC 0) i.toNat g (V i)
section
variable {n k:Nat}{key:List UInt8}{ds:DSt}{P:Pg}{V:UInt32->List UInt8}
theorem PInv.alloc(h:PInv n k key ds P V)(i:UInt32)(hi:i.toNat<n):PInv n k key ds { P with now:={ P.now with used:=fb P.now.used i } } V :=
 ⟨h.ok.alloc i hi,h.sup,h.com,h.few,h.dur0,h.dur1⟩
theorem PInv.free(h:PInv n k key ds P V)(i:UInt32):PInv n k key ds { P with now:={ P.now with used:=eW P.now.used i,written:=eW P.now.written i } } V :=
 ⟨h.ok.free i,h.sup,h.com,h.few,h.dur0,h.dur1⟩
theorem PInv.undo(h:PInv n k key ds P V):PInv n k key ds { P with now:=P.kept.st } V:=⟨h.ok.undo,h.sup,h.com,h.few,h.dur0,h.dur1⟩
theorem PInv.write(h:PInv n k key ds P V)(hk:k+1<=40000)(i:UInt32)(hi:P.fresh i=true)(l:List UInt8)(hl:l.length<=480) :
  (ds.writes (32+(i.toNat:Int)*8) (hG (bs key bC 0) i.toNat P.gen.toNat l)).2=0 /\
  PInv n (k+1) key (ds.writes (32+(i.toNat:Int)*8) (hG (bs key bC 0) i.toNat P.gen.toNat l)).1 { P with count:=P.count+1,now:={ P.now with written:=fb P.now.written i },gens:=sI P.gens i P.gen } (x9 V i l):=by
 obtain⟨h0,h1⟩:=h.ok.write (by omega) i hi l hl;have hlen:=h.ok.len;obtain⟨hu,hku⟩:=fresh_iff.1 hi;have hin:=h.ok.used i hu;have hpl:=nk (bs key bC 0) i.toNat P.gen.toNat l hl;obtain⟨_,hp⟩:=xR 8 ds (32+(i.toNat:Int)*8) (hG (bs key bC 0) i.toNat P.gen.toNat l) h.ok.off hpl (by omega) (by omega);refine⟨h0,h1,λ_=>(h.sup (by omega)).congr λj hj0 hj1=>by rw[hp.now,if_neg (by omega)],λ_=>by have:=h.com (by omega);show P.kept.commit.toNat<=_;omega,by omega,λj hj0 hj1=>by rw[hp.pend,if_neg (by omega)];exact h.dur0 j hj0 hj1,λj hj q hq=>?_⟩;have hj:P.kept.written j=true:=hj;have hjn:j.toNat≠i.toNat:=λhh=>by
  have:=h.ok.kwritten j hj
  rw[UInt32.toNat_inj.1 hh,hku] at this;cases this
 rw[hp.pend,if_neg (by omega)];exact h.dur1 j hj q hq
theorem HY{s:UInt64}(h:s.toNat<=50000):(s+1).toNat=s.toNat+1:=by
 rw[qN];exact fJ (by show s.toNat+1<_;omega)
theorem PInv.commit(h:PInv n k key ds P V)(hk:k+1<=40000)(root:UInt32)(txt:List UInt8)(ht:txt.length<=200) :
  ds.flush.2=0/\(db key ds.flush.1 ((P.at_+1) % 2) (ez P root txt)).2=0 /\
  PInv n (k+1) key (db key ds.flush.1 ((P.at_+1) % 2) (ez P root txt)).1 { P with now:=(ez P root txt).st,kept:=ez P root txt,at_:=(P.at_+1) % 2 } V /\
  Laid key ds.flush.1 (db key ds.flush.1 ((P.at_+1) % 2) (ez P root txt)).1 ((P.at_+1) % 2) (ez P root txt)/\SupAt key ds.flush.1 P.at_ P.kept:=by
 obtain⟨h0,h1,h2,hL⟩:=h.ok.commit (by omega) root txt ht;have hlen:=h.ok.len;have hfl:=DSt.flush_len ds;have hsz:=h.ok.size;have hcom:=h.com (by omega);have hfew:=h.few;have hS1:SupAt key ds.flush.1 P.at_ P.kept:=(h.sup (by omega)).congr λj hj0 hj1=>tc h0 hj0 (by omega);have hcn:(ez P root txt).commit.toNat=P.kept.commit.toNat+1:=HY (by omega);have hok:(ez P root txt).Ok:=⟨ht,λi hi=>by have:=h.ok.used i hi;omega,λi hi=>by have:=h.ok.used i (h.ok.written i hi);omega⟩
 have hS2:=hS1.next hL (by omega) hok (by omega) (by omega);refine⟨h0,h1,⟨h2,λ_=>hS2,λ_=>by show(ez P root txt).commit.toNat<=_;omega,by omega,λj _ _=>by rw[hL.pend];rfl,λi _ q _=>by rw[hL.pend];rfl⟩,hL,hS1⟩
theorem PInv.crash(h:PInv n k key ds P V)(hk:k<=40000)(ch:List UInt8):PCra n k key (ds.crash ch) P.at_ P.kept V:=by
 have hf:=h.ok.fine;refine⟨rfl,Dg hf ch,rfl,by rw[FM];exact h.ok.len,h.ok.size,h.ok.steps,hk,(h.sup hk).congr λj hj0 hj1=>yG hf ch hj0 (h.dur0 j hj0 hj1),h.com hk,h.ok.kused,h.ok.kwritten,λi hi=>?_⟩;obtain⟨g,_,hg⟩:=h.ok.pages i (.inr hi);exact⟨g,hg.other λq hq=>yG hf ch (by omega) (h.dur1 i hi q hq)⟩
theorem PCra.open{a:Nat}{s:Sup}(h:PCra n k key ds a s V)(hk:k+1<=40000) :
  newest key ds=some (s,a)/\(db key ds ((a+1) % 2) (opS key ds s)).2=0 /\
  (∀f:UInt32->Option UInt64,(∀i,s.written i=true->f i=some (A2 (db key ds ((a+1) % 2) (opS key ds s)).1 i))->PInv n (k+1) key (db key ds ((a+1) % 2) (opS key ds s)).1 ⟨s.st,opS key ds s,(a+1) % 2,0,f,false⟩ V) /\
  Laid key ds (db key ds ((a+1) % 2) (opS key ds s)).1 ((a+1) % 2) (opS key ds s)/\(opS key ds s).commit.toNat=s.commit.toNat+1:=by
 have hc:=h.com;have hfew:=h.few;obtain⟨h0,h1,h2,h3,h4⟩:=Hu h.sup h.off h.fine h.len h.size h.steps (by omega) (by omega) h.used h.written h.pages;exact⟨h.sup.newest,h0,λf hf=>⟨h1 f hf,λ_=>h2,λ_=>by show(opS key ds s).commit.toNat<=_;omega,by omega,λj _ _=>by rw[h3.pend];rfl,λi _ q _=>by rw[h3.pend];rfl⟩,h3,h4⟩
end
theorem PInv.zero(key:List UInt8)(n:Nat)(hn:4<=n/\n<=400)(V:UInt32->List UInt8) :
  (∀j,j<=2->(j8 key (dsN (32+8*n)) j).2=0)/\(⟨(gf key (dsN (32+8*n)) 1).st,gf key (dsN (32+8*n)) 1,iS key (dsN (32+8*n)) 1,0,λ_=>none,false⟩:Pg)=pgZ (iS key (dsN (32+8*n)) 1) /\
  PInv n 1 key (j8 key (dsN (32+8*n)) 2).1 (pgZ (iS key (dsN (32+8*n)) 1)) V:=by
 obtain⟨h1,h2,h3,h4,h5⟩:=Bg key n hn V;exact⟨h1,h2,h3,λ_=>h4,λ_=>aN 2,by omega,λj _ _=>by rw[h5];rfl,λi hi=>Bool.noConfusion hi⟩
def pgY(c:UInt64)(e:UInt32)(a:Nat):Pg:=⟨⟨0,[],kz,kz⟩,⟨0,[],kz,kz,c,e⟩,a,0,λ_=>none,false⟩
abbrev Bs:=List UInt8
abbrev ltB:Bs->Bs->Bool:=Op.bytesLess
theorem uC(a:Bs):ltB a []=false:=by cases a <;> rfl
theorem rT(a b:UInt8)(x y:Bs):ltB (a::x) (b::y)=(decide (a<b)||(a==b&&ltB x y)):=rfl
theorem iw:∀a:Bs,ltB a a=false
 | [] => rfl
 | a :: x => by rw [rT, iw x, decide_eq_false (ui a), Bool.and_false]; rfl
theorem fi:∀{a b c:Bs},ltB a b=true->ltB b c=true->ltB a c=true
 | _, _, [], _, h => by rw [uC] at h; cases h
 | _, [], _ :: _, h, _ => by rw [uC] at h; cases h
 | [], _ :: _, _ :: _, _, _ => rfl
 | a :: x, b :: y, c :: z, h1, h2 => by
  rw[rT] at h1 h2 ⊢;simp only[mX,decide_eq_true_eq,jW,beq_iff_eq] at h1 h2 ⊢;rcases h1 with h1|⟨rfl,h1⟩
  ·rcases h2 with h2|⟨rfl,h2⟩
   ·exact .inl (UInt8.lt_trans h1 h2)
   ·exact .inl h1
  ·rcases h2 with h2|⟨rfl,h2⟩
   ·exact .inl h2
   ·exact .inr ⟨rfl,fi h1 h2⟩
theorem rS:∀{a b:Bs},ltB a b=false->ltB b a=false->a=b
 | [], [], _, _ => rfl
 | [], _ :: _, h, _ => by cases h
 | _ :: _, [], _, h => by cases h
 | a :: x, b :: y, h1, h2 => by
  rw[rT] at h1 h2;simp only[Bool.or_eq_false_iff,decide_eq_false_iff_not,Bool.and_eq_false_iff,beq_eq_false_iff_ne] at h1 h2;have hab:a=b:=UInt8.le_antisymm (UInt8.not_lt.1 h2.1) (UInt8.not_lt.1 h1.1);subst hab;rw[rS (h1.2.resolve_left (λh=>h O)) (h2.2.resolve_left (λh=>h O))]
theorem jf{a b:Bs}(h:ltB a b=true):ltB b a=false:=by
 cases hb:ltB b a with
 | false => rfl
 | true => have := fi h hb; rw [iw] at this; cases this
theorem qv{a b:Bs}(h:ltB a b=true):a≠b:=λe=>by subst e;rw[iw] at h;cases h
theorem CW{a b c:Bs}(h1:ltB a b=true)(h2:ltB c b=false):ltB a c=true:=by
 cases h3:ltB b c with
 | true => exact fi h1 h3
 | false => rw [<- rS h3 h2]; exact h1
theorem qx{a b c:Bs}(h1:ltB b a=false)(h2:ltB b c=true):ltB a c=true:=by
 cases h3:ltB a b with
 | true => exact fi h3 h2
 | false => rw [rS h3 h1]; exact h2
abbrev Pr:=Bs×Bs
def kG(l:List Bs):Prop:=l.Pairwise λa b=>ltB a b=true
def ej(l:List Pr):Prop:=l.Pairwise λp q=>ltB p.1 q.1=true
theorem sortP_keys{l:List Pr}:ej l↔kG (l.map (·.1)):=by unfold ej kG;rw[ur]
theorem EX{α:Type}{f:α->Bs}{l:List α}{x:α}(h:l.Pairwise λa b=>ltB (f a) (f b)=true)(hx:∀hp:l.length-1<l.length,ltB (f (l[l.length-1]'hp)) (f x)=true):(l++[x]).Pairwise λa b=>ltB (f a) (f b)=true:=by
 rw[oM];refine⟨h,zj _ _,λa ha b hb=>?_⟩;rw[gk] at hb;subst hb;obtain⟨i,hi,rfl⟩:=jF ha;have h2:=hx (by omega);by_cases hl:i=l.length-1
 ·subst hl;exact h2
 ·exact fi (List.pairwise_iff_getElem.1 h i (l.length-1) hi (by omega) (by omega)) h2
def gz(l:List Bs)(x:Bs):Nat:=(l.takeWhile λy=>ltB y x).length
theorem sm(l:List Bs)(x:Bs):gz l x<=l.length:=by
 unfold gz;exact(List.takeWhile_sublist _).length_le
theorem A7{l:List Bs}{x:Bs}:∀{i:Nat} (hi:i<gz l x),ltB (l[i]'(iC hi (sm l x))) x=true:=by
 induction l with
 | nil => intro i hi; exact absurd hi (by simp [gz])
 | cons a l ih =>
  intro i hi;unfold gz at hi;rw[List.takeWhile_cons] at hi
  split at hi
  ·rename_i h
   cases i with
   | zero => exact h
   | succ i => exact ih (i := i) (by simpa [gz] using hi)
  ·simp at hi
theorem tj{l:List Bs}{x:Bs}(h:gz l x<l.length):ltB (l[gz l x]'h) x=false:=by
 induction l with
 | nil => simp at h
 | cons a l ih =>
  by_cases ha:ltB a x=true
  ·have e:gz (a::l) x=gz l x+1:=by unfold gz;rw[List.takeWhile_cons,if_pos ha];rfl
   have h':gz l x<l.length:=by rw[e,cf] at h;omega
   have:=ih h'
   have q:(a::l)[gz (a::l) x]'h=l[gz l x]'h':=by
    have:(a::l)[gz (a::l) x]?=l[gz l x]?:=by rw[e];rfl
    rw[bN h,bN h'] at this;exact qP this
   rw[q];exact this
  ·have e:gz (a::l) x=0:=by unfold gz;rw[List.takeWhile_cons,if_neg ha];rfl
   have q:(a::l)[gz (a::l) x]'h=a:=by
    have:(a::l)[gz (a::l) x]?=some a:=by rw[e];rfl
    rw[bN h] at this;exact qP this
   rw[q];simpa using ha
theorem Ex{l:List Bs}{x:Bs}(hs:kG l){i:Nat}(hi:i<l.length)(hc:gz l x<=i):ltB l[i] x=false:=by
 have hcl:gz l x<l.length:=by omega
 have h0:=tj hcl;by_cases he:gz l x=i
 ·have q:l[i]=l[gz l x]:=by simp only[he]
  rw[q];exact h0
 ·have:=List.pairwise_iff_getElem.1 hs (gz l x) i hcl hi (by omega)
  cases h:ltB l[i] x with
  | false => rfl
  | true => rw [fi this h] at h0; cases h0
theorem Ey{l:List Bs}{x:Bs}{n:Nat}(hn:n<=l.length)(h1:∀i (h:i<l.length),i<n->ltB l[i] x=true)(h2:∀h:n<l.length,ltB l[n] x=false):gz l x=n:=by
 rcases Nat.lt_trichotomy (gz l x) n with h|h|h
 ·have hl:gz l x<l.length:=by omega
  have:=tj hl
  rw[h1 _ hl h] at this;cases this
 ·exact h
 ·have hl:n<l.length:=by have:=sm l x;omega
  have:=A7 h
  rw[h2 hl] at this;cases this
def yr(l:List Pr):List Bs:=l.map (·.1)
def m7(l:List Pr)(k:Bs):Option Bs:=(l.find? λp=>p.1==k).map (·.2)
def g9(l:List Pr)(p:Pr):List Pr:=l.filter (λq=>ltB q.1 p.1)++p::l.filter λq=>ltB p.1 q.1
def kD(l:List Pr)(k:Bs):List Pr:=l.filter λq => !(q.1==k)
theorem zA{l:List Pr}(f:Pr->Bool)(h:ej l):ej (l.filter f):=h.sublist List.filter_sublist
theorem yE{l:List Pr}(k:Bs)(h:ej l):ej (kD l k):=zA _ h
def txt(s:Bs):Bs:=be 2 s.length++s
theorem im(s:Bs):(txt s).length=s.length+2:=by unfold txt;rw[aF,aP];omega
def prB(p:Pr):Bs:=txt p.1++txt p.2
theorem CD(p:Pr):(prB p).length=p.1.length+p.2.length+4:=by unfold prB;rw[aF,im,im];omega
def rV(l:List Pr):Bs:=(1:UInt8)::(be 2 l.length++l.flatMap prB)
def kS(ids:List UInt32):Bs:=ids.flatMap λi=>be 4 i.toNat
def brB(ks:List Bs)(ids:List UInt32):Bs:=(2:UInt8)::(be 2 ks.length++(ks.flatMap txt++kS ids))
def cY(l:List Pr):Nat:=3+(l.map λp=>p.1.length+p.2.length+4).sum
def dt(ks:List Bs):Nat:=(ks.map λk=>k.length+2).sum
def brZ(ks:List Bs)(ids:List UInt32):Nat:=3+4*ids.length+dt ks
theorem ji{α:Type}(f:α->Bs)(g:α->Nat)(h:∀a,(f a).length=g a):∀l:List α,(l.flatMap f).length=(l.map g).sum
 | [] => rfl
 | a :: l => by rw [pY, aF, ji f g h l, h, eZ, List.sum_cons]
theorem nt(l:List Pr):(rV l).length=cY l:=by
 unfold rV cY;rw[cf,aF,aP,ji prB _ CD];omega
theorem fz(ids:List UInt32):(kS ids).length=4*ids.length:=by
 unfold kS;rw[ji _ (λ_=>4) (λa=>aP _ _),List.map_const',List.sum_replicate_nat];omega
theorem wR(ks:List Bs)(ids:List UInt32):(brB ks ids).length=brZ ks ids:=by
 unfold brB brZ dt;rw[cf,aF,aF,aP,ji txt _ im,fz];omega
theorem eH(l m:List Pr):cY (l++m)+3=cY l+cY m:=by
 unfold cY;rw[gl,List.sum_append_nat];omega
theorem iI(p:Pr):cY [p]=p.1.length+p.2.length+7:=by simp[cY];omega
theorem iJ(l m:List Bs):dt (l++m)=dt l+dt m:=by
 unfold dt;rw[gl,List.sum_append_nat]
theorem jL(a:Bs)(l:List Bs):dt (a::l)=a.length+2+dt l:=by simp[dt]
theorem mI:∀l:List Pr,3+4*l.length<=cY l
 | [] => aN _
 | p :: l => by
  have h1:=mI l;have h3:=eH [p] l;rw[iI,gY] at h3;rw[cf];omega
abbrev mJ(k:Bs):Prop:=1<=k.length/\k.length<=60
abbrev og(p:Pr):Prop:=mJ p.1/\p.2.length<=150
def fW(l:List Pr):Prop:=(∀p∈l,og p)/\ej l
def zY(l:List Bs):Prop:=(∀k∈l,mJ k)/\kG l
def leafOk(l:List Pr):Prop:=fW l/\cY l<=480
def brOk(ks:List Bs)(ids:List UInt32):Prop:=ks≠[]/\ids.length=ks.length+1/\zY ks/\brZ ks ids<=480
theorem rU:∀l:List Pr,(∀p∈l,og p)->cY l<=3+214*l.length/\3+5*l.length<=cY l
 | [], _ => by simp [cY]
 | p :: l, h => by
  have h1:=rU l (λq hq=>h q (bO _ hq));have h2:=h p cP;have h3:=eH [p] l;rw[iI] at h3;rw[gY] at h3;rw[cf];omega
theorem wy:∀l:List Bs,(∀k∈l,mJ k)->dt l<=62*l.length/\3*l.length<=dt l
 | [], _ => by simp [dt]
 | p :: l, h => by
  have h1:=wy l (λq hq=>h q (bO _ hq));have h2:=h p cP;rw[jL,cf];omega
theorem leafOk.few{l:List Pr}(h:leafOk l):l.length<=95:=by
 have h1:=(rU l h.1.1).2;have h2:=h.2;omega
theorem brOk.few{ks:List Bs}{ids:List UInt32}(h:brOk ks ids):ks.length<=67/\ids.length<=68:=by
 obtain⟨_,h2,⟨h3,_⟩,h4⟩:=h;have h5:=(wy ks h3).2;unfold brZ at h4;omega
theorem EB{n:Nat}(hn:n<65536)(z:Bs):dF ((be 2 n++z).take 2)=n:=by
 rw[cR (aP _ _),gI];omega
theorem GO{s:Bs}(hs:s.length<65536)(z:Bs):dF ((txt s++z).take 2)=s.length:=by
 unfold txt;rw[bQ];exact EB hs _
theorem GM(s z:Bs):((txt s++z).drop 2).take s.length=s:=by
 unfold txt;rw[bQ,et (aP _ _),cR rfl]
theorem GN(s z:Bs):(txt s++z).drop (2+s.length)=z:=by
 rw[et (by rw[im];omega)]
theorem Fc(x:UInt32):fT x=be 4 x.toNat:=by
 have hx:=x.toNat_lt;have h:∀s,s<32->(js x s).toUInt8=UInt8.ofNat (x.toNat >>> s):=λs hs=>by
  apply UInt8.toNat_inj.1;unfold js;have h1:x.toNat >>> s<=x.toNat:=Nat.shiftRight_le _ _;rw[UInt32.toNat_toUInt8,fO,jm,fJ (a:=x.toNat >>> s) (by omega)]
 have h0:x.toUInt8=UInt8.ofNat (x.toNat >>> 0):=by
  apply UInt8.toNat_inj.1;rw[UInt32.toNat_toUInt8,jm];rfl
 unfold fT;rw[h 24 (by decide),h 16 (by decide),h 8 (by decide),h0];rfl
theorem id_head(i:UInt32)(z:Bs):UInt32.ofNat (dF ((be 4 i.toNat++z).take 4))=i:=by
 have hi:=i.toNat_lt;rw[cR (aP _ _),gI];apply UInt32.toNat_inj.1;rw[fO];omega
theorem id_rest(i:UInt32)(z:Bs):(be 4 i.toNat++z).drop 4=z:=et (aP _ _)
theorem th{α:Type}(f:α->Bs){l:List α}{i:Nat}(h:i<l.length):(l.drop i).flatMap f=f l[i]++(l.drop (i+1)).flatMap f:=by
 rw[jl h,pY]
abbrev Kd:=UInt32×List UInt32×List Pr
def bu(ts:List Kd):List UInt32:=ts.map (·.1)
def msT(ts:List Kd):List (List Pr):=ts.map (·.2.2)
def pgT(ts:List Kd):List UInt32:=ts.flatMap (·.2.1)
def prT(ts:List Kd):List Pr:=ts.flatMap (·.2.2)
theorem iA(a b:List Kd):bu (a++b)=bu a++bu b:=gl
theorem gJ(a b:List Kd):msT (a++b)=msT a++msT b:=gl
theorem eS(a b:List Kd):pgT (a++b)=pgT a++pgT b:=nQ
theorem gb(a b:List Kd):prT (a++b)=prT a++prT b:=nQ
theorem eQ(a:Kd)(b:List Kd):pgT (a::b)=a.2.1++pgT b:=pY
theorem fV(a:Kd)(b:List Kd):prT (a::b)=a.2.2++prT b:=pY
theorem lr(ts:List Kd):(msT ts).flatten=prT ts:=(List.flatMap_def ..).symm
def Below(m:List Pr)(k:Bs):Prop:=∀p∈m,ltB p.1 k=true
def Above(m:List Pr)(k:Bs):Prop:=∀p∈m,ltB p.1 k=false
theorem Below.app{a b:List Pr}{k:Bs}:Below (a++b) k↔Below a k/\Below b k:=by unfold Below;simp only[fZ,or_imp,forall_and]
theorem Above.app{a b:List Pr}{k:Bs}:Above (a++b) k↔Above a k/\Above b k:=by unfold Above;simp only[fZ,or_imp,forall_and]
def Seps:List Bs->List (List Pr)->Prop
 | [], [_] => True
 | k :: ks, m :: ms => Below m k /\ Above ms.flatten k /\ Seps ks ms
 | _, _ => False
theorem Seps.len:∀{ks:List Bs} {ms:List (List Pr)},Seps ks ms->ms.length=ks.length+1
 | [], [], h => h.elim
 | [], [_], _ => rfl
 | [], _ :: _ :: _, h => h.elim
 | _ :: _, [], h => h.elim
 | k :: ks, m :: ms, h => by rw [cf, cf, Seps.len h.2.2]
theorem Seps.one(m:List Pr):Seps [] [m]:=trivial
theorem Seps.sort:∀{ks:List Bs} {ms:List (List Pr)},Seps ks ms->(∀m∈ms,ej m)->ej ms.flatten
 | [], [m], _, h => by rw [ij, List.flatten_nil, cH]; exact h m cP
 | k :: ks, m :: ms, hs, h => by
  rw[ij];unfold ej;rw[oM];exact⟨h m cP,Seps.sort hs.2.2 (λx hx=>h x (bO _ hx)),λa ha b hb=>CW (hs.1 a ha) (hs.2.1 b hb)⟩
theorem Seps.join{k:Bs}{K2:List Bs}{B:List (List Pr)}(hB:Seps K2 B)(h2:Above B.flatten k):∀{K1:List Bs} {A:List (List Pr)},Seps K1 A->Below A.flatten k->(∀x∈K1,ltB x k=true)->Seps (K1++k::K2) (A++B)
 | [], [m], _, h1, _ => ⟨by rw [ij, List.flatten_nil, cH] at h1; exact h1, h2, hB⟩
 | c :: K1, m :: A, hs, h1, h3 => by
  rw[ij,Below.app] at h1;refine⟨hs.1,?_,Seps.join hB h2 hs.2.2 h1.2 (λx hx=>h3 x (bO _ hx))⟩;show Above (A++B).flatten c;rw[lW,Above.app];refine⟨hs.2.1,λp hp=>?_⟩;have q1:=h3 c cP;have q2:=h2 p hp;cases h:ltB p.1 c with
  | false => rfl
  | true => rw [fi h q1] at q2; cases q2
theorem Seps.cut{k:Bs}{K2:List Bs}{B:List (List Pr)}:∀{K1:List Bs} {A:List (List Pr)},A.length=K1.length+1->kG (K1++k::K2)->Seps (K1++k::K2) (A++B)->Seps K1 A/\Seps K2 B/\Below A.flatten k/\Above B.flatten k
 | [], [m], _, _, h => ⟨trivial, h.2.2, by rw [ij, List.flatten_nil, cH]; exact h.1, h.2.1⟩
 | [], [], h, _, _ => by simp at h
 | [], _ :: _ :: _, h, _, _ => by simp at h
 | _ :: _, [], h, _, _ => by simp at h
 | c :: K1, m :: A, hl, hs, h => by
  have hs':kG (K1++k::K2):=(List.pairwise_cons.1 hs).2;have hck:ltB c k=true:=(List.pairwise_cons.1 hs).1 k (by simp);obtain⟨h1,h2,h3⟩:=h;obtain⟨q1,q2,q3,q4⟩:=Seps.cut (by simpa using hl) hs' h3;have h2':Above (A++B).flatten c:=h2;rw[lW,Above.app] at h2';exact⟨⟨h1,h2'.1,q1⟩,q2,by rw[ij,Below.app];exact⟨λp hp=>fi (h1 p hp) hck,q3⟩,q4⟩
theorem Seps.set{m m':List Pr}{K2:List Bs}{B:List (List Pr)}:∀{K1:List Bs} {A:List (List Pr)},A.length=K1.length->Seps (K1++K2) (A++m::B)->(∀k∈K1,Above m' k)->(∀k,K2.head?=some k->Below m' k)->Seps (K1++K2) (A++m'::B)
 | [], [], _, h, _, h2 => by
  cases K2 with
  | nil => cases B with
   | nil => trivial
   | cons => exact h.elim
  | cons k K2 => exact ⟨h2 k rfl, h.2⟩
 | [], _ :: _, h, _, _, _ => by simp at h
 | _ :: _, [], h, _, _, _ => by simp at h
 | c :: K1, a :: A, hl, h, h1, h2 => by
  obtain⟨q1,q2,q3⟩:=h;refine⟨q1,?_,Seps.set (by simpa using hl) q3 (λk hk=>h1 k (bO _ hk)) h2⟩;have q2':Above (A++m::B).flatten c:=q2;show Above (A++m'::B).flatten c;rw[lW,ij,Above.app,Above.app] at q2' ⊢;exact⟨q2'.1,h1 c cP,q2'.2.2⟩
theorem Seps.split{m1 m2:List Pr}{k:Bs}(hb:Below m1 k)(ha:Above m2 k){K2:List Bs}{B:List (List Pr)}(h3:Above B.flatten k):∀{K1:List Bs} {A:List (List Pr)},A.length=K1.length->Seps (K1++K2) (A++(m1++m2)::B)->Seps (K1++k::K2) (A++m1::m2::B)
 | [], [], _, h => by
  refine⟨hb,by show Above (m2::B).flatten k;rw[ij,Above.app];exact⟨ha,h3⟩,?_⟩;cases K2 with
  | nil => cases B with
   | nil => trivial
   | cons => exact h.elim
  | cons c K2 => exact ⟨(Below.app.1 h.1).2, h.2⟩
 | [], _ :: _, h, _ => by simp at h
 | _ :: _, [], h, _ => by simp at h
 | c :: K1, a :: A, hl, h => by
  obtain⟨q1,q2,q3⟩:=h;refine⟨q1,?_,Seps.split hb ha h3 (by simpa using hl) q3⟩;have q2':Above (A++(m1++m2)::B).flatten c:=q2;show Above (A++m1::m2::B).flatten c;simp only[lW,ij,Above.app] at q2' ⊢;exact⟨q2'.1,q2'.2.1.1,q2'.2.1.2,q2'.2.2⟩
theorem Seps.merge{m1 m2:List Pr}{k:Bs}{K2:List Bs}{B:List (List Pr)}:∀{K1:List Bs} {A:List (List Pr)},A.length=K1.length->kG (K1++k::K2)->Seps (K1++k::K2) (A++m1::m2::B)->Seps (K1++K2) (A++(m1++m2)::B)
 | [], [], _, hs, h => by
  obtain⟨q1,q2,q3⟩:=h;cases K2 with
  | nil => cases B with
   | nil => trivial
   | cons => exact q3.elim
  | cons c K2 =>
   have hkc:ltB k c=true:=(List.pairwise_cons.1 hs).1 c cP;exact⟨Below.app.2 ⟨λp hp=>fi (q1 p hp) hkc,q3.1⟩,q3.2⟩
 | [], _ :: _, h, _, _ => by simp at h
 | _ :: _, [], h, _, _ => by simp at h
 | c :: K1, a :: A, hl, hs, h => by
  obtain⟨q1,q2,q3⟩:=h;refine⟨q1,?_,Seps.merge (by simpa using hl) (List.pairwise_cons.1 hs).2 q3⟩;have q2':Above (A++m1::m2::B).flatten c:=q2;show Above (A++(m1++m2)::B).flatten c;simp only[lW,ij,Above.app] at q2' ⊢;exact⟨q2'.1,⟨q2'.2.1,q2'.2.2.1⟩,q2'.2.2.2⟩
def isT(V:UInt32->Bs):Nat->UInt32->List UInt32->List Pr->Prop
 | 0, id, pg, m => pg = [id] /\ leafOk m /\ V id = rV m
 | d + 1, id, pg, m => ∃ (ks : List Bs) (ts : List Kd), brOk ks (bu ts) /\ V id = brB ks (bu ts) /\ pg = id :: pgT ts /\ m = prT ts /\ Seps ks (msT ts) /\ ∀ t ∈ ts, isT V d t.1 t.2.1 t.2.2 /\ t.2.2 ≠ []
theorem j1{V V':UInt32->Bs}:∀{d:Nat} {id:UInt32} {pg:List UInt32} {m:List Pr},isT V d id pg m->(∀x∈pg,V' x=V x)->isT V' d id pg m
 | 0, id, pg, m, ⟨h1, h2, h3⟩, h => ⟨h1, h2, by rw [h id (by rw [h1]; exact cP)]; exact h3⟩
 | d + 1, id, pg, m, ⟨ks, ts, h1, h2, h3, h4, h5, h6⟩, h => by
  subst h3;refine⟨ks,ts,h1,by rw[h id cP];exact h2,rfl,h4,h5,λt ht=>⟨j1 (h6 t ht).1 (λx hx=>h x (bO _ (List.mem_flatMap.2 ⟨t,ht,hx⟩))),(h6 t ht).2⟩⟩
theorem B8{V:UInt32->Bs}:∀{d:Nat} {id:UInt32} {pg:List UInt32} {m:List Pr},isT V d id pg m->∃q,pg=id::q
 | 0, _, _, _, ⟨h1, _⟩ => ⟨[], h1⟩
 | _ + 1, _, _, _, ⟨_, ts, _, _, h3, _⟩ => ⟨pgT ts, h3⟩
theorem jh{V:UInt32->Bs}:∀{d:Nat} {id:UInt32} {pg:List UInt32} {m:List Pr},isT V d id pg m->fW m
 | 0, _, _, _, ⟨_, h, _⟩ => h.1
 | d + 1, _, _, _, ⟨ks, ts, _, _, _, h4, h5, h6⟩ => by
  subst h4;refine⟨λp hp=>?_,?_⟩
  ·obtain⟨t,ht,hpt⟩:=List.mem_flatMap.1 hp;exact(jh (h6 t ht).1).1 p hpt
  ·rw[<-lr];refine h5.sort (λm hm=>?_);obtain⟨t,ht,rfl⟩:=List.mem_map.1 hm;exact(jh (h6 t ht).1).2
theorem wC{ks:List Bs}{ts:List Kd}(h:brOk ks (bu ts)):2<=ts.length:=by
 obtain⟨h1,h2,_⟩:=h
 have:0<ks.length:=List.length_pos_iff.2 h1
 rw[bu,dx] at h2;omega
theorem B9{V:UInt32->Bs}:∀{d:Nat} {id:UInt32} {pg:List UInt32} {m:List Pr},isT V d id pg m->2 ^ (d+1)<=pg.length+1
 | 0, _, _, _, ⟨h1, _⟩ => by subst h1; simp
 | d + 1, id, pg, m, ⟨ks, ts, h1, _, h3, _, _, h6⟩ => by
  subst h3;have h2:=wC h1;have hx:∀ts:List Kd,(∀t∈ts,isT V d t.1 t.2.1 t.2.2/\t.2.2≠[])->ts.length*(2 ^ (d+1)-1)<=(pgT ts).length:=by
   intro ts
   induction ts with
   | nil => intro _; simp
   | cons t ts ih =>
    intro h;have q1:=B9 (h t cP).1;have q2:=ih (λx hx=>h x (bO _ hx));rw[eQ,aF,cf,Nat.succ_mul];omega
  have h4:=hx ts h6;have h5:2*(2 ^ (d+1)-1)<=ts.length*(2 ^ (d+1)-1):=eB _ h2;rw[cf,Nat.pow_succ];omega
theorem Ed{V:UInt32->Bs}:∀{d:Nat} {id:UInt32} {pg:List UInt32} {m:List Pr},isT V d id pg m->m≠[]->pg.length+1<=2*m.length
 | 0, _, _, m, ⟨h1, _⟩, h => by subst h1; have := List.length_pos_iff.2 h; simp; omega
 | d + 1, id, pg, m, ⟨ks, ts, h1, _, h3, h4, _, h6⟩, _ => by
  subst h3;subst h4;have h2:=wC h1;have hx:∀ts:List Kd,(∀t∈ts,isT V d t.1 t.2.1 t.2.2/\t.2.2≠[])->(pgT ts).length+ts.length<=2*(prT ts).length:=by
   intro ts
   induction ts with
   | nil => intro _; simp [pgT, prT]
   | cons t ts ih =>
    intro h;have q1:=Ed (h t cP).1 (h t cP).2;have q2:=ih (λx hx=>h x (bO _ hx));rw[eQ,fV,aF,aF,cf];omega
  have:=hx ts h6
  rw[cf];omega
inductive Cn where
 | leaf (ps : List Pr)
 | br (ks : List Bs) (ids : List UInt32)
def cnB:Cn->Bs
 | .leaf ps => rV ps
 | .br ks ids => brB ks ids
def cnZ:Cn->Nat
 | .leaf ps => cY ps
 | .br ks ids => brZ ks ids
def jN:Cn->Prop
 | .leaf _ => True
 | .br ks _ => ks ≠ []
theorem nA(c:Cn):(cnB c).length=cnZ c:=by cases c with
 | leaf => exact nt _
 | br => exact wR _ _
def KidsT(V:UInt32->Bs)(d:Nat)(ts:List Kd):Prop:=∀t∈ts,isT V d t.1 t.2.1 t.2.2/\t.2.2≠[]
theorem KidsT.app{V:UInt32->Bs}{d:Nat}{a b:List Kd}:KidsT V d (a++b)↔KidsT V d a/\KidsT V d b :=
 ⟨λh=>⟨λt ht=>h t (cO _ ht),λt ht=>h t (cj _ ht)⟩,λh t ht=>(List.mem_append.1 ht).elim (h.1 t) (h.2 t)⟩
theorem zV{α:Type}{c k:α}{a b:List α}(h:c∈a++b):c∈a++k::b:=(List.mem_append.1 h).elim (λh=>cO _ h) (λh=>cj _ (bO _ h))
theorem KidsT.cons{V:UInt32->Bs}{d:Nat}{a:Kd}{b:List Kd}:KidsT V d (a::b)↔(isT V d a.1 a.2.1 a.2.2/\a.2.2≠[])/\KidsT V d b:=by unfold KidsT;simp only[bZ,forall_eq_or_imp]
theorem KidsT.mono{V V':UInt32->Bs}{d:Nat}{ts:List Kd}(h:KidsT V d ts)(hv:∀x∈pgT ts,V' x=V x):KidsT V' d ts:=λt ht =>
 ⟨j1 (h t ht).1 (λx hx=>hv x (List.mem_flatMap.2 ⟨t,ht,hx⟩)),(h t ht).2⟩
def CT(V:UInt32->Bs):Nat->Cn->List UInt32->List Pr->Prop
 | 0, .leaf ps, pg, m => ps = m /\ pg = [] /\ fW m
 | d + 1, .br ks ids, pg, m => ∃ ts, ids = bu ts /\ zY ks /\ pg = pgT ts /\ m = prT ts /\ Seps ks (msT ts) /\ KidsT V d ts
 | _, _, _, _ => False
theorem CT.mono{V V':UInt32->Bs}:∀{d:Nat} {c:Cn} {pg:List UInt32} {m:List Pr},CT V d c pg m->(∀x∈pg,V' x=V x)->CT V' d c pg m
 | 0, .leaf _, _, _, h, _ => h
 | 0, .br _ _, _, _, h, _ => h.elim
 | _ + 1, .leaf _, _, _, h, _ => h.elim
 | _ + 1, .br _ _, _, _, ⟨ts, h1, h2, h3, h4, h5, h6⟩, hv => ⟨ts, h1, h2, h3, h4, h5, h6.mono (by subst h3; exact hv)⟩
theorem CT.saved{V:UInt32->Bs}:∀{d:Nat} {c:Cn} {pg:List UInt32} {m:List Pr} {id:UInt32},CT V d c pg m->cnZ c<=480->jN c->V id=cnB c->isT V d id (id::pg) m
 | 0, .leaf _, _, _, _, ⟨h1, h2, h3⟩, hz, _, hv => by subst h1; subst h2; exact ⟨rfl, ⟨h3, hz⟩, hv⟩
 | 0, .br _ _, _, _, _, h, _, _, _ => h.elim
 | _ + 1, .leaf _, _, _, _, h, _, _, _ => h.elim
 | _ + 1, .br ks _, _, _, _, ⟨ts, h1, h2, h3, h4, h5, h6⟩, hz, hf, hv => by
  subst h1;subst h3
  have:=h5.len
  rw[msT,dx] at this;exact⟨ks,ts,⟨hf,by rw[bu,dx];exact this,h2,hz⟩,hv,rfl,h4,h5,h6⟩
theorem mK{V:UInt32->Bs}:∀{d:Nat} {id:UInt32} {pg:List UInt32} {m:List Pr},isT V d id pg m->∃c pg0,pg=id::pg0/\CT V d c pg0 m/\V id=cnB c/\cnZ c<=480/\jN c
 | 0, _, _, _, ⟨h1, h2, h3⟩ => ⟨.leaf _, [], h1, ⟨rfl, rfl, h2.1⟩, h3, h2.2, trivial⟩
 | _ + 1, _, _, _, ⟨ks, ts, h1, h2, h3, h4, h5, h6⟩ => ⟨.br ks (bu ts), pgT ts, h3, ⟨ts, rfl, h1.2.2.1, rfl, h4, h5, h6⟩, h2, h1.2.2.2, h1.1⟩
theorem CT.pairs{V:UInt32->Bs}:∀{d:Nat} {c:Cn} {pg:List UInt32} {m:List Pr},CT V d c pg m->fW m
 | 0, .leaf _, _, _, h => h.2.2
 | 0, .br _ _, _, _, h => h.elim
 | _ + 1, .leaf _, _, _, h => h.elim
 | _ + 1, .br _ _, _, _, ⟨ts, _, _, _, h4, h5, h6⟩ => by
  subst h4;refine⟨λp hp=>?_,?_⟩
  ·obtain⟨t,ht,hpt⟩:=List.mem_flatMap.1 hp;exact(jh (h6 t ht).1).1 p hpt
  ·rw[<-lr];refine h5.sort (λm hm=>?_);obtain⟨t,ht,rfl⟩:=List.mem_map.1 hm;exact(jh (h6 t ht).1).2
def plc(ks:List Bs)(x:Bs):Nat:=if ks[gz ks x]?=some x then gz ks x+1 else gz ks x
theorem CF(ks:List Bs)(x:Bs):plc ks x<=ks.length:=by
 unfold plc
 split
 ·rename_i h;exact(List.getElem?_eq_some_iff.1 h).1
 ·exact sm _ _
theorem plc_lo{ks:List Bs}{x:Bs}{i:Nat}(hi:i<plc ks x):ltB x (ks[i]'(iC hi (CF ks x)))=false:=by
 have hl:=iC hi (CF ks x);unfold plc at hi;by_cases hc:i<gz ks x
 ·exact jf (A7 hc)
 ·split at hi
  ·rename_i h
   have:i=gz ks x:=by omega
   subst this
   have:=(List.getElem?_eq_some_iff.1 h).2
   rw[this];exact iw x
  ·omega
theorem plc_hi{ks:List Bs}{x:Bs}(hs:kG ks){i:Nat}(hi:plc ks x<=i)(hl:i<ks.length):ltB x ks[i]=true:=by
 have hcl:gz ks x<ks.length:=by unfold plc at hi;split at hi <;> omega
 unfold plc at hi
 split at hi
 ·rename_i h
  have e:=(List.getElem?_eq_some_iff.1 h).2
  have:=List.pairwise_iff_getElem.1 hs (gz ks x) i hcl hl (by omega)
  rw[e] at this;exact this
 ·rename_i h
  rw[bN hcl] at h;have h1:ltB ks[i] x=false:=Ex hs hl hi;cases h2:ltB x ks[i] with
  | true => rfl
  | false =>
   have e:=rS h1 h2;by_cases he:gz ks x=i
   ·subst he;exact absurd (congrArg some e) h
   ·have:=List.pairwise_iff_getElem.1 hs (gz ks x) i hcl hl (by omega)
    rw[e] at this;have h0:=tj hcl;rw[this] at h0;cases h0
theorem Fe{ks:List Bs}{x:Bs}(hs:kG ks):∃K1 K2,ks=K1++K2/\K1.length=plc ks x/\(∀k∈K1,ltB x k=false)/\∀k∈K2,ltB x k=true:=by
 refine⟨ks.take (plc ks x),ks.drop (plc ks x),(fe _ _).symm,by rw[bz];have:=CF ks x;omega,λk hk=>?_,λk hk=>?_⟩
 ·obtain⟨i,hi,rfl⟩:=jF hk;rw[bz] at hi;rw[pV];exact plc_lo (by omega)
 ·obtain⟨i,hi,rfl⟩:=jF hk;rw[bG] at hi;rw[uN];exact plc_hi hs (by omega) (by omega)
theorem Seps.before{x:Bs}{K2:List Bs}{M:List (List Pr)}:∀{K1:List Bs} {A:List (List Pr)},A.length=K1.length->Seps (K1++K2) (A++M)->(∀k∈K1,ltB x k=false)->Below A.flatten x
 | [], [], _, _, _ => λp hp => by simp at hp
 | [], _ :: _, h, _, _ => by simp at h
 | _ :: _, [], h, _, _ => by simp at h
 | c :: K1, a :: A, hl, h, h1 => by
  rw[ij,Below.app];exact⟨λp hp=>CW (h.1 p hp) (h1 c cP),Seps.before (by simpa using hl) h.2.2 (λk hk=>h1 k (bO _ hk))⟩
theorem Seps.behind{x:Bs}{m:List Pr}:∀{K2:List Bs} {B:List (List Pr)},Seps K2 (m::B)->(∀k∈K2,ltB x k=true)->∀p∈B.flatten,ltB x p.1=true
 | [], [], _, _ => λp hp => by simp at hp
 | [], _ :: _, h, _ => h.elim
 | c :: K2, B, h, h1 => λp hp => by
  have q1:=h1 c cP;have q2:=h.2.1 p hp;exact CW q1 q2
theorem Seps.drop{K2:List Bs}{M:List (List Pr)}:∀{K1:List Bs} {A:List (List Pr)},A.length=K1.length->Seps (K1++K2) (A++M)->Seps K2 M
 | [], [], _, h => h
 | [], _ :: _, h, _ => by simp at h
 | _ :: _, [], h, _ => by simp at h
 | _ :: K1, _ :: A, hl, h => Seps.drop (K1 := K1) (A := A) (by simpa using hl) h.2.2
theorem Seps.above{m:List Pr}{K2:List Bs}{B:List (List Pr)}:∀{K1:List Bs} {A:List (List Pr)},A.length=K1.length->Seps (K1++K2) (A++m::B)->∀k∈K1,Above m k
 | [], _, _, _ => λk hk => by simp at hk
 | _ :: _, [], h, _ => by simp at h
 | c :: K1, a :: A, hl, h => λk hk => by
  rcases List.mem_cons.1 hk with rfl|hk
  ·have:Above (A++m::B).flatten k:=h.2.1
   rw[lW,ij,Above.app,Above.app] at this;exact this.2.1
  ·exact Seps.above (by simpa using hl) h.2.2 k hk
theorem Seps.below{m:List Pr}{K1 K2:List Bs}{A B:List (List Pr)}(hl:A.length=K1.length)(h:Seps (K1++K2) (A++m::B)):∀k,K2.head?=some k->Below m k:=λk hk=>by
 cases K2 with
 | nil => cases hk
 | cons c K2 => cases hk; exact (Seps.drop hl h).1
structure Hole(V:UInt32->Bs)(d:Nat)(K1 K2:List Bs)(A B:List Kd)(m:List Pr):Prop where
 keys:zY (K1++K2)
 la:A.length=K1.length
 seps:Seps (K1++K2) (msT A++m::msT B)
 ka:KidsT V d A
 kb:KidsT V d B
section
variable {V V':UInt32->Bs}{d:Nat}{K1 K2:List Bs}{A B:List Kd}{m m' m1 m2:List Pr}{x:Bs}
theorem Hole.lm(h:Hole V d K1 K2 A B m):(msT A).length=K1.length:=by rw[msT,dx];exact h.la
theorem Hole.lb(h:Hole V d K1 K2 A B m):B.length=K2.length:=by
 have h1:=h.seps.len;have h2:=h.la;rw[aF,aF,cf,msT,msT,dx,dx] at h1;omega
theorem Hole.mono(h:Hole V d K1 K2 A B m)(hv:∀y∈pgT A++pgT B,V' y=V y):Hole V' d K1 K2 A B m :=
 ⟨h.keys,h.la,h.seps,h.ka.mono (λy hy=>hv y (cO _ hy)),h.kb.mono (λy hy=>hv y (cj _ hy))⟩
theorem Hole.set(h:Hole V d K1 K2 A B m)(h1:∀k∈K1,Above m' k)(h2:∀k,K2.head?=some k->Below m' k):Hole V d K1 K2 A B m' :=
 ⟨h.keys,h.la,h.seps.set h.lm h1 h2,h.ka,h.kb⟩
theorem Hole.sub(h:Hole V d K1 K2 A B m)(hs:∀p∈m',p∈m):Hole V d K1 K2 A B m' :=
 h.set (λk hk p hp=>h.seps.above h.lm k hk p (hs p hp)) (λk hk p hp=>h.seps.below h.lm k hk p (hs p hp))
theorem Hole.fill{id:UInt32}{pg:List UInt32}(h:Hole V d K1 K2 A B m)(ht:isT V d id pg m)(hne:m≠[]):CT V (d+1) (.br (K1++K2) (bu A++id::bu B)) (pgT A++(pg++pgT B)) (prT A++(m++prT B)) :=
 ⟨A++(id,pg,m)::B,by rw[iA];rfl,h.keys,by rw[eS,eQ],by rw[gb,fV],by rw[gJ];exact h.seps,KidsT.app.2 ⟨h.ka,KidsT.cons.2 ⟨⟨ht,hne⟩,h.kb⟩⟩⟩
theorem Hole.fill2{id1 id2:UInt32}{pg1 pg2:List UInt32}{k:Bs}(h:Hole V d K1 K2 A B (m1++m2))(ht1:isT V d id1 pg1 m1)(ht2:isT V d id2 pg2 m2)(hn1:m1≠[])(hn2:m2≠[])(hk:mJ k)(hb:Below m1 k)(ha:Above m2 k) :
  CT V (d+1) (.br (K1++k::K2) (bu A++id1::id2::bu B)) (pgT A++(pg1++(pg2++pgT B))) (prT A++(m1++m2++prT B)):=by
 obtain⟨p1,hp1⟩:=yY _ hn1;obtain⟨p2,hp2⟩:=yY _ hn2;have hlo:∀c∈K1,ltB c k=true:=λc hc=>qx (h.seps.above h.lm c hc p1 (cO _ hp1)) (hb p1 hp1);have hhi:∀c,K2.head?=some c->ltB k c=true:=λc hc=>qx (ha p2 hp2) (h.seps.below h.lm c hc p2 (cj _ hp2));have hs:=h.keys.2;unfold kG at hs;rw[oM] at hs;have hall:∀c∈K2,ltB k c=true:=λc hc=>by
  cases K2 with
  | nil => simp at hc
  | cons e K2 =>
   rcases List.mem_cons.1 hc with rfl|hc
   ·exact hhi c O
   ·exact fi (hhi e O) ((List.pairwise_cons.1 hs.2.1).1 c hc)
 have h3:Above (msT B).flatten k:=λp hp=>jf (Seps.behind (Seps.drop h.lm h.seps) hall p hp);refine⟨A++(id1,pg1,m1)::(id2,pg2,m2)::B,by rw[iA];rfl,⟨λc hc=>?_,?_⟩,by rw[eS,eQ,eQ],by rw[gb,fV,fV,bQ],by rw[gJ];exact Seps.split hb ha h3 h.lm h.seps,KidsT.app.2 ⟨h.ka,KidsT.cons.2 ⟨⟨ht1,hn1⟩,KidsT.cons.2 ⟨⟨ht2,hn2⟩,h.kb⟩⟩⟩⟩
 ·rcases List.mem_append.1 hc with hc|hc
  ·exact h.keys.1 c (cO _ hc)
  ·rcases List.mem_cons.1 hc with rfl|hc
   ·exact hk
   ·exact h.keys.1 c (cj _ hc)
 ·unfold kG;rw[oM];refine⟨hs.1,List.pairwise_cons.2 ⟨hall,hs.2.1⟩,λa hA b hB=>?_⟩;rcases List.mem_cons.1 hB with rfl|hB
  ·exact hlo a hA
  ·exact hs.2.2 a hA b hB
theorem Hole.gone{k:Bs}(h:Hole V d (K1++[k]) K2 A B []):CT V (d+1) (.br (K1++K2) (bu A++bu B)) (pgT A++pgT B) (prT A++prT B):=by
 have hl:=h.la;rw[aF,gC] at hl;have hne:A≠[]:=λe=>by rw[e] at hl;simp at hl
 obtain⟨A',t,rfl⟩:∃A' t,A=A'++[t]:=⟨A.dropLast,A.getLast hne,(z6 hne).symm⟩
 rw[aF,gC] at hl;have hs:=h.seps;rw[gJ,bQ,bQ,gY] at hs;have hkeys:=h.keys;rw[bQ,gY] at hkeys;have h2:=Seps.merge (by rw[msT,dx];omega) hkeys.2 (show Seps (K1++k::K2) (msT A'++t.2.2::[]::msT B) from hs);rw[cH] at h2;refine⟨A'++t::B,by rw[iA,iA,bQ];rfl,⟨λc hc=>hkeys.1 c (zV hc),hkeys.2.sublist (C0 (um _ _) _)⟩,by rw[eS,eS,eQ,bQ];simp[pgT],by rw[gb,gb,fV,bQ];simp[prT],by rw[gJ];exact h2,?_⟩
 have:=KidsT.app.2 ⟨h.ka,h.kb⟩
 rwa [bQ] at this
theorem Hole.gone0{k:Bs}(h:Hole V d [] (k::K2) [] B []):CT V (d+1) (.br K2 (bu B)) (pgT B) (prT B) :=
 ⟨B,rfl,⟨λc hc=>h.keys.1 c (bO _ hc),(List.pairwise_cons.1 h.keys.2).2⟩,rfl,rfl,h.seps.2.2,h.kb⟩
theorem Hole.mergeR{k:Bs}{t:Kd}(h:Hole V d K1 (k::K2) A (t::B) m):Hole V d K1 K2 A B (m++t.2.2) :=
 ⟨⟨λc hc=>h.keys.1 c (zV hc),h.keys.2.sublist (C0 (um _ _) _)⟩,h.la,Seps.merge h.lm h.keys.2 h.seps,h.ka,(KidsT.cons.1 h.kb).2⟩
theorem Hole.mergeL{k:Bs}{t:Kd}(h:Hole V d (K1++[k]) K2 (A++[t]) B m):Hole V d K1 K2 A B (t.2.2++m):=by
 have hl:=h.la;rw[aF,aF,gC,gC] at hl;have hs:=h.seps;rw[gJ,bQ,bQ,gY] at hs;have hkeys:=h.keys;rw[bQ,gY] at hkeys;exact⟨⟨λc hc=>hkeys.1 c (zV hc),hkeys.2.sublist (C0 (um _ _) _)⟩,by omega,Seps.merge (by rw[msT,dx];omega) hkeys.2 (show Seps (K1++k::K2) (msT A++t.2.2::m::msT B) from hs),(KidsT.app.1 h.ka).1,h.kb⟩
end
theorem CT.hole{V:UInt32->Bs}{d:Nat}{ks:List Bs}{ids:List UInt32}{pg:List UInt32}{m:List Pr}(h:CT V (d+1) (.br ks ids) pg m)(x:Bs) :
  ∃(K1 K2:List Bs) (A:List Kd) (t:Kd) (B:List Kd),ks=K1++K2/\K1.length=plc ks x/\ids=bu A++t.1::bu B/\pg=pgT A++(t.2.1++pgT B)/\m=prT A++(t.2.2++prT B)/\Hole V d K1 K2 A B t.2.2/\isT V d t.1 t.2.1 t.2.2/\t.2.2≠[]/\Below (prT A) x/\(∀p∈prT B,ltB x p.1=true)/\(∀k∈K1,ltB x k=false)/\∀k∈K2,ltB x k=true:=by
 obtain⟨ts,rfl,h2,rfl,rfl,h5,h6⟩:=h;obtain⟨K1,K2,rfl,hl,h7,h8⟩:=Fe (x:=x) h2.2;have hlen:=h5.len;rw[msT,dx,aF] at hlen;have hlt:K1.length<ts.length:=by omega
 have hts:ts=ts.take K1.length++ts[K1.length]::ts.drop (K1.length+1):=by
  rw[<-jl hlt,fe]
 obtain⟨A,hA⟩:∃A,A=ts.take K1.length:=⟨_,rfl⟩
 obtain⟨B,hB⟩:∃B,B=ts.drop (K1.length+1):=⟨_,rfl⟩
 obtain⟨t,ht⟩:∃t,t=ts[K1.length]:=⟨_,rfl⟩
 rw[<-hA,<-hB,<-ht] at hts;have hla:A.length=K1.length:=by rw[hA,bz];omega
 clear hA hB ht
 subst hts;rw[KidsT.app,KidsT.cons] at h6;rw[gJ] at h5;have hlm:(msT A).length=K1.length:=by rw[msT,dx];exact hla
 have h5':Seps (K1++K2) (msT A++t.2.2::msT B):=h5;refine⟨K1,K2,A,t,B,rfl,hl,by rw[iA];rfl,by rw[eS,eQ],by rw[gb,fV],⟨h2,hla,h5',h6.1,h6.2.2⟩,h6.2.1.1,h6.2.1.2,?_,?_,h7,h8⟩
 ·rw[<-lr];exact Seps.before hlm h5' h7
 ·rw[<-lr];exact Seps.behind (Seps.drop hlm h5') h8
theorem rG{l:List Pr}{p q:Pr}(h:q∈g9 l p):q=p∨q∈l:=by
 unfold g9 at h;rcases List.mem_append.1 h with h|h
 ·exact .inr (List.mem_filter.1 h).1
 ·rcases List.mem_cons.1 h with h|h
  ·exact .inl h
  ·exact .inr (List.mem_filter.1 h).1
theorem Fb(l:List Pr)(p:Pr):p∈g9 l p:=by unfold g9;simp
theorem putP_ne(l:List Pr)(p:Pr):g9 l p≠[]:=List.ne_nil_of_mem (Fb l p)
theorem y9{l:List Pr}(p:Pr)(h:ej l):ej (g9 l p):=by
 unfold ej g9;rw[oM];refine⟨h.filter _,List.pairwise_cons.2 ⟨λq hq=>(List.mem_filter.1 hq).2,h.filter _⟩,λa ha b hb=>?_⟩;have h1:=(List.mem_filter.1 ha).2;rcases List.mem_cons.1 hb with rfl|hb
 ·exact h1
 ·exact fi h1 (List.mem_filter.1 hb).2
theorem putP_ok{l:List Pr}{p:Pr}(h:fW l)(hp:og p):fW (g9 l p) :=
 ⟨λq hq=>(rG hq).elim (λe=>by rw[e];exact hp) (h.1 q),y9 p h.2⟩
theorem BC{l:List Pr}{k:Bs}{q:Pr}(h:q∈kD l k):q∈l:=(List.mem_filter.1 h).1
theorem Ew{l:List Pr}{k:Bs}(h:fW l):fW (kD l k):=⟨λq hq=>h.1 q (BC hq),yE k h.2⟩
theorem fG{l:List Pr}{f:Pr->Bool}(h:∀p∈l,f p=true):l.filter f=l:=List.filter_eq_self.2 h
theorem kh{l:List Pr}{f:Pr->Bool}(h:∀p∈l,f p=false):l.filter f=[]:=List.filter_eq_nil_iff.2 (λp hp=>by rw[h p hp];exact Bool.false_ne_true)
theorem Hc{a m b:List Pr}{p:Pr}(ha:Below a p.1)(hb:∀q∈b,ltB p.1 q.1=true):g9 (a++(m++b)) p=a++(g9 m p++b):=by
 unfold g9;simp only[pZ,bQ,BZ];rw[fG (l:=a) ha,kh (l:=b) (λq hq=>jf (hb q hq)),kh (l:=a) (λq hq=>jf (ha q hq)),fG (l:=b) hb];simp
theorem HW{a m b:List Pr}{k:Bs}(ha:Below a k)(hb:∀q∈b,ltB k q.1=true):kD (a++(m++b)) k=a++(kD m k++b):=by
 unfold kD;simp only[pZ];rw[fG (l:=a) (λq hq=>by have:=qv (ha q hq);simpa using this),fG (l:=b) (λq hq=>by have:=qv (hb q hq);simpa using Ne.symm this)]
theorem oy(a b:List Pr)(k:Bs):m7 (a++b) k=(m7 a k).or (m7 b k):=by
 unfold m7;rw[List.find?_append];cases List.find? (λp=>p.1==k) a <;> rfl
theorem pq{l:List Pr}{k:Bs}(h:∀p∈l,p.1≠k):m7 l k=none:=by
 unfold m7;rw[List.find?_eq_none.2 (λp hp=>by simpa using h p hp)];rfl
theorem Be{a m b:List Pr}{k:Bs}(ha:Below a k)(hb:∀q∈b,ltB k q.1=true):m7 (a++(m++b)) k=m7 m k:=by
 rw[oy,oy,pq (l:=a) (λp hp=>qv (ha p hp)),pq (l:=b) (λp hp=>Ne.symm (qv (hb p hp)))];simp
def dZ(l:List Pr)(k:Bs):Nat:=gz (yr l) k
def fC(l:List Pr)(k:Bs):Bool:=decide (∃h:dZ l k<l.length,(l[dZ l k]'h).1=k)
theorem kY(l:List Pr):(yr l).length=l.length:=dx ..
theorem pd{l:List Pr}{i:Nat}(h:i<l.length):(yr l)[i]'(by rw[kY];exact h)=l[i].1:=List.getElem_map ..
theorem uB(l:List Pr)(k:Bs):dZ l k<=l.length:=by have:=sm (yr l) k;rw[kY] at this;exact this
theorem CZ{l:List Pr}(h:ej l):kG (yr l):=sortP_keys.1 h
theorem vX{l:List Pr}{k:Bs}{i:Nat}(hi:i<dZ l k):ltB (l[i]'(iC hi (uB l k))).1 k=true:=by
 have:=A7 (l:=yr l) (x:=k) hi
 rw[pd (iC hi (uB l k))] at this;exact this
theorem zO{l:List Pr}{k:Bs}(hs:ej l){i:Nat}(hi:dZ l k<=i)(hl:i<l.length):ltB l[i].1 k=false:=by
 have:=Ex (CZ hs) (i:=i) (by rw[kY];exact hl) hi
 rw[pd hl] at this;exact this
theorem CE{l:List Pr}{k:Bs}(hs:ej l){i:Nat}(hi:dZ l k<=i)(hl:i<l.length)(hn:fC l k=false∨dZ l k<i):ltB k l[i].1=true:=by
 have h1:=zO hs hi hl;cases h2:ltB k l[i].1 with
 | true => rfl
 | false =>
  have e:=rS h1 h2;rcases hn with hn|hn
  ·unfold fC at hn;by_cases hp:dZ l k=i
   ·subst hp;exact absurd ⟨hl,e⟩ (of_decide_eq_false hn)
   ·have h3:=List.pairwise_iff_getElem.1 hs (dZ l k) i (by omega) hl (by omega);rw[e] at h3;rw[zO hs (aN _) (by omega)] at h3;cases h3
  ·have h3:=List.pairwise_iff_getElem.1 hs (dZ l k) i (by omega) hl hn;rw[e] at h3;rw[zO hs (aN _) (by omega)] at h3;cases h3
theorem tf{l:List Pr}(k:Bs)(hs:ej l):l.filter (λq=>ltB q.1 k)=l.take (dZ l k):=by
 have h:=pZ (p:=λq:Pr=>ltB q.1 k) (l.take (dZ l k)) (l.drop (dZ l k));rw[fe] at h;rw[h,fG,kh,cH]
 ·intro p hp;obtain⟨i,hi,rfl⟩:=jF hp;rw[bG] at hi;rw[uN];exact zO hs (by omega) (by omega)
 ·intro p hp;obtain⟨i,hi,rfl⟩:=jF hp;rw[bz] at hi;rw[pV];exact vX (by omega)
theorem iK{l:List Pr}{k:Bs}(h:fC l k=true):dZ l k<l.length:=(of_decide_eq_true h).1
theorem rY{l:List Pr}{k:Bs}(h:fC l k=true):(l[dZ l k]'(iK h)).1=k:=(of_decide_eq_true h).2
theorem tg{l:List Pr}(k:Bs)(hs:ej l):l.filter (λq=>ltB k q.1)=l.drop (dZ l k+(fC l k).toNat):=by
 have h:=pZ (p:=λq:Pr=>ltB k q.1) (l.take (dZ l k+(fC l k).toNat)) (l.drop (dZ l k+(fC l k).toNat));rw[fe] at h;rw[h,kh,fG,dK]
 ·intro p hp;obtain⟨i,hi,rfl⟩:=jF hp;rw[bG] at hi;rw[uN];refine CE hs (by omega) (by omega) ?_;cases hh:fC l k with
  | false => exact .inl rfl
  | true => right; simp only [Bool.toNat_true]; omega
 ·intro p hp;obtain⟨i,hi,rfl⟩:=jF hp;rw[bz] at hi;rw[pV];by_cases hi2:i<dZ l k
  ·exact jf (vX hi2)
  ·by_cases hh:fC l k=true
   ·have hb:(fC l k).toNat=1:=by rw[hh];rfl
    have hi3:i=dZ l k:=by omega
    have hk:(l[i]'(by omega)).1=k:=by simp only[hi3];exact rY hh
    rw[hk];exact iw k
   ·have hb:(fC l k).toNat=0:=by rw[Bool.eq_false_iff.2 hh];rfl
    omega
theorem vS{l:List Pr}{p:Pr}(hs:ej l)(h:fC l p.1=true):g9 l p=l.set (dZ l p.1) p:=by
 unfold g9;rw[tf _ hs,tg _ hs,h,List.set_eq_take_append_cons_drop,if_pos (iK h)];rfl
theorem od{l:List Pr}{p:Pr}(hs:ej l)(h:fC l p.1=false):g9 l p=l.take (dZ l p.1)++p::l.drop (dZ l p.1):=by
 unfold g9;rw[tf _ hs,tg _ hs,h];rfl
theorem HV{l:List Pr}{k:Bs}(hs:ej l)(h:fC l k=true):kD l k=l.take (dZ l k)++l.drop (dZ l k+1):=by
 have hl:=iK h;unfold kD;have e:l=l.take (dZ l k)++l[dZ l k]::l.drop (dZ l k+1):=by rw[<-jl hl,fe]
 have h1:(l.take (dZ l k)).filter (λq => !(q.1==k))=l.take (dZ l k):=fG (λp hp=>by
  obtain⟨i,hi,rfl⟩:=jF hp;rw[bz] at hi;rw[pV]
  have:=qv (vX (l:=l) (k:=k) (i:=i) (by omega))
  simpa using this)
 have h2:(l.drop (dZ l k+1)).filter (λq => !(q.1==k))=l.drop (dZ l k+1):=fG (λp hp=>by
  obtain⟨i,hi,rfl⟩:=jF hp;rw[bG] at hi;rw[uN]
  have:=qv (CE (k:=k) hs (i:=dZ l k+1+i) (by omega) (by omega) (.inr (by omega)))
  simpa using Ne.symm this)
 calc l.filter (λq => !(q.1==k))=(l.take (dZ l k)++l[dZ l k]::l.drop (dZ l k+1)).filter (λq => !(q.1==k)):=by rw[<-e]
  _=_:=by rw[pZ,h1,yX,h2,rY h];simp
theorem Bd{l:List Pr}{k:Bs}(hs:ej l):fC l k=true↔∃p∈l,p.1=k:=by
 constructor
 ·intro h;exact⟨_,lU (iK h),rY h⟩
 ·rintro⟨p,hp,rfl⟩;obtain⟨i,hi,rfl⟩:=jF hp;cases h:fC l l[i].1 with
  | true => rfl
  | false =>
   by_cases hc:i<dZ l l[i].1
   ·have:=vX hc;rw[iw] at this;cases this
   ·have:=CE hs (by omega) hi (.inl h);rw[iw] at this;cases this
theorem FJ{l:List Pr}{k:Bs}(hs:ej l)(h:fC l k=false):kD l k=l:=by
 refine fG (λp hp=>?_);by_cases hk:p.1=k
 ·rw[(Bd hs).2 ⟨p,hp,hk⟩] at h;cases h
 ·simpa using hk
theorem Eg{l:List Pr}{k:Bs}(_:ej l)(h:fC l k=true):m7 l k=some (l[dZ l k]'(iK h)).2:=by
 have e:l=l.take (dZ l k)++(l[dZ l k]'(iK h)::(l.drop (dZ l k+1)++[])):=by rw[cH,<-jl (iK h),fe]
 have hb:Below (l.take (dZ l k)) k:=λp hp=>by
  obtain⟨i,hi,rfl⟩:=jF hp;rw[bz] at hi;rw[pV];exact vX (by omega)
 have:m7 (l.take (dZ l k)++(l[dZ l k]'(iK h)::(l.drop (dZ l k+1)++[]))) k=some (l[dZ l k]'(iK h)).2:=by
  rw[oy,pq (l:=l.take _) (λp hp=>qv (hb p hp)),Option.none_or];unfold m7;rw[List.find?_cons_of_pos (by rw[rY h];exact beq_self_eq_true k)];rfl
 rw[<-e] at this;exact this
theorem Ef{l:List Pr}{k:Bs}(hs:ej l)(h:fC l k=false):m7 l k=none :=
 pq (λp hp hk=>by rw[(Bd hs).2 ⟨p,hp,hk⟩] at h;cases h)
theorem yt{l:List Pr}{k:Bs}(hs:ej l):(m7 l k).isSome=fC l k:=by
 cases h:fC l k with
 | true => rw [Eg hs h]; rfl
 | false => rw [Ef hs h]; rfl
theorem Bc{a m b:List Pr}{k:Bs}(hs:ej (a++(m++b)))(ha:Below a k)(hb:∀q∈b,ltB k q.1=true):fC (a++(m++b)) k=fC m k:=by
 have hm:ej m:=hs.sublist ((List.sublist_append_left m b).trans (List.sublist_append_right a _));rw[<-yt hs,<-yt hm,Be ha hb]
def wL(c:Cn)(n:Nat):Cn:=match c with
 | .leaf ps => .leaf (ps.take n)
 | .br ks ids => .br (ks.take (n - 1)) (ids.take n)
def xq(c:Cn)(n:Nat):Bs:=match c with
 | .leaf ps => (ps.getD n ([], [])).1
 | .br ks _ => ks.getD (n - 1) []
def uf(c:Cn)(n:Nat):Cn:=match c with
 | .leaf ps => .leaf (ps.drop n)
 | .br ks ids => .br (ks.drop n) (ids.drop n)
def mH:Cn->Nat
 | .leaf ps => ps.length
 | .br _ ids => ids.length
def gd:Cn->Nat
 | .leaf _ => 1
 | .br _ _ => 2
def FL(c:Cn)(n:Nat):Nat:=max (cnZ (wL c n)) (cnZ (uf c n))
def wO:Cn->Prop
 | .leaf ps => fW ps /\ cY ps <= 694
 | .br ks ids => zY ks /\ ids.length = ks.length + 1 /\ brZ ks ids <= 546
theorem zz(P:Nat->Prop)[DecidablePred P]:∀(k a:Nat),P a->¬P (a+k)->∃n,a<=n/\n<a+k/\P n/\¬P (n+1)
 | 0, _, h, h' => absurd h h'
 | k + 1, a, h, h' => by
  by_cases h1:P (a+1)
  ·obtain⟨n,q1,q2,q3,q4⟩:=zz P k (a+1) h1 (by rw[mV,Nat.add_comm 1 k];exact h');exact⟨n,by omega,by omega,q3,q4⟩
  ·exact⟨a,aN _,by omega,h,h1⟩
theorem jg(ps:List Pr)(n:Nat):cY (ps.take n)+cY (ps.drop n)=cY ps+3:=by
 have:=eH (ps.take n) (ps.drop n)
 rw[fe] at this;omega
theorem qw{ps:List Pr}{n:Nat}(h:n<ps.length):cY (ps.take (n+1))=cY (ps.take n)+(ps[n].1.length+ps[n].2.length+4):=by
 have h1:=eH (ps.take n) [ps[n]];rw[iI,fP h] at h1;omega
theorem lB{ks:List Bs}{n:Nat}(h:n<ks.length):dt (ks.take (n+1))=dt (ks.take n)+(ks[n].length+2):=by
 have h1:=iJ (ks.take n) [ks[n]];rw[fP h,jL] at h1
 simpa [dt] using h1
theorem jK(ks:List Bs)(n:Nat):dt (ks.take n)+dt (ks.drop n)=dt ks:=by
 have:=iJ (ks.take n) (ks.drop n)
 rw[fe] at this;omega
theorem sW:∀ks:List Bs,2*ks.length<=dt ks
 | [] => en _
 | a :: l => by rw [jL, cf]; have := sW l; omega
theorem FK{c:Cn}(h:wO c)(hz:480<cnZ c):∃n,gd c<=n/\n+gd c<=mH c/\FL c n<=480:=by
 cases c with
 | leaf ps =>
  obtain⟨⟨h1,_⟩,h2⟩:=h;have hz:480<cY ps:=hz;have hl:=(rU ps h1).1;have hlen:3<=ps.length:=by omega
  have hp:∀n (h:n<ps.length),(ps[n].1.length+ps[n].2.length+4)<=214:=λn h=>by
   have:=h1 _ (lU h);omega
  obtain⟨n,q1,q2,q3,q4⟩:=zz (λn=>cY (ps.take n)<=480) (ps.length-1) 1 (by
   have:=qw (ps:=ps) (n:=0) (by omega)
   have:=hp 0 (by omega)
   have:cY (ps.take 0)=3:=rfl
   show cY (ps.take (0+1))<=480
   omega) (by rw[show 1+(ps.length-1)=ps.length by omega,cZ];omega)
  refine⟨n,q1,by show n+1<=ps.length;omega,Nat.max_le.2 ⟨q3,?_⟩⟩;show cY (ps.drop n)<=480;have e1:=jg ps n;have e2:=qw (ps:=ps) (n:=n) (by omega);have e3:=hp n (by omega);omega
 | br ks ids =>
  obtain⟨⟨h1,_⟩,h2,h3⟩:=h;have hz:480<3+4*ids.length+dt ks:=hz;have h3:3+4*ids.length+dt ks<=546:=h3;have hl:=(wy ks h1).1;have hlen:9<=ids.length:=by omega
  have hp:∀n (h:n<ks.length),ks[n].length<=60:=λn h=>(h1 _ (lU h)).2;have ha:∀n,2<=n->n+2<=ids.length->cnZ (wL (.br ks ids) n)=3+4*n+dt (ks.take (n-1)):=λn q1 q2=>by
   show 3+4*(ids.take n).length+_=_;rw[bz,eC (by omega)]
  have hb:∀n,2<=n->n+2<=ids.length->cnZ (uf (.br ks ids) n)=3+4*(ids.length-n)+dt (ks.drop n):=λn q1 q2=>by
   show 3+4*(ids.drop n).length+_=_;rw[bG]
  have hc:∀n (h:n-1<ks.length),1<=n->dt (ks.take (n-1))+(ks[n-1].length+2)+dt (ks.drop n)=dt ks:=λn h h1=>by
   have e1:=lB h;have e2:=jK ks n;rw[show n-1+1=n by omega] at e1;omega
  by_cases hend:3+4*(ids.length-2)+dt (ks.take (ids.length-2-1))<=480
  ·refine⟨ids.length-2,by show 2<=_;omega,by show _+2<=ids.length;omega,Nat.max_le.2 ⟨by rw[ha _ (by omega) (by omega)];exact hend,?_⟩⟩;rw[hb _ (by omega) (by omega)];have e1:ks.drop (ids.length-2)=[ks[ids.length-2]]:=by
    rw[jl (by omega),gm (by omega)]
   rw[e1,jL]
   have:=hp (ids.length-2) (by omega)
   have:dt []=0:=rfl
   omega
  ·obtain⟨n,q1,q2,q3,q4⟩:=zz (λn=>3+4*n+dt (ks.take (n-1))<=480) (ids.length-4) 2 (by
    have e1:=lB (ks:=ks) (n:=0) (by omega)
    have:=hp 0 (by omega)
    have:dt (ks.take 0)=0:=rfl
    show 3+4*2+dt (ks.take (0+1))<=480
    omega) (by rw[show 2+(ids.length-4)=ids.length-2 by omega];exact hend)
   refine⟨n,q1,by show n+2<=ids.length;omega,Nat.max_le.2 ⟨by rw[ha n q1 (by omega)];exact q3,?_⟩⟩;rw[hb n q1 (by omega)];have e1:=lB (ks:=ks) (n:=n-1) (by omega);have e2:=hc n (by omega) (by omega);have e3:=hp (n-1) (by omega);rw[show n-1+1=n by omega] at e1;have q4':¬(3+4*(n+1)+dt (ks.take n)<=480):=q4;omega
theorem CT.cuts{V:UInt32->Bs}:∀{d:Nat} {c:Cn} {pg:List UInt32} {m:List Pr} {n:Nat},CT V d c pg m->gd c<=n->n+gd c<=mH c ->
  ∃pg1 pg2 m1 m2,pg=pg1++pg2/\m=m1++m2/\CT V d (wL c n) pg1 m1/\CT V d (uf c n) pg2 m2/\m1≠[]/\m2≠[]/\Below m1 (xq c n)/\Above m2 (xq c n)/\mJ (xq c n)/\jN (wL c n)/\jN (uf c n)
 | 0, .br _ _, _, _, _, h, _, _ => h.elim
 | _ + 1, .leaf _, _, _, _, h, _, _ => h.elim
 | 0, .leaf ps, pg, m, n, ⟨h1, h2, h3⟩, hn, hm => by
  subst h1;subst h2;have hn:1<=n:=hn;have hm:n+1<=ps.length:=hm;have hk:xq (.leaf ps) n=ps[n].1:=by
   show(ps.getD n ([],[])).1=_;rw[eN,bN (by omega)];rfl
  have hpl:∀p∈ps.take n,∃i,∃h:i<n,p=ps[i]:=λp hp=>by
   obtain⟨i,hi,rfl⟩:=jF hp;rw[bz] at hi;exact⟨i,by omega,by rw[pV]⟩
  refine⟨[],[],ps.take n,ps.drop n,rfl,(fe _ _).symm,⟨rfl,rfl,λp hp=>h3.1 p (BV hp),h3.2.sublist (oJ _ _)⟩,⟨rfl,rfl,λp hp=>h3.1 p (List.mem_of_mem_drop hp),h3.2.sublist (List.drop_sublist _ _)⟩,?_,?_,?_,?_,?_,trivial,trivial⟩
  ·intro e;have:=congrArg List.length e;rw[bz,l9] at this;omega
  ·intro e;have:=congrArg List.length e;rw[bG,l9] at this;omega
  ·rw[hk];intro p hp;obtain⟨i,hi,rfl⟩:=hpl p hp;exact List.pairwise_iff_getElem.1 h3.2 i n (by omega) (by omega) hi
  ·rw[hk];intro p hp;obtain⟨i,hi,rfl⟩:=jF hp;rw[bG] at hi;rw[uN];cases i with
   | zero => exact iw _
   | succ i => exact jf (List.pairwise_iff_getElem.1 h3.2 n (n + (i + 1)) (by omega) (by omega) (by omega))
  ·rw[hk];exact(h3.1 _ (lU (by omega))).1
 | d + 1, .br ks ids, pg, m, n, ⟨ts, h1, h2, h3, h4, h5, h6⟩, hn, hm => by
  subst h1;subst h3;subst h4;have hn:2<=n:=hn;have hm:n+2<=(bu ts).length:=hm;rw[bu,dx] at hm;have hlen:=h5.len;rw[msT,dx] at hlen;have hk:xq (.br ks (bu ts)) n=ks[n-1]:=by
   show ks.getD (n-1) []=_;rw[eN,bN (by omega)];rfl
  have hks:ks=ks.take (n-1)++ks[n-1]::ks.drop n:=by
   have:=jl (l:=ks) (i:=n-1) (by omega)
   rw[show n-1+1=n by omega] at this;rw[<-this,fe]
  have hts:ts.take n++ts.drop n=ts:=fe _ _;have hkey:=h2.1 _ (lU (l:=ks) (n:=n-1) (by omega));obtain⟨k0,hk0⟩:∃k0,k0=ks[n-1]:=⟨_,rfl⟩
  rw[<-hk0] at hk hks hkey;have hsc:kG (ks.take (n-1)++k0::ks.drop n):=by rw[<-hks];exact h2.2
  have h5':Seps (ks.take (n-1)++k0::ks.drop n) (msT (ts.take n)++msT (ts.drop n)):=by rw[<-hks,<-gJ,hts];exact h5
  obtain⟨q1,q2,q3,q4⟩:=Seps.cut (by rw[msT,dx,bz,bz];omega) hsc h5';have h6':KidsT V d (ts.take n)/\KidsT V d (ts.drop n):=KidsT.app.1 (by rw[hts];exact h6);rw[lr] at q3 q4;have hne:∀l:List Kd,KidsT V d l->l≠[]->prT l≠[]:=λl hl hn e=>by
   cases l with
   | nil => exact hn rfl
   | cons t l =>
    rw[fV] at e;exact(hl t cP).2 (List.append_eq_nil_iff.1 e).1
  refine⟨pgT (ts.take n),pgT (ts.drop n),prT (ts.take n),prT (ts.drop n),by rw[<-eS,fe],by rw[<-gb,fe],
   ⟨ts.take n,by unfold bu;rw[List.map_take],⟨λk hk=>h2.1 k (BV hk),h2.2.sublist (oJ _ _)⟩,rfl,rfl,q1,h6'.1⟩,
   ⟨ts.drop n,by unfold bu;rw[List.map_drop],⟨λk hk=>h2.1 k (List.mem_of_mem_drop hk),h2.2.sublist (List.drop_sublist _ _)⟩,rfl,rfl,q2,h6'.2⟩,
   hne _ h6'.1 (λe=>by have:=congrArg List.length e;rw[bz,l9] at this;omega),hne _ h6'.2 (λe=>by have:=congrArg List.length e;rw[bG,l9] at this;omega),
   by rw[hk];exact q3,by rw[hk];exact q4,by rw[hk];exact hkey,?_,?_⟩
  ·intro e;have:=congrArg List.length e;rw[bz,l9] at this;omega
  ·intro e;have:=congrArg List.length e;rw[bG,l9] at this;omega
theorem CT.ok{V:UInt32->Bs}:∀{d:Nat} {c:Cn} {pg:List UInt32} {m:List Pr},CT V d c pg m->(cnZ c<=546∨(∃ps,c=.leaf ps)/\cnZ c<=694)->wO c
 | 0, .leaf _, _, _, ⟨h1, _, h3⟩, hz => by
  subst h1;refine⟨h3,?_⟩;rcases hz with hz|⟨_,hz⟩
  ·exact bm hz (by decide)
  ·exact hz
 | 0, .br _ _, _, _, h, _ => h.elim
 | _ + 1, .leaf _, _, _, h, _ => h.elim
 | _ + 1, .br ks _, _, _, ⟨ts, h1, h2, _, _, h5, _⟩, hz => by
  subst h1
  have:=h5.len
  rw[msT,dx] at this;refine⟨h2,by rw[bu,dx];exact this,?_⟩;rcases hz with hz|⟨⟨_,h⟩,_⟩
  ·exact hz
  ·cases h
theorem Fa{l:List Pr}{p:Pr}(hs:ej l):cY (g9 l p)<=cY l+(p.1.length+p.2.length+4):=by
 have hone:=iI p;cases h:fC l p.1 with
 | true =>
  unfold g9;rw[tf _ hs,tg _ hs,h];have h1:=eH (l.take (dZ l p.1)) ([p]++l.drop (dZ l p.1+true.toNat));have h2:=eH [p] (l.drop (dZ l p.1+true.toNat));have h3:=jg l (dZ l p.1);have h4:=jg (l.drop (dZ l p.1)) 1;have h5:cY ((l.drop (dZ l p.1)).take 1)≥3:=by unfold cY;omega
  rw[gD] at h4;rw[gY] at h1 h2;simp only[Bool.toNat_true] at h1 h2 ⊢;omega
 | false =>
  rw[od hs h];have h1:=eH (l.take (dZ l p.1)) ([p]++l.drop (dZ l p.1));have h2:=eH [p] (l.drop (dZ l p.1));have h3:=jg l (dZ l p.1);rw[gY] at h1 h2;omega
theorem FI(l:List Pr)(k:Bs):cY (kD l k)<=cY l:=by
 unfold kD
 induction l with
 | nil => exact aN _
 | cons a l ih =>
  have h1:=eH [a] l;rw[gY,iI] at h1;rw[yX]
  split
  ·have h2:=eH [a] (l.filter λq => !(q.1==k));rw[gY,iI] at h2;omega
  ·omega
theorem Ie(K1 K2:List Bs)(a b:List UInt32)(i j:UInt32):brZ (K1++K2) (a++i::b)=brZ (K1++K2) (a++j::b):=by
 unfold brZ;simp
theorem yJ(K1 K2:List Bs)(a b:List UInt32)(i j l:UInt32)(k:Bs):brZ (K1++k::K2) (a++i::l::b)=brZ (K1++K2) (a++j::b)+6+k.length:=by
 unfold brZ;rw[iJ,iJ,jL];simp only[aF,cf];omega
theorem CT.lone{V:UInt32->Bs}{d:Nat}{ids:List UInt32}{pg:List UInt32}{m:List Pr}(h:CT V d (.br [] ids) pg m):∃d' id,d=d'+1/\ids=[id]/\isT V d' id pg m:=by
 cases d with
 | zero => exact h.elim
 | succ d =>
  obtain⟨ts,rfl,h2,rfl,rfl,h5,h6⟩:=h
  have:=h5.len
  rw[msT,dx] at this
  match ts,this with
  | [t], _ => exact ⟨d, t.1, rfl, rfl, by rw [eQ, fV]; simp only [pgT, prT, yW, cH]; exact (h6 t cP).1⟩
theorem Hole.top(V:UInt32->Bs)(d:Nat)(m:List Pr):Hole V d [] [] [] [] m :=
 ⟨⟨λ_ h=>by simp at h,C1⟩,rfl,trivial,λ_ h=>by simp at h,λ_ h=>by simp at h⟩
instance:Flat Bs:=⟨1,λs=>[str s],λ_=>rfl,λs v h=>by simp at h;subst h;rfl⟩
instance:Flat Pr:=⟨2,λp=>[str p.1,str p.2],λ_=>rfl,λs v h=>by
 simp only[bZ,dH,or_false] at h;rcases h with rfl|rfl <;> rfl⟩
section
variable {P:Program}{E:Env}{w:World}{ty t u:TypeId}{x y:Operand}{a b:Bs}
theorem yC(a b:Bs):((⟨a.toArray⟩:ByteArray).toList==(⟨b.toArray⟩:ByteArray).toList)=decide (a=b):=by
 simp only[ByteArray.toList_eq];rw[qM];simp
theorem zk(hx:ev E x=str a)(hy:ev E y=str b):exec P E (.binOp .lss t x y u) ty w=.ok (.value (.bool (ltB a b))) w:=by
 rw[oB,hx,hy];refine bh ?_;simp[eqGuard,binOp,Op.stringOp]
theorem uY(hx:ev E x=str a)(hy:ev E y=str b):exec P E (.binOp .geq t x y u) ty w=.ok (.value (.bool (!ltB a b))) w:=by
 rw[oB,hx,hy];refine bh ?_;simp[eqGuard,binOp,Op.stringOp]
def B2(a b:Bs):Bs:=if ltB a b=true then b else a
theorem x_maxS{d d':TypeId}(hx:ev E x=str a)(hy:ev E y=str b):exec P E (.call { callee:=.builtin .max,args:=#[x,y],argTypes:=#[d,d'] }) ty w=.ok (.value (str (B2 a b))) w:=by
 rw[ud];refine bh ?_;cases h:ltB a b <;> simp[Builtin.max_,Builtin.max2,hx,hy,Op.stringOp,asBool,B2,h]
end
section
variable {P:Program}{E:Env}{w:World}{ty t t':TypeId}{x y c:Operand}
theorem zJ{f : FuncId}{args : Array Value}{fn : Func}(hf : P.funcs[f]? = some fn)(hn : (fn.name == "runtime.NumGoroutine") = false)(hb : fn.body.isNone = false) : (callFunc f args).run P w = .ok (.enter f args) w := by
 have hb':fn.body≠none:=by intro h;rw[h] at hb;simp at hb
 have hn' : fn.name ≠ "runtime.NumGoroutine" := by intro h; rw [h] at hn; simp at hn
 unfold callFunc;rw[au (show program.run P w=.ok P w from rfl)];simp only[hf];rw[if_neg (by simpa using hn'),if_neg (by simpa using hb')];rfl
theorem ux{f : FuncId}{cs : List Value}{args : List Operand}{ats : Array TypeId}{fn : Func}(hc : ev E c = .func (.func f) #[] cs.toArray)(hf : P.funcs[f]? = some fn)(hn : (fn.name == "runtime.NumGoroutine") = false)(hb : fn.body.isNone = false) :
  exec P E (.call { callee:=.value c,args:=args.toArray,argTypes:=ats }) ty w=.ok (.enter f (args.map (ev E)++cs).toArray) w:=by
 show(do let d <-Deferred.ofValue (ev E c) (args.toArray.map (ev E));invoke d.target d.args).run P w=_;rw[hc]
 have:=zJ (w:=w) (args:=(args.map (ev E)++cs).toArray) hf hn hb
 simpa [Deferred.ofValue,invoke] using this
theorem DN{f : FuncId}{fn : Func}{e : Array Value -> Sem Value}{args : List Operand}{ats : Array TypeId}{v : Value}{w' : World}(hf : P.funcs[f]? = some fn)(hn : (fn.name == "runtime.NumGoroutine") = false)
  (hb:fn.body.isNone=true) (h1:Extern.findNext fn=none) (he:Extern.find fn=some e) (h:(e (args.map (ev E)).toArray).run P w=.ok v w') :
  exec P E (.call { callee:=.value (.func f),args:=args.toArray,argTypes:=ats }) ty w=.ok (.value v) w':=by
 show(do let d <-Deferred.ofValue (.func (.func f) #[] #[]) (args.toArray.map (ev E));invoke d.target d.args).run P w=_;have h2:=run_callFunc_extern hf hn hb h1 he (args.map (ev E)).toArray w;rw[h] at h2
 simpa [Deferred.ofValue,invoke] using h2
def BG(a b:Bs):Int:=Lib.compareBytes a b
theorem Ez(a b:Bs):BG a b<0↔ltB a b=true:=by
 unfold BG
 induction a generalizing b with
 | nil => cases b <;> simp [Lib.compareBytes, Op.bytesLess]
 | cons x a ih =>
  cases b with
  | nil => simp [Lib.compareBytes, Op.bytesLess]
  | cons y b =>
   rw[rT];unfold Lib.compareBytes
   split
   ·rename_i h;simp[h]
   ·split
    ·rename_i h1 h2
     have:¬x<y:=λh=>by
      have:=UInt8.lt_iff_toNat_lt.1 h
      have:=UInt8.lt_iff_toNat_lt.1 h2
      omega
     have h3:x≠y:=λe=>by subst e;exact ui _ h2
     simp[this,h3]
    ·rename_i h1 h2
     have:x=y:=UInt8.le_antisymm (UInt8.not_lt.1 h2) (UInt8.not_lt.1 h1)
     subst this;rw[ih];simp[UInt8.lt_irrefl]
theorem cmpB_eq(a b:Bs):BG a b=0↔a=b:=by
 unfold BG
 induction a generalizing b with
 | nil => cases b <;> simp [Lib.compareBytes]
 | cons x a ih =>
  cases b with
  | nil => simp [Lib.compareBytes]
  | cons y b =>
   unfold Lib.compareBytes
   split
   ·rename_i h
    have h3:x≠y:=λe=>by subst e;exact ui _ h
    simp[h3]
   ·split
    ·rename_i h1 h2
     have h3:x≠y:=λe=>by subst e;exact ui _ h2
     simp[h3]
    ·rename_i h1 h2
     have:x=y:=UInt8.le_antisymm (UInt8.not_lt.1 h2) (UInt8.not_lt.1 h1)
     subst this;rw[ih];simp
theorem il{d e:TypeId}{p:Option Addr}{l cp:Nat}(hx:ev E x=.slice p l cp)(ht:P.underlying d=some (.slice e)):exec P E (.call { callee:=.builtin .cap,args:=#[x],argTypes:=#[d] }) ty w=.ok (.value (.int .i64 cp)) w:=by
 rw[ud];refine bh ?_;simp[Builtin.cap_,hx,run_underlying ht,goInt]
end
section
variable {α:Type}[Flat α]{P:Program}{E:Env}{w:World}{ty t t':TypeId}{x y lo hi mx:Operand}
theorem qY{e:TypeId}{i:TypeInfo}{z:Value}{v:Value}{o:Operand}(a:α)(ht:P.underlying t=some (.slice e))(hi:P.info? e=some i)(hz:i.zero=some z)(hsz:i.size=Flat.sz α)(hzs:z.cells.size=Flat.sz α)(hx:ev E o=v)(hv:v.cells.toList=Flat.enc a)(hb:Flat.sz α<=16777216) :
  ∃v' w',exec P E (.buildSlice t 1 #[(0,o)]) ty w=.ok (.value v') w'/\∃b,v'=.slice (some ⟨b,0,none⟩) 1 1/\Blk w' b (Flat.enc a)/\w.heap.size<=b/\Chg [] w w'/\b<w'.heap.size:=by
 refine⟨.slice (some ⟨w.heap.size,0,none⟩) 1 1,w.pushB (.cells (Flat.enc a).toArray e),?_,w.heap.size,rfl,⟨e,fU _ _⟩,aN _,Chg.push _ _,by rw[ga];omega⟩;rw[sf];refine bh ?_;unfold Instr.buildSlice;rw[au (run_underlying ht w)];simp only[];rw[au (cB hi w),hsz,if_neg (by omega)];have hps:((#[(0,o)]:Array (Nat×Operand)).map λ(i,x)=>(i,ev E x)).toList=([v].zipIdx).map λx=>(x.2,x.1):=by simp[hx]
 have hcells:∀u∈[v],u.cells.size=Flat.sz α:=λu hu=>by
  rw[gk] at hu;subst hu
  have:=congrArg List.length hv
  rw[Flat.len] at this;simpa using this
 have hsize:∀zero:Array Value,((Array.range (1*Flat.sz α)).map (zero[· % zero.size]!)).size=1*Flat.sz α:=by intro zero;simp
 have hflat:[v].flatMap (λv=>v.cells.toList)=Flat.enc a:=by simp[hv]
 by_cases h0:1*Flat.sz α=0
 ·rw[if_pos h0];simp only[pure_bind];rw[hps,s9 [v] _ 0 hcells (by rw[hsize];simp)];simp only[oI];rw[nj (by rw[hsize,hflat,Flat.len];omega),hflat];rfl
 ·rw[if_neg h0,au (dw hi hz w)];simp only[pure_bind];rw[hps,s9 [v] _ 0 hcells (by rw[hsize];simp)];simp only[oI];rw[nj (by rw[hsize,hflat,Flat.len];omega),hflat];rfl
theorem add0(p:Option Addr):p.map (·.add 0)=p:=by
 cases p with
 | none => rfl
 | some a => obtain ⟨b, o, s⟩ := a; rfl
theorem sE(n:Nat){e:TypeId}{i:TypeInfo}{p:Option Addr}{l cap:Nat}{k:IntKind}{j:Int}(ht:P.underlying t=some (.slice e))(hi':P.info? e=some i)(hx:ev E x=.slice p l cap)(hl:ev E hi=.int k j)(hn:j=n)(hj:n<=cap) :
  exec P E (.slice t x none (some hi) none) ty w=.ok (.value (.slice p n cap)) w:=by
 subst hn;rw[Ak ht hi' hx hl (by omega),add0];simp
theorem u4(n:Nat){e:TypeId}{i:TypeInfo}{b off l cap:Nat}{k:IntKind}{j:Int}(ht:P.underlying t=some (.slice e))(hi:P.info? e=some i)(hx:ev E x=.slice (some ⟨b,off,none⟩) l cap)(hl:ev E lo=.int k j)(hn:j=n)(hj:n<=l)(hc:n<cap) :
  exec P E (.slice t x (some lo) none none) ty w=.ok (.value (.slice (some ⟨b,off+n*i.size,none⟩) (l-n) (cap-n))) w:=by
 subst hn;rw[qW ht hi hx hl (by omega),if_neg (by simp;omega)];simp[eI]
theorem Cf{e:TypeId}{i:TypeInfo}{p:Option Addr}{l cap:Nat}{k k' k2:IntKind}{j j' j2:Int}(ht:P.underlying t=some (.slice e))(hi':P.info? e=some i)(hx:ev E x=.slice p l cap)(hl:ev E lo=.int k j)(hh:ev E hi=.int k' j')(hm:ev E mx=.int k2 j2)
  (hj:0<=j/\j<=j') (hj':0<=j'/\j'<=j2) (hj2:0<=j2/\j2<=cap) :
  ∃v',(∀w',exec P E (.slice t x (some lo) (some hi) (some mx)) ty w'=.ok (.value v') w')/\True:=by
 refine⟨.slice (if j2.toNat=j.toNat then p else p.map (·.add (j.toNat*i.size))) (j'.toNat-j.toNat) (j2.toNat-j.toNat),λw=>?_,trivial⟩;rw[kU,hx];refine bh ?_;rw[ir ht];unfold Instr.slice Instr.sliceBounds;rw[au (run_underlying ht w)];simp only[zc,hl,hm,hh,bind_assoc,if_true];rw[au (dE hj2)];rw[au (dE (by omega))];rw[au (dE (by omega))];simp only[pure_bind];rw[au (cB hi' w)];rfl
theorem Ca(n q:Nat){e:TypeId}{i:TypeInfo}{p:Option Addr}{l cap:Nat}{k k':IntKind}{j j':Int}(ht:P.underlying t=some (.slice e))(hi':P.info? e=some i)(hx:ev E x=.slice p l cap)(hl:ev E lo=.int k j)(hh:ev E hi=.int k' j')(hn:j=n)(hq:j'=n+q)(hc:n+q<=cap) :
  exec P E (.slice t x (some lo) (some hi) none) ty w=.ok (.value (.slice (if cap=n then p else p.map (·.add (n*i.size))) q (cap-n))) w:=by
 subst hn hq;rw[vd ht hi' hx hl hh (by omega) (by omega)];simp;congr 2;omega
theorem Own.front{p:Option Addr}{n cap:Nat}{l:List α}(h:Own w (.slice p l.length cap) l)(hn:n<=l.length):Own w (.slice p n cap) (l.take n):=by
 obtain⟨p',cap',he,hc,h⟩:=h;cases he;refine⟨p,cap,by rw[bz,eC hn],by rw[bz];omega,?_⟩;cases p with
 | none =>
  obtain⟨h1,h2⟩:=h;subst h1;exact⟨by simp,h2⟩
 | some a =>
  obtain⟨h1,c,e,fr,h2,h3,h4,h5⟩:=h;refine⟨h1,c,e,fr,h2,h3,h4,λi x hx=>h5 i x ?_⟩;rw[<-gT] at hx;rw[ld] at hx
  split at hx
  ·exact hx
  ·cases hx
theorem Gz{e:TypeId}{i:TypeInfo}{d:TypeDesc}{p:Option Addr}{cap:Nat}{vy:Value}{l m:List α}(ht:P.underlying t=some (.slice e))(ht':P.underlying t'=some d)(hd:d=.string∨∃e',d=.slice e')
  (hi:P.info? e=some i) (hsz:i.size=Flat.sz α) (hl:Own w (.slice p l.length cap) l) (hm:Src α P w vy m) (hx:ev E x=.slice p l.length cap) (hy:ev E y=vy) (hc:l.length+m.length<=cap) :
  ∃w',exec P E (.call { callee:=.builtin .append,args:=#[x,y],argTypes:=#[t,t'] }) ty w=.ok (.value (.slice p (l.length+m.length) cap)) w'/\Own w' (.slice p (l.length+m.length) cap) (l++m)/\Chg (ay (.slice p l.length cap)) w w'/\w'.heap.size=w.heap.size:=by
 have key:∃w',(Builtin.append_ #[t,t'] ty #[.slice p l.length cap,vy]).run P w=.ok (.slice p (l.length+m.length) cap) w'/\Own w' (.slice p (l.length+m.length) cap) (l++m)/\Chg (ay (.slice p l.length cap)) w w'/\w'.heap.size=w.heap.size:=by
  obtain⟨p',cap',he,hlc,hp⟩:=hl;cases he;unfold Builtin.append_;simp only[mO,sy,uO];rw[au (run_underlying ht w)];simp only[];rw[au (cB hi w)];rw[au (run_underlying ht' w)];rcases hd with rfl|⟨e',rfl⟩
  all_goals
   simp only[pure_bind,DG,if_false,sD,if_true];rw[au hm.1,if_pos hc];have hfirst:=hm.2 w rfl m.length (aN _);rw[cZ,<-hsz] at hfirst;rw[au hfirst];cases p with
   | none =>
    obtain⟨rfl,rfl⟩:=hp;have hm0:m=[]:=kq (by simpa using hc);subst hm0;exact⟨w,rfl,⟨none,0,rfl,en _,rfl,rfl⟩,Chg.refl' _ _,rfl⟩
   | some a =>
    obtain⟨b,off,sp⟩:=a;obtain⟨h1,c,ee,fr,h2,h3,h4,h5⟩:=hp;simp only at h1 h2 h4 h5;subst h1;have hlen:(bq m).length=m.length*Flat.sz α:=aV m;have hroom:off+l.length*Flat.sz α+(bq m).length<=c.size:=by
     rw[hlen]
     have:l.length*Flat.sz α+m.length*Flat.sz α<=cap*Flat.sz α:=by rw[<-fc];exact eB _ hc
     omega
    simp only[eI,hsz];rw[au (fk _ h2 (by simpa using hroom) h3 (by simpa using gy m))];refine⟨_,rfl,⟨some ⟨b,off,none⟩,cap,by rw[aF],by simpa using hc,rfl,_,ee,fr,eG (cJ h2),h3.size (dc _ _ _),by rw[dc];exact h4,?_⟩,?_,dW _ _ _⟩
    ·intro k q hk;rw[dT] at hk;simp only at hk ⊢;by_cases hkl:k<(bq l).length
     ·rw[iO hkl] at hk;rw[aV] at hkl;exact rH (by simpa using hroom) (h5 k q hk) (by omega)
     ·rw[g0 (by omega)] at hk;rw[aV] at hkl hk
      have:=vT (c:=c) (off:=off+l.length*Flat.sz α) (vs:=(bq m).toArray.toList) (by simpa using hroom) (by simpa using hk)
      rw[show off+l.length*Flat.sz α+(k-l.length*Flat.sz α)=off+k from by omega] at this;exact this
    ·exact(Chg.set _ _ _).mono (λb hb _=>by simpa [ay] using hb)
 obtain⟨w',h1,h2⟩:=key;refine⟨w',?_,h2⟩;rw[sg,hx,hy];exact bh h1
theorem zq{e:TypeId}{i:TypeInfo}{d:TypeDesc}{p:Option Addr}{cap n q:Nat}{vy:Value}{l m:List α}(ht:P.underlying t=some (.slice e))(ht':P.underlying t'=some d)(hd:d=.string∨∃e',d=.slice e')
  (hi:P.info? e=some i) (hsz:i.size=Flat.sz α) (hn:l.length=n) (hq:m.length=q) (hl:Own w (.slice p n cap) l) (hm:Src α P w vy m) (hx:ev E x=.slice p n cap) (hy:ev E y=vy) (hc:n+q<=cap) :
  ∃v' w',exec P E (.call { callee:=.builtin .append,args:=#[x,y],argTypes:=#[t,t'] }) ty w=.ok (.value v') w'/\v'=.slice p (n+q) cap/\Own w' (.slice p (n+q) cap) (l++m)/\Chg (ay (.slice p n cap)) w w'/\w'.heap.size=w.heap.size:=by
 subst hn hq;obtain⟨w',h1,h2⟩:=Gz (ty:=ty) ht ht' hd hi hsz hl hm hx hy hc;exact⟨_,w',h1,rfl,h2⟩
theorem pG{z:Value}{z0:α}(hz:z.cells.toList=Flat.enc z0)(n:Nat):(Builtin.zeroCells z.cells n).toList=bq (List.replicate n z0):=by
 have hs:z.cells.size=Flat.sz α:=by have:=congrArg List.length hz;rw[Flat.len] at this;simpa using this
 by_cases hp:0<z.cells.toList.length
 ·have h:=Ag hp n;have e:z.cells.toList.toArray=z.cells:=by simp
  rw[e] at h;unfold Builtin.zeroCells;rw[show n*z.cells.size=n*z.cells.toList.length by simp,h,hz,bq,List.flatMap_def,List.map_replicate]
 ·have h0:Flat.sz α=0:=by rw[<-hs];simp at hp;simpa using hp
  have h1:=aV (List.replicate n z0);rw[h0,Nat.mul_zero] at h1;rw[kq h1];unfold Builtin.zeroCells;rw[hs,h0];simp
theorem r9{e:TypeId}{i:TypeInfo}{z:Value}{k:IntKind}{p:Option Addr}{cap n:Nat}{l:List α}{j:Int}(m:Nat)(z0:α)(ht:P.underlying t=some (.slice e))(ht':P.underlying t'=some (.int k))(hi:P.info? e=some i)(hz:i.zero=some z)(hze:z.cells.toList=Flat.enc z0)(hsz:i.size=Flat.sz α)
  (hby:i.bytes<=1024) (hn:l.length=n) (hl:Sl w (.slice p n cap) l) (hx:ev E x=.slice p n cap) (hy:ev E y=.int .i64 j) (hj:j=m) (hb:n+m<=1073741824) (hc:cap<n+m) :
  ∃v' w',exec P E (.call { callee:=.builtin .append,args:=#[x,y],argTypes:=#[t,t'] }) ty w=.ok (.value v') w'/\Own w' v' (l++List.replicate m z0)/\Chg [] w w'/\In v' [] w.heap.size:=by
 subst hj hn;have hzs:z.cells.size=Flat.sz α:=by have:=congrArg List.length hze;rw[Flat.len] at this;simpa using this
 have key:∃v' w',(Builtin.append_ #[t,t'] ty #[.slice p l.length cap,.int .i64 m]).run P w=.ok v' w'/\Own w' v' (l++List.replicate m z0)/\Chg [] w w'/\In v' [] w.heap.size:=by
  unfold Builtin.append_;simp only[mO,sy,uO];rw[au (run_underlying ht w)];simp only[];rw[au (cB hi w)];rw[au (run_underlying ht' w)];have happ:∀w':World,(if m*i.size=0 then (pure #[]:Sem (Array Value)) else do pure (Builtin.zeroCells (<-zeroValue e).cells m)).run P w'=.ok (bq (List.replicate m z0)).toArray w':=λw'=>by
   by_cases h0:m*i.size=0
   ·rw[if_pos h0];have h1:=aV (List.replicate m z0);rw[cQ,<-hsz,h0] at h1;rw[kq h1];rfl
   ·rw[if_neg h0,au (dw hi hz w'),<-pG hze m];rfl
  simp only[pure_bind,if_true,Bool.not_true,DG,if_false];have ha:(asInt (.int .i64 (m:Int))).run P w=.ok (m:Int) w:=rfl;rw[au ha,jZ (by omega)];rw[if_neg (by omega)];rw[au (dJ hi w)];have hnb0:¬((m:Int)*(i.bytes:Int) > 2 ^ 48):=by
   have:m*i.bytes<=1073741824*1024:=uj (by omega) hby
   have h2:((m*i.bytes:Nat):Int)<=1073741824*1024:=by omega
   rw[Int.natCast_mul] at h2;omega
  rw[if_neg hnb0];simp only[jn];rw[if_neg (by omega)];have hov:¬((l.length+m:Nat):Int) > IntKind.i64.max:=by
   have:IntKind.i64.max=9223372036854775807:=by decide
   omega
  rw[au (dJ hi w),if_neg (by intro h;exact absurd h.1 hov),au (dJ hi w)];have hnc:=qq (l.length+m) cap (by omega);have hnb:¬Builtin.nextslicecap (l.length+m) cap*i.bytes > 2 ^ 48:=by
   have:Builtin.nextslicecap (l.length+m) cap*i.bytes<=(4*1073741824+2000)*1024:=uj (by omega) hby
   omega
  rw[if_neg hnb];obtain⟨nc,hnc1,hch⟩:=nh (P:=P) (w:=w) (need:=l.length+m) (cap:=cap) (e:=e);rw[au hch];rw[au (dJ hi _),au lR];have hf1:=((hl.heap (w':={ w with drawn:=w.drawn+1 }) O).first (P:=P) l.length (aN _))
  rw[cZ,<-hsz] at hf1;rw[au hf1];rw[au (happ _),au (dw hi hz _)];refine⟨.slice (some ⟨w.heap.size,0,none⟩) (l++List.replicate m z0).length nc,_,?_,rN (w:={ w with drawn:=w.drawn+1 }) (l:=l++List.replicate m z0) (e:=e) (rest:=Builtin.zeroCells z.cells (nc-(l.length+m))) (cap:=nc) (by simpa using hnc1) ?_,?_,?_⟩
  ·rw[aF,cQ,dT];simp only[<-List.append_toArray];rfl
  ·rw[l7,hzs,aF,cQ]
  ·exact(Chg.push { w with drawn:=w.drawn+1 } _).mono (by simp)
  ·intro b hb;right;simp only[ay,gk] at hb;omega
 obtain⟨v',w',h1,h2⟩:=key;refine⟨v',w',?_,h2⟩;rw[sg,hx,hy];exact bh h1
theorem vf{e:TypeId}{i:TypeInfo}{z:Value}{p:Option Addr}{cap q c' n:Nat}{l:List α}(z0:α)(ht:P.underlying t=some (.slice e))(hi:P.info? e=some i)(hz:i.zero=some z)(hze:z.cells.toList=Flat.enc z0)(hsz:i.size=Flat.sz α)
  (hn:l.length=n) (hl:Own w (.slice p n cap) l) (hx:ev E x=.slice (if cap=n then p else p.map (·.add (n*i.size))) q c') (hq:n+q<=cap) :
  ∃w',exec P E (.call { callee:=.builtin .clear,args:=#[x],argTypes:=#[t] }) ty w=.ok (.value (.tuple #[])) w'/\Own w' (.slice p n cap) l/\Chg (ay (.slice p n cap)) w w'/\w'.heap.size=w.heap.size:=by
 subst hn;have e_clear:exec P E (.call { callee:=.builtin .clear,args:=#[x],argTypes:=#[t] }) ty w=(kf (Builtin.clear_ #[t] ty #[ev E x])).run P w:=by
  rw[ud];simp only[uK,eZ,uL];rfl
 rw[e_clear,hx];by_cases h0:q=0
 ·subst h0;refine⟨w,bh ?_,hl,Chg.refl' _ _,rfl⟩;unfold Builtin.clear_;simp only[mO,sy];rw[au (run_underlying ht w)];by_cases hcl:cap=l.length
  ·rw[if_pos hcl];cases p <;> rfl
  ·rw[if_neg hcl];cases p <;> rfl
 ·obtain⟨p',cap',he,hlc,hp⟩:=hl;cases he;cases p with
  | none => obtain ⟨rfl, rfl⟩ := hp; exact absurd hq (by simp; omega)
  | some a =>
   obtain⟨b,off,sp⟩:=a;obtain⟨h1,c,ee,fr,h2,h3,h4,h5⟩:=hp;simp only at h1 h2 h4 h5;subst h1;have hlen:=aV (List.replicate q z0);rw[cQ] at hlen;have hroom:off+l.length*Flat.sz α+(bq (List.replicate q z0)).length<=c.size:=by
    rw[hlen]
    have:l.length*Flat.sz α+q*Flat.sz α<=cap*Flat.sz α:=by rw[<-fc];exact eB _ hq
    omega
   have hst:=fk (P:=P) (bq (List.replicate q z0)) h2 hroom h3 (gy _);refine⟨_,bh (w':=w.setB b (.cells (gr c (off+l.length*Flat.sz α) (bq (List.replicate q z0))) ee fr)) ?_,⟨some ⟨b,off,none⟩,cap,rfl,hlc,rfl,_,ee,fr,eG (cJ h2),h3.size (dc _ _ _),by rw[dc];exact h4,?_⟩,(Chg.set _ _ _).mono (λb hb _=>by simpa [ay] using hb),dW _ _ _⟩
   ·rw[if_neg (by omega)];unfold Builtin.clear_;simp only[mO,sy,zc];rw[au (run_underlying ht w)];cases q with
    | zero => exact absurd rfl h0
    | succ q =>
     simp only[eI,hsz];rw[au (dw hi hz w),pG hze,au hst];rfl
   ·intro k x hk
    have:=(List.getElem?_eq_some_iff.1 hk).1
    rw[aV] at this;exact rH hroom (h5 k x hk) (by simp only;omega)
def Row(w:World)(b:Nat)(c:Array Value):Prop:=∃e fr,w.heap[b]?=some (.cells c e fr)/\Soft c fr
theorem oR{e:TypeId}{i:TypeInfo}{b doff dl dcap b2 soff sl sc:Nat}{c:Array Value}{m:List α}(ht:P.underlying t=some (.slice e))(hi:P.info? e=some i)(hsz:i.size=Flat.sz α)(hx:ev E x=.slice (some ⟨b,doff,none⟩) dl dcap)(hy:ev E y=.slice (some ⟨b2,soff,none⟩) sl sc)
  (hm:min sl dl=m.length) (hs:At w b2 soff (bq m)) (hb:Row w b c) (hr:doff+m.length*Flat.sz α<=c.size) :
  ∃w',exec P E (.call { callee:=.builtin .copy,args:=#[x,y],argTypes:=#[t,t'] }) ty w=.ok (.value (.int .i64 m.length)) w'/\Row w' b (gr c doff (bq m))/\Chg [b] w w'/\w'.heap.size=w.heap.size:=by
 obtain⟨be,fr,hb,hf⟩:=hb;refine⟨w.setB b (.cells (gr c doff (bq m)) be fr),?_,⟨be,fr,eG (cJ hb),hf.size (dc _ _ _)⟩,Chg.set _ _ _,dW _ _ _⟩;rw[HU,hx,hy];refine bh ?_;unfold Builtin.copy_;simp only[mO,sy,uO];rw[au (run_underlying ht w)];simp only[];have hmin:Nat.min sl dl=m.length:=hm;have hfst:(Builtin.firstCells i.size (Nat.min sl dl) (.slice (some ⟨b2,soff,none⟩) sl sc)).run P w=.ok (bq m).toArray w:=by
  have:=iV (P:=P) hs
  rw[aV] at this;rw[hmin,hsz];exact this
 rw[au (F5 (P:=P) (w:=w)),au (cB hi w),au hfst];rw[au (fk _ hb (by simp only;rw[aV];exact hr) hf (by simpa using gy _)),hmin];rfl
theorem zS{b off cap:Nat}{l:List α}(h:Own w (.slice (some ⟨b,off,none⟩) l.length cap) l):∃c,Row w b c/\off+cap*Flat.sz α<=c.size/\∀i x,(bq l)[i]?=some x->c[off+i]?=some x:=by
 obtain⟨p,cp,he,_,h⟩:=h;cases he;obtain⟨_,c,e,fr,h2,h3,h4,h5⟩:=h;exact⟨c,⟨e,fr,h2,h3⟩,h4,h5⟩
theorem Row.own{b off cap n:Nat}{c:Array Value}{l:List α}(h:Row w b c)(hn:n=l.length)(hc:l.length<=cap)(hs:off+cap*Flat.sz α<=c.size)(hl:∀i x,(bq l)[i]?=some x->c[off+i]?=some x):Own w (.slice (some ⟨b,off,none⟩) n cap) l:=by
 obtain⟨e,fr,h2,h3⟩:=h;subst hn;exact⟨_,cap,rfl,hc,rfl,c,e,fr,h2,h3,hs,hl⟩
theorem Row.at{b off:Nat}{c:Array Value}{l:List Value}(h:Row w b c)(hl:∀i x,l[i]?=some x->c[off+i]?=some x):At w b off l:=by
 obtain⟨e,fr,h2,_⟩:=h;exact⟨c,e,fr,h2,hl⟩
theorem zN{c:Array Value}{off cap:Nat}{l:List α}{a:α}{i:Nat}(hi:i<=l.length)(hc:l.length+1<=cap)(hs:off+cap*Flat.sz α<=c.size)(hl:∀i x,(bq l)[i]?=some x->c[off+i]?=some x) :
  ∀q x,(bq (l.take i++a::l.drop i))[q]?=some x->(gr (gr c (off+(i+1)*Flat.sz α) (bq (l.drop i))) (off+i*Flat.sz α) (Flat.enc a))[off+q]?=some x:=by
 intro q x hq;have hk:(i+1)*Flat.sz α=i*Flat.sz α+Flat.sz α:=Nat.succ_mul _ _;have hdl:(bq (l.drop i)).length=(l.length-i)*Flat.sz α:=by rw[aV,bG]
 have hsum:(i+1)*Flat.sz α+(l.length-i)*Flat.sz α<=cap*Flat.sz α:=by rw[<-fc];exact eB _ (by omega)
 have htl:(bq (l.take i)).length=i*Flat.sz α:=by rw[aV,bz,eC hi]
 have hal:(Flat.enc a).length=Flat.sz α:=Flat.len a;rw[dT,iM] at hq;rw[iX _ _ _ _ (by rw[dc,hal];omega),iX _ _ _ _ (by rw[hdl];omega),hal,hdl];by_cases h1:q<i*Flat.sz α
 ·rw[iO (by omega)] at hq;rw[if_neg (by omega),if_neg (by omega)];refine hl q x ?_;rw[<-gT,ld,if_pos h1] at hq;exact hq
 ·rw[g0 (by omega),htl] at hq;by_cases h2:q<(i+1)*Flat.sz α
  ·rw[iO (by omega)] at hq;rw[if_pos (by omega),show off+q-(off+i*Flat.sz α)=q-i*Flat.sz α by omega];exact hq
  ·rw[g0 (by omega),hal] at hq
   have:=(List.getElem?_eq_some_iff.1 hq).1
   rw[if_neg (by omega),if_pos (by omega),show off+q-(off+(i+1)*Flat.sz α)=q-i*Flat.sz α-Flat.sz α by omega];exact hq
theorem vK{e:TypeId}{i:TypeInfo}{b b2 off la ca lb cb:Nat}{t2:TypeId}{cs:List Value}(ht:P.underlying t=some (.slice e))(hi:P.info? e=some i)(hB:Blk w b cs)(_:b<w.heap.size)(hne:b≠b2){c2:Array Value}(hR:Row w b2 c2)(h2:0<c2.size) :
  (Extern.SlicesOverlaps.overlaps #[t,t] #[t2] #[.slice (some ⟨b,0,none⟩) la ca,.slice (some ⟨b2,off,none⟩) lb cb]).run P w=.ok (.bool false) w:=by
 obtain⟨e1,hB⟩:=hB;obtain⟨e2,fr,hR,_⟩:=hR;obtain⟨kB,hkB⟩:∃kB,c2.size=kB+1:=⟨c2.size-1,by omega⟩
 have hsa:w.shape? b=some (e1,cs.length):=by unfold World.shape?;rw[hB];simp
 have hsb:w.shape? b2=some (e2,kB+1):=by unfold World.shape?;rw[hR,<-hkB]
 have hfr:∀o,w.frozen? ⟨b,o,none⟩=false:=λo=>by unfold World.frozen?;simp only[hB];simp
 have hz:(Go.sizeOf e).run P w=.ok i.size w:=cB hi w;have hnb:(b != b2)=true:=by simpa using hne
 have hnb':(b==b2)=false:=by simpa using hne
 change Sem.run P (α:=Value) (do
  let some t := (#[t, t] : Array TypeId)[0]? | stuck "slices.overlaps: no parameter types"
  let .slice elem <- underlying t | stuck "slices.overlaps: slice type expected"
  let size <-sizeOf elem
  match (some ⟨b,0,none⟩:Option Addr),(some ⟨b2,off,none⟩:Option Addr) with
  | some a, some b =>
   if la=0∨lb=0∨size=0 then pure (Value.bool false)
   else if a.block != b.block&&(<-frozen a)&&(<-frozen b) then unsupported .addressObserved
   else do
    if a.block != b.block then do
     noView a;noView b
     if <- mayBeOne a b then return Value.bool ((<- choose (.extern "sameAddr.stringBytes" 2)) == 1)
    pure (Value.bool (a.block==b.block&&a.off<b.off+lb*size&&b.off<a.off+la*size))
  | _, _ => pure (Value.bool false)) w = _
 by_cases h0:la=0∨lb=0∨i.size=0
 ·simp[Go.run_underlying ht,hz,h0]
 ·simp[Go.run_underlying ht,hz,h0,hnb,hnb',frozen,noView,viewAt,mayBeOne,stringish,shape,Sem.run,hsa,hsb,hfr]
end
end Go.Sac
namespace Go.Sac
open Go Go.ChangeShapes
theorem x6{H:Type}{enc:TypeId×Value->H}{P:Program}(hl:laidOutB P=true){W W':World}(hc:Chg [] W W') :
  ∀(ts:List TypeId) (vs:List Value) (ds:List (DataW H)) (ps:List MemPlace),ts.all (λt=>P.readableRec t&&decide (t<P.types.size))=true ->
   DataW.TrodAll enc P W 0 (λ_=>true) true ts vs ds ps->(∀p∈ps,p.block<W.heap.size)->DataW.TrodAll enc P W' 0 (λb=>decide (b<W.heap.size)) true ts vs ds ps:=by
 intro ts
 induction ts with
 | nil => intro vs ds ps _ h _; cases vs <;> cases ds <;> first | exact h | exact h.elim
 | cons t ts ih =>
  intro vs ds ps hr h hlt;obtain⟨v,vs',d,ds',p,q,rfl,rfl,rfl,h1,h2⟩:=trodAll_cons h;simp only[List.all_cons,jW,decide_eq_true_eq] at hr;have hp:∀x∈p,x.block<W.heap.size:=λx hx=>hlt x (by simp[hx]);refine⟨p,q,WideElems.Trod_stays hl hr.1.1 hr.1.2 h1 (λx hx=>?_) (λx hx=>by simpa using hp x hx),ih _ _ _ (by simpa using hr.2) h2 (λx hx=>hlt x (by simp[hx])),rfl⟩;have hb:=hp x hx;cases x with
  | cell b o => exact World.cell?_of_block (w := W) (hc.2.1 b hb (by simp))
  | map b => exact hc.2.1 b hb (by simp)
theorem Chg.keptBut{W W':World}(hc:Chg [] W W')(may:MemPlace->Prop):W.keptBut W' may:=by
 refine⟨hc.2.2.1,hc.2.2.2,λi hi=>?_⟩;have h:=hc.2.1 i hi (by simp);rw[h]
 split
 ·rename_i h1 h2
  rw[h1] at h2;simp only[oH,Obj.cells.injEq] at h2;obtain⟨rfl,rfl,rfl⟩:=h2;exact⟨rfl,rfl,rfl,λ_ _=>rfl⟩
 ·rename_i h1 h2
  rw[h1] at h2;simp only[oH,Obj.map.injEq] at h2;exact .inr ⟨h2.1.symm,h2.2.symm⟩
 ·rfl
theorem Fv{H:Type}{enc:TypeId×Value->H}{P:Program}{f:FuncId}{fn:Func}{s:ChangeSpec}{apart:Bool}{W:World}{args:Array Value}{ds gs:List (DataW H)}{before:List MemPlace}{bt:TypeId}
  (hl:laidOutB P=true) (hr:fn.params.toList.all (λt=>P.readableRec t&&decide (t<P.types.size))=true) (hrt:fn.resultTypes=#[bt]) (hbt:P.underlying bt=some .bool) (hv:s.vars=[])
  (hs:s.fn H (ds++gs)={ results:=[.lit (.bool true)],args:=ds }) (hW:DataW.Whole enc P fn.params.toList s.vars apart W args.toList ds gs before)
  (hc:Ret P f args W λv W'=>v=.bool true/\Chg [] W W') :
  Calls P f args W λe W'=>∃v,e=.returned v/\s.post enc P fn apart true false false W args v W':=by
 refine Calls.mono hc ?_;rintro e W' ⟨v,rfl,rfl,hch⟩;have hlt:=hW.lt;obtain⟨p,q,hA,hV,rfl,hz,hn⟩:=id hW;rw[hv] at hV;obtain⟨rfl,rfl⟩:=trodVars_none hV;have hA':=x6 hl hch _ _ _ _ hr hA (λx hx=>hlt x (by simp[hx]));refine⟨_,rfl,ds,[],p++[],[],p,[],hW,?_,?_,?_,hch.keptBut _,λh=>by cases h⟩
 ·rw[hs,hrt];refine⟨[],[],⟨1,?_⟩,rfl,rfl⟩;simp[Value.cells,DataW.trod,hbt]
 ·rw[hs];exact hA'
 ·rw[hs,hv];rfl
def RdF(P:Program)(t:TypeId)(α:Type)[Flat α](ok:World->α->Prop):Prop :=
 ∀{H:Type} {enc:TypeId×Value->H} {w:World} {base:Nat} {sp:Nat->Bool} {held:Bool} {fuel:Nat} {cs:List Value} {x:DataW H×List MemPlace},
  DataW.trod enc P w base sp held fuel t cs=some x->∃a:α,cs=Flat.enc a/\ok w a
def okI(_:World)(n:Int):Prop := -9223372036854775808<=n/\n<9223372036854775808
def okT{α:Type}(_:World)(_:α):Prop:=True
theorem rd_bool{P:Program}{t:TypeId}(ht:P.underlying t=some .bool):RdF P t Bool okT:=by
 intro H enc w base sp held fuel cs x h;obtain⟨b,rfl,_⟩:=DataW.trod_bool ht h;exact⟨b,rfl,trivial⟩
theorem B4{α:Type}(p:Nat->α->Prop):∀n:Nat,(∀i,i<n->∃a,p i a)->∃l:List α,l.length=n/\∀i a,l[i]?=some a->p i a:=by
 intro n
 induction n with
 | zero => intro _; exact ⟨[], rfl, by simp⟩
 | succ n ih =>
  intro h;obtain⟨l,hl,hp⟩:=ih (λi hi=>h i (by omega));obtain⟨a,ha⟩:=h n (by omega);refine⟨l++[a],by simp[hl],λi b hb=>?_⟩;by_cases hi:i<n
  ·rw[iO (by omega)] at hb;exact hp i b hb
  ·rw[g0 (by omega)] at hb
   have:i-l.length=0:=by
    cases hk:i-l.length with
    | zero => rfl
    | succ k => rw [hk] at hb; simp at hb
   rw[this] at hb;simp at hb;subst hb;obtain rfl:i=n:=by omega
   exact ha
theorem open_sl{α:Type}[Flat α]{ok:World->α->Prop}{P:Program}{H:Type}{enc:TypeId×Value->H}{W:World}{base b0:Nat}{r:Reach}{t te:TypeId}{v:Value}{d:DataW H}{ps:List MemPlace}{sp:Nat->Bool}{held:Bool}
  (R:RdF P te α ok) (ht:P.underlying t=some (.slice te)) (hc:P.cellsOf te=Flat.sz α) (hval:Value.okWide P W r b0 t v) (hd:DataW.Trod enc P W base sp held t v d ps) :
  ∃l:List α,Sl W v l/\∀a∈l,ok W a:=by
 obtain⟨p0,len0,cap0,rfl⟩:=WideShapes.okWide_slice ht hval;obtain⟨fuel,hf⟩:=hd;rcases DataW.trod_slice ht hf with⟨hcs,_⟩|⟨a,len,cap,elems,rest,n,_,hcs,_,hb,hlc,_,hlen,hel,_,_⟩
 ·simp only[Value.cells,qa,Value.slice.injEq,and_true] at hcs;obtain⟨rfl,rfl,rfl⟩:=hcs;exact⟨[],Sl.nil W 0,by simp⟩
 ·simp only[Value.cells,qa,Value.slice.injEq,and_true] at hcs;obtain⟨rfl,rfl,rfl⟩:=hcs;have hok:W.has P r b0 a te cap0:=by
   unfold Value.okWide at hval;rw[ht] at hval;simp only[Cell.okWide,Cell.ok,ht] at hval;exact hval.2.2
  obtain⟨_,hspot,row,cells,hshape,_⟩:=hok;obtain⟨ab,ao,asp⟩:=a;simp only at hspot hshape;subst hspot;obtain⟨c,fr,hblk⟩:∃c fr,W.heap[ab]?=some (.cells c row fr):=by
   unfold World.shape? at hshape
   split at hshape
   ·rename_i c elem fr hb'
    simp only[oH,lH] at hshape;exact⟨c,fr,by rw[hb',hshape.1]⟩
   ·cases hshape
  obtain⟨l,hl,hp⟩:=B4 (α:=α) (λi a=>W.cells? base ((⟨ab,ao,none⟩:Addr).add (i*P.cellsOf te)) (P.cellsOf te)=some (Flat.enc a)/\ok W a) len0 (λi hi=>by
   have h:=hel i hi;obtain⟨y,hy⟩:∃y,elems[i]?=some y:=⟨elems[i],bN (by omega)⟩
   rw[hy] at h;obtain⟨cs,h1,h2⟩:=Option.bind_eq_some_iff.1 h;obtain⟨a,rfl,ha⟩:=R h2;exact⟨a,h1,ha⟩)
  refine⟨l,⟨some ⟨ab,ao,none⟩,cap0,by rw[hl],by omega,⟨rfl,c,row,fr,hblk,?_⟩⟩,λa ha=>?_⟩
  ·intro j x hx;have hpos:0<Flat.sz α:=by
    rcases Nat.eq_zero_or_pos (Flat.sz α) with h0|h0
    ·have hj:=(List.getElem?_eq_some_iff.1 hx).1;rw[aV,h0] at hj;omega
    ·exact h0
   have hj:=(List.getElem?_eq_some_iff.1 hx).1;rw[aV] at hj;have hjd:j=j / Flat.sz α*Flat.sz α+j % Flat.sz α:=by rw[uk];exact(Nat.div_add_mod j _).symm
   have hi:j / Flat.sz α<l.length:=Nat.div_lt_of_lt_mul (by rw[uk];exact hj);have hm:j % Flat.sz α<Flat.sz α:=Nat.mod_lt _ hpos;have hli:l[j / Flat.sz α]?=some l[j / Flat.sz α]:=bN hi;rw[hjd,uE l hli _ hm] at hx;obtain⟨h1,_⟩:=hp _ _ hli;rw[hc] at h1;obtain⟨_,_,hcell⟩:=World.cells?_some h1
   have:=(hcell (j % Flat.sz α) hm).trans hx
   rw[eI,eI] at this;simp only[World.cell?,hblk] at this;rw[hjd]
   simpa [Nat.add_assoc] using this
  ·obtain⟨i,hi,rfl⟩:=List.mem_iff_getElem.1 ha;exact(hp i _ (bN hi)).2
abbrev jb:={ v:Value // ∃p n c,v=.slice p n c }
instance:Flat jb:=⟨1,λv=>[v.1],λ_=>rfl,λv x h=>by
 simp only[gk] at h;subst h;obtain⟨v,p,n,c,rfl⟩:=v;rfl⟩
structure StepV where
 what:Int
 i:Int
 kek:UInt8
 key:UInt8
 power:Int
 ch:jb
instance:Flat StepV:=⟨6,λs=>[.int .i64 s.what,.int .i64 s.i,.int .u8 s.kek.toNat,.int .u8 s.key.toNat,.int .i64 s.power,s.ch.1],λ_=>rfl,λs x h=>by
 obtain⟨a,b,c,d,e,v,p,n,c',rfl⟩:=s;simp only[bZ,dH,or_false] at h;rcases h with rfl|rfl|rfl|rfl|rfl|rfl <;> rfl⟩
def step0:StepV:=⟨0,0,0,0,0,⟨.slice none 0 0,_,_,_,rfl⟩⟩
def okStep(w:World)(s:StepV):Prop:=okI w s.what/\okI w s.i/\okI w s.power/\∃l:List UInt8,SlE w s.ch.1 l
theorem open_u8{P:Program}{H:Type}{enc:TypeId×Value->H}{W:World}{base b0:Nat}{r:Reach}{t:TypeId}{v:Value}{d:DataW H}{ps:List MemPlace}{sp:Nat->Bool}{held:Bool}
  (ht:P.underlying t=some (.int .u8)) (hval:Value.okWide P W r b0 t v) (hd:DataW.Trod enc P W base sp held t v d ps):∃a:UInt8,v=.int .u8 a.toNat:=by
 obtain⟨n,rfl,_,_,hw⟩:=open_int ht hval hd;have hw:0<=n/\n<=255:=by
  simp only[Lit.wf,jW,decide_eq_true_eq] at hw;exact hw
 refine⟨UInt8.ofNat n.toNat,?_⟩;rw[jm];congr 1;omega
theorem arr_of{args:Array Value}{l:List Value}(h:args.toList=l):args=l.toArray:=by subst h;rfl
end Go.Sac
namespace Go.Sac
open Go
structure MPg where
 used:Bool
 fresh:Bool
 written:Bool
 was:Bool
 b:List UInt8
deriving DecidableEq
instance:Flat MPg:=⟨5,λp=>[.bool p.used,.bool p.fresh,.bool p.written,.bool p.was,str p.b],λ_=>rfl,λs x h=>by
 simp only[bZ,dH,or_false] at h;rcases h with rfl|rfl|rfl|rfl|rfl <;> rfl⟩
def pg0:MPg:=⟨false,false,false,false,[]⟩
structure Mdl where
 p:List MPg
 old:List MPg
 root:UInt32
 oldRoot:UInt32
 txt:List UInt8
 oldTxt:List UInt8
def Mdl.zero(n:Nat):Mdl:=⟨List.replicate n pg0,List.replicate n pg0,0,0,[],[]⟩
def mdC(M:Mdl)(pv ov:Value):List Value:=[pv,ov,.int .u32 M.root.toNat,.int .u32 M.oldRoot.toNat,str M.txt,str M.oldTxt]
def MF(mb:Nat)(pv ov:Value):List Nat:=mb::(ay pv++ay ov)
structure MAt(w:World)(mb:Nat)(pv ov:Value)(M:Mdl):Prop where
 blk:Blk w mb (mdC M pv ov)
 p:Own w pv M.p
 old:Own w ov M.old
 np:mb∉ay pv
 no:mb∉ay ov
 apart:∀x∈ay pv,x∉ay ov
section
variable {w w':World}{mb:Nat}{pv ov:Value}{M:Mdl}
theorem MAt.chg{S:List Nat}(h:MAt w mb pv ov M)(hm:Chg S w w')(hn:∀x∈MF mb pv ov,x∉S):MAt w' mb pv ov M :=
 ⟨h.blk.chg hm (hn mb (by simp[MF])),h.p.mod hm (λx hx=>hn x (by simp[MF,hx])),h.old.mod hm (λx hx=>hn x (by simp[MF,hx])),h.np,h.no,h.apart⟩
theorem MAt.chg0(h:MAt w mb pv ov M)(hm:Chg [] w w'):MAt w' mb pv ov M:=h.chg hm (by simp)
theorem MAt.lt(h:MAt w mb pv ov M):∀x∈MF mb pv ov,x<w.heap.size:=by
 intro x hx;simp only[MF,bZ,fZ] at hx;rcases hx with rfl|hx|hx
 ·exact h.blk.lt
 ·exact h.p.sl.lt x hx
 ·exact h.old.sl.lt x hx
end
def k39:List UInt8:=0::0::0::9::List.replicate 28 0
def upU(i:Nat):PgF:=λj=>decide (j.toNat<i)
theorem mG{α:Type}[DecidableEq α]:∀l m:List α,l.Nodup->(∀x∈l,x∈m)->l.length<=m.length
 | [], _, _, _ => en _
 | a :: l, m, hn, h => by
  have hn':=List.nodup_cons.1 hn;have h1:=mG l (m.erase a) hn'.2 (λx hx=>(List.mem_erase_of_ne (λe=>by subst e;exact hn'.1 hx)).2 (h x (bO _ hx)));have hm:=h a cP;have h2:=List.length_pos_of_mem hm;rw[List.length_erase_of_mem hm] at h1;rw[cf];omega
structure Ext(n:Nat)(P P':Pg)(V V':UInt32->Bs)(made:List UInt32):Prop where
 used:P'.now.used=λx=>made.elem x||P.now.used x
 writ:P'.now.written=λx=>made.elem x||P.now.written x
 new:∀x∈made,P.free x=true/\x.toNat<n
 nodup:made.Nodup
 kept:P'.kept=P.kept
 at_:P'.at_=P.at_
 old:∀x,P.now.written x=true->V' x=V x
section
variable {n:Nat}{P P' P'':Pg}{V V' V'':UInt32->Bs}{made more:List UInt32}
theorem Ext.refl(n:Nat)(P:Pg)(V:UInt32->Bs):Ext n P P V V [] :=
 ⟨by funext x;rfl,by funext x;rfl,λx h=>by simp at h,kI,rfl,rfl,λ_ _=>rfl⟩
theorem Ext.trans(h:Ext n P P' V V' made)(h':Ext n P' P'' V' V'' more):Ext n P P'' V V'' (made++more):=by
 have hfree:∀x,P'.free x=true->P.free x=true/\x∉made:=λx hx=>by
  unfold Pg.free at hx ⊢;rw[h.used,h.kept] at hx;simp only[jW,xM,Bool.or_eq_false_iff] at hx;refine⟨by rw[hx.1.2,hx.2];rfl,λhm=>?_⟩;rw[yZ hm] at hx;exact absurd hx.1.1 (by simp)
 refine⟨?_,?_,λx hx=>?_,?_,h'.kept.trans h.kept,h'.at_.trans h.at_,λx hx=>?_⟩
 ·rw[h'.used,h.used];funext x
  have:(made++more).elem x=(made.elem x||more.elem x):=by simp
  show(more.elem x||(made.elem x||_))=_;rw[this,Bool.or_assoc,Bool.or_left_comm]
 ·rw[h'.writ,h.writ];funext x
  have:(made++more).elem x=(made.elem x||more.elem x):=by simp
  show(more.elem x||(made.elem x||_))=_;rw[this,Bool.or_assoc,Bool.or_left_comm]
 ·rcases List.mem_append.1 hx with hx|hx
  ·exact h.new x hx
  ·exact⟨(hfree x (h'.new x hx).1).1,(h'.new x hx).2⟩
 ·rw[ko];exact⟨h.nodup,h'.nodup,λa ha b hb e=>by subst e;exact(hfree a (h'.new a hb).1).2 ha⟩
 ·rw[h'.old x (by rw[h.writ];simp only[hx,Bool.or_true]),h.old x hx]
theorem Ext.one{i:UInt32}{l:Bs}{cnt:UInt32}{g:UInt32->Option UInt64}(hf:P.free i=true)(hi:i.toNat<n)(hw:P.now.written i=false) :
  Ext n P { P with count:=cnt,now:={ P.now with used:=fb P.now.used i,written:=fb P.now.written i },gens:=g } V (x9 V i l) [i]:=by
 refine⟨?_,?_,λx hx=>?_,List.nodup_cons.2 ⟨by simp,kI⟩,rfl,rfl,λx hx=>?_⟩
 ·funext x
  show(decide (x=i)||P.now.used x)=_;simp
 ·funext x
  show(decide (x=i)||P.now.written x)=_;simp
 ·rw[gk] at hx;subst hx;exact⟨hf,hi⟩
 ·unfold x9;rw[if_neg (λe=>by subst e;rw[hw] at hx;cases hx)]
theorem Ext.mem(h:Ext n P P' V V' made){x:UInt32}(hx:x∈made):P'.now.used x=true/\P'.now.written x=true:=by
 rw[h.used,h.writ];have h0:=yZ hx;exact⟨by show(made.elem x||_)=true;rw[h0];rfl,by show(made.elem x||_)=true;rw[h0];rfl⟩
theorem Ext.wr(h:Ext n P P' V V' made){x:UInt32}(hx:P.now.written x=true):P'.now.written x=true:=by rw[h.writ];simp[hx]
theorem Ext.us(h:Ext n P P' V V' made){x:UInt32}(hx:P.now.used x=true):P'.now.used x=true:=by rw[h.used];simp[hx]
theorem Ext.free(h:Ext n P P' V V' made){x:UInt32}:P'.free x=true↔P.free x=true/\x∉made:=by
 rw[free_iff,free_iff,h.used,h.kept];simp only[Bool.or_eq_false_iff]
 constructor
 ·rintro⟨⟨h1,h2⟩,h3⟩;exact⟨⟨h2,h3⟩,λhm=>by rw[yZ hm] at h1;cases h1⟩
 ·rintro⟨⟨h1,h2⟩,h3⟩;exact⟨⟨by simpa [List.elem_eq_mem] using h3,h1⟩,h2⟩
theorem Ext.fresh(h:Ext n P P' V V' made){x:UInt32}:P'.fresh x=true↔x∈made∨P.fresh x=true:=by
 rw[fresh_iff,fresh_iff,h.used,h.kept]
 constructor
 ·rintro⟨h1,h2⟩;simp only[mX] at h1;rcases h1 with h1|h1
  ·exact .inl (List.mem_of_elem_eq_true h1)
  ·exact .inr ⟨h1,h2⟩
 ·rintro(h1|⟨h1,h2⟩)
  ·exact⟨by show(made.elem x||_)=true;rw[yZ h1];rfl,(free_iff.1 (h.new x h1).1).2⟩
  ·exact⟨by simp[h1],h2⟩
theorem Ext.undo(h:Ext n P P' V V' made)(hw:∀x,P.now.written x=true->P.now.used x=true)(hu:P''.now.used=λx => !made.elem x&&P'.now.used x)(hwr:P''.now.written=λx => !made.elem x&&P'.now.written x)(hk:P''.kept=P'.kept)(ha:P''.at_=P'.at_):Ext n P P'' V V' []:=by
 have hm:∀x,made.elem x=true->P.now.used x=false:=λx hx=>(free_iff.1 (h.new x (List.mem_of_elem_eq_true hx)).1).1;refine⟨?_,?_,λx hx=>by simp at hx,kI,hk.trans h.kept,ha.trans h.at_,h.old⟩
 ·rw[hu,h.used];funext x;show(!made.elem x&&(made.elem x||P.now.used x))=P.now.used x;cases hx:made.elem x with
  | false => rfl
  | true => rw [hm x hx]; rfl
 ·rw[hwr,h.writ];funext x;show(!made.elem x&&(made.elem x||P.now.written x))=P.now.written x;cases hx:made.elem x with
  | false => rfl
  | true =>
   cases hq:P.now.written x with
   | false => rfl
   | true => have h1 := hm x hx; rw [hw x hq] at h1; cases h1
theorem Ext.room(h:Ext n P P' V V' made)(hn:n<=400)(h0:∀j,j<n->P'.free (UInt32.ofNat j)=false):fS P n<=made.length:=by
 have hsub:∀i∈(List.range n).filter (λi=>P.free (UInt32.ofNat i)),i∈made.map (·.toNat):=λi hi=>by
  rw[uJ,uI] at hi;have h1:=h0 i hi.1;by_cases hm:UInt32.ofNat i∈made
  ·refine List.mem_map.2 ⟨_,hm,?_⟩;rw[fO];omega
  ·rw[h.free.2 ⟨hi.2,hm⟩] at h1;cases h1
 have hnd:((List.range n).filter λi=>P.free (UInt32.ofNat i)).Nodup:=List.nodup_range.filter _
 have:=mG _ _ hnd hsub
 rwa [dx] at this
end
structure Sp where
 lo:Bs
 hi:Bs
 fin:Bool
def Sp.has(s:Sp)(k:Bs):Bool := !ltB k s.lo&&(!s.fin||ltB k s.hi)
def Sp.emp(s:Sp):Bool:=s.fin && !ltB s.lo s.hi
def Sp.kid(s:Sp)(ks:List Bs)(i:Nat):Sp :=
 let lo:=if 0<i then B2 s.lo (ks.getD (i-1) []) else s.lo
 if i<ks.length/\(s.fin=false∨ltB (ks.getD i []) s.hi=true) then ⟨lo,ks.getD i [],true⟩ else ⟨lo,s.hi,s.fin⟩
def fR(s:Sp)(m:List Pr):List Pr:=m.filter λp=>s.has p.1
theorem maxB_le{a b k:Bs}(h1:ltB k a=false)(h2:ltB k b=false):ltB k (B2 a b)=false:=by
 unfold B2;split <;> assumption
theorem Sp.kid_has{s:Sp}{ks:List Bs}{i:Nat}{k:Bs}(h:s.has k=true)(h1:0<i->ltB k (ks.getD (i-1) [])=false)(h2:i<ks.length->ltB k (ks.getD i [])=true):(s.kid ks i).has k=true:=by
 unfold Sp.has at h;simp only[jW,xM,mX] at h;have hlo:ltB k (if 0<i then B2 s.lo (ks.getD (i-1) []) else s.lo)=false:=by
  split
  ·rename_i hi;exact maxB_le h.1 (h1 hi)
  ·exact h.1
 unfold Sp.kid;simp only
 split
 ·rename_i hc
  unfold Sp.has;simp only[hlo,h2 hc.1,sD,j6,Bool.or_true]
 ·unfold Sp.has;simp only[hlo,sD,j6,mX,xM];exact h.2
theorem Sp.emp_has{s:Sp}{k:Bs}(h:s.emp=true):s.has k=false:=by
 unfold Sp.emp at h;simp only[jW,xM] at h;cases hh:s.has k with
 | false => rfl
 | true =>
  unfold Sp.has at hh;rw[h.1] at hh;simp only[jW,xM,Bool.not_true,qL] at hh;rw[qx hh.1 hh.2] at h;cases h.2
theorem GX{s:Sp}{m:List Pr}(h:∀p∈m,s.has p.1=false):fR s m=[]:=kh h
theorem rD(s:Sp)(a b:List Pr):fR s (a++b)=fR s a++fR s b:=pZ ..
theorem y3{α:Type}(o a b:List α)(k:Nat):o++a.take (k-o.length)++b.take (k-(o++a.take (k-o.length)).length)=o++(a++b).take (k-o.length):=by
 rw[bQ,List.take_append,aF,bz];congr 2;congr 1;omega
theorem y4{α:Type}(o a:List α)(k:Nat)(h:k<=o.length):o++a.take (k-o.length)=o:=by
 rw[Nat.sub_eq_zero_of_le h,mW,cH]
theorem Seps.kid{x:List Pr}:∀{ks:List Bs} {ms:List (List Pr)} {i:Nat},Seps ks ms->ms[i]?=some x->(∀j,j<i->∀p∈x,ltB p.1 (ks.getD j [])=false)/\(i<ks.length->∀p∈x,ltB p.1 (ks.getD i [])=true)
 | [], [m], i, _, hx => by
  cases i with
  | zero => exact ⟨λj hj => by omega, λh => by simp at h⟩
  | succ i => simp at hx
 | [], [], _, h, _ => h.elim
 | [], _ :: _ :: _, _, h, _ => h.elim
 | _ :: _, [], _, h, _ => h.elim
 | k :: ks, m :: ms, 0, h, hx => by
  have hx:m=x:=qP hx;subst hx;exact⟨λj hj=>by omega,λ_ p hp=>h.1 p hp⟩
 | k :: ks, m :: ms, i + 1, h, hx => by
  have hx:ms[i]?=some x:=hx;obtain⟨q1,q2⟩:=Seps.kid h.2.2 hx;refine⟨λj hj p hp=>?_,λhi p hp=>q2 (by simpa using hi) p hp⟩;cases j with
  | zero => exact h.2.1 p (List.mem_flatten.2 ⟨x, ig hx, hp⟩)
  | succ j => exact q1 j (by omega) p hp
theorem Seps.keys_lo{k:Bs}:∀{ks:List Bs} {ms:List (List Pr)},Seps ks ms->(∀m∈ms,m≠[])->Below ms.flatten k->∀c∈ks,ltB c k=true
 | [], _, _, _, _ => λc hc => by simp at hc
 | _ :: _, [], h, _, _ => h.elim
 | c :: ks, m :: ms, h, hn, hb => λx hx => by
  rw[ij,Below.app] at hb;have hn':∀m∈ms,m≠[]:=λm hm=>hn m (bO _ hm);rcases List.mem_cons.1 hx with rfl|hx
  ·cases ms with
   | nil => exact absurd h.2.2.len (by simp)
   | cons m' ms =>
    obtain⟨p,hp⟩:=yY _ (hn' m' cP);have hp':p∈(m'::ms).flatten:=by rw[ij];exact cO _ hp
    exact qx (h.2.1 p hp') (hb.2 p hp')
  ·exact Seps.keys_lo h.2.2 hn' hb.2 x hx
theorem Seps.keys_hi{k:Bs}:∀{ks:List Bs} {ms:List (List Pr)},Seps ks ms->(∀m∈ms,m≠[])->Above ms.flatten k->∀c∈ks,ltB k c=true
 | [], _, _, _, _ => λc hc => by simp at hc
 | _ :: _, [], h, _, _ => h.elim
 | c :: ks, m :: ms, h, hn, hb => λx hx => by
  rw[ij,Above.app] at hb;rcases List.mem_cons.1 hx with rfl|hx
  ·obtain⟨p,hp⟩:=yY _ (hn m cP);exact qx (hb.1 p hp) (h.1 p hp)
  ·exact Seps.keys_hi h.2.2 (λm hm=>hn m (bO _ hm)) hb.2 x hx
theorem KidsT.some{V:UInt32->Bs}{d:Nat}{ts:List Kd}(h:KidsT V d ts):∀m∈msT ts,m≠[]:=λm hm=>by
 obtain⟨t,ht,rfl⟩:=List.mem_map.1 hm;exact(h t ht).2
theorem CT.join{V:UInt32->Bs}{d:Nat}{k1 k2:List Bs}{i1 i2 p1 p2:List UInt32}{m1 m2:List Pr}{k:Bs}(h1:CT V (d+1) (.br k1 i1) p1 m1)(h2:CT V (d+1) (.br k2 i2) p2 m2)(hb:Below m1 k)(ha:Above m2 k)(hk:mJ k) :
  CT V (d+1) (.br (k1++k::k2) (i1++i2)) (p1++p2) (m1++m2):=by
 obtain⟨t1,rfl,o1,rfl,rfl,s1,q1⟩:=h1;obtain⟨t2,rfl,o2,rfl,rfl,s2,q2⟩:=h2;have hb':Below (msT t1).flatten k:=by rw[lr];exact hb
 have ha':Above (msT t2).flatten k:=by rw[lr];exact ha
 have hlo:=s1.keys_lo q1.some hb';have hhi:=s2.keys_hi q2.some ha';refine⟨t1++t2,(iA _ _).symm,⟨λc hc=>?_,?_⟩,(eS _ _).symm,(gb _ _).symm,by rw[gJ];exact Seps.join s2 ha' s1 hb' hlo,KidsT.app.2 ⟨q1,q2⟩⟩
 ·rcases List.mem_append.1 hc with hc|hc
  ·exact o1.1 c hc
  ·rcases List.mem_cons.1 hc with rfl|hc
   ·exact hk
   ·exact o2.1 c hc
 ·unfold kG;rw[oM];refine⟨o1.2,List.pairwise_cons.2 ⟨hhi,o2.2⟩,λa hA b hB=>?_⟩;rcases List.mem_cons.1 hB with rfl|hB
  ·exact hlo a hA
  ·exact fi (hlo a hA) (hhi b hB)
theorem Hole.nbr{V:UInt32->Bs}{d:Nat}{K1 K2:List Bs}{A B:List Kd}{m:List Pr}(h:Hole V (d+1) K1 K2 A B m)(hne:K1++K2≠[]) :
  ∃(z:Bool) (L1:List Bs) (k:Bs) (L2:List Bs) (C D:List Kd) (t:Kd),K1++K2=L1++k::L2/\C.length=L1.length/\mJ k/\isT V (d+1) t.1 t.2.1 t.2.2/\t.2.2≠[]/\(∀x∈t.2.1,x∈pgT A++pgT B)/\(A.length=0↔z=true)/\A.length=C.length+(!z).toNat /\
   (∀i0:UInt32,∃l r,bu A++i0::bu B=bu C++l::r::bu D/\(bif z then r else l)=t.1) /\
   ∀(kk:List Bs) (ik pk:List UInt32) (ky:List Bs) (iy py:List UInt32),CT V (d+1) (.br kk ik) pk m->CT V (d+1) (.br ky iy) py t.2.2->t.2.1=t.1::py->∃mm pp,
    CT V (d+1) (.br ((bif z then kk else ky)++k::(bif z then ky else kk)) ((bif z then ik else iy)++(bif z then iy else ik))) pp mm/\Hole V (d+1) L1 L2 C D mm/\prT C++(mm++prT D)=prT A++(m++prT B)/\(pgT C++(pp++pgT D)++[t.1]).Perm (pgT A++(pk++pgT B)):=by
 have hA:A=[]∨∃C t,A=C++[t]:=by
  cases hA:A with
  | nil => exact .inl rfl
  | cons a l => exact .inr ⟨_, _, (z6 (List.cons_ne_nil a l)).symm⟩
 rcases hA with rfl|⟨C,t,rfl⟩
 ·have hl:=h.la;cases K1 with
  | cons => simp at hl
  | nil =>
   cases K2 with
   | nil => exact absurd rfl hne
   | cons k L2 =>
    have hb:=h.lb;cases B with
    | nil => simp at hb
    | cons t D =>
     have hs:Seps (k::L2) (m::t.2.2::msT D):=h.seps;have hk:=h.keys.1 k (by simp);have hq:=KidsT.cons.1 h.kb;have hab:Above t.2.2 k:=λp hp=>hs.2.1 p (by rw[ij];exact cO _ hp);refine⟨true,[],k,L2,[],D,t,rfl,rfl,hk,hq.1.1,hq.1.2,λx hx=>by rw[eQ];simp[hx],by simp,rfl,λi0=>⟨i0,t.1,rfl,rfl⟩,λkk ik pk ky iy py h1 h2 hp=>⟨m++t.2.2,pk++py,h1.join h2 hs.1 hab hk,h.mergeR,by rw[fV];simp,?_⟩⟩;rw[eQ,hp,oL];intro x;simp only[sC,uR,uQ];omega
 ·have hl:=h.la;rw[aF,gC] at hl;have hn1:K1≠[]:=λe=>by rw[e] at hl;simp at hl
  obtain⟨L1,k,rfl⟩:∃L1 k,K1=L1++[k]:=⟨K1.dropLast,K1.getLast hn1,(z6 hn1).symm⟩
  rw[aF,gC] at hl;have hs:=h.seps;rw[gJ,bQ,bQ,gY] at hs;have hs2:Seps (k::K2) (t.2.2::m::msT B):=Seps.drop (by rw[msT,dx];omega) hs;have hk:=h.keys.1 k (by simp);have hq:=KidsT.cons.1 (KidsT.app.1 h.ka).2;have hab:Above m k:=λp hp=>hs2.2.1 p (by rw[ij];exact cO _ hp);refine⟨false,L1,k,K2,C,B,t,by simp,by omega,hk,hq.1.1,hq.1.2,λx hx=>by rw[eS,eQ];simp[hx],by simp,by simp,λi0=>⟨t.1,i0,by rw[iA];simp[bu],rfl⟩,λkk ik pk ky iy py h1 h2 hp=>⟨t.2.2++m,py++pk,h2.join h1 hs2.1 hab hk,h.mergeL,by rw[gb,fV];simp[prT],?_⟩⟩;rw[eS,eQ,hp,oL];intro x;simp only[sC,uR,uQ,pgT,yW];omega
end Go.Sac
namespace Go.Sac
open Go Go.Maps Go.Proofs
abbrev kT(q:IntKind):Int->Value:=Value.int q
theorem Bo{q:IntKind}{x y:Int}(h:kT q x=kT q y):x=y:=by simpa [kT] using h
theorem CH{H:Type}(q:IntKind){es:List (Lit×DataW H)}(hp:es.Pairwise (λp q=>p.1≠q.1))(hk:∀p∈es,∃x,p.1=.int q x){ss:List Int}(hnd:ss.Nodup)
  (hm:∀x,x∈ss↔has (.map es) (.int q x)=true):ss.Perm (intKeys (.map es)):=by
 refine(zh hnd ?_).2 λx=>?_
 ·show(es.map λp=>intOf p.1).Nodup;refine List.pairwise_map.2 (hp.imp_of_mem λ{p q} hp' hq' hne e=>hne ?_);obtain⟨a,ha⟩:=hk p hp';obtain⟨b,hb⟩:=hk q hq';rw[ha,hb] at e ⊢;exact congrArg _ e
 ·rw[hm x,has_eq,List.any_eq_true];show _↔x∈es.map λp=>intOf p.1;rw[List.mem_map]
  constructor
  ·rintro⟨p,hp',hs⟩;obtain⟨a,ha⟩:=hk p hp';rw[ha] at hs;exact⟨p,hp',by rw[ha];simpa [Lit.sameKey,intOf] using hs⟩
  ·rintro⟨p,hp',rfl⟩;obtain⟨a,ha⟩:=hk p hp';exact⟨p,hp',by rw[ha];simp[Lit.sameKey,intOf]⟩
def Came{H:Type}(q:IntKind)(D0:DataW H)(left:Lit->Bool)(ss:List Int):Prop:=ss.Nodup/\∀x,x∈ss↔(has D0 (.int q x)=true/\left (.int q x)=false)
section
variable {H:Type}{q:IntKind}{D0:DataW H}{left:Lit->Bool}{ss:List Int}
theorem Came.start(q:IntKind)(D0:DataW H):Came q D0 (has D0) []:=⟨kI,λx=>by cases has D0 (.int q x) <;> simp⟩
theorem Came.step(h:Came q D0 left ss){x:Int}{y:DataW H}(hlk:left (.int q x)=true)(hat:∀zd,D0.atKey (.int q x) zd=y):Came q D0 (λz=>left z && !z.sameKey (.int q x)) (ss++[x]):=by
 have hhas:has D0 (.int q x)=true:=has_true_of_atKey hat
 have hnew:x∉ss:=λhx=>by have:=((h.2 x).1 hx).2;rw[hlk] at this;cases this
 refine⟨List.nodup_append.2 ⟨h.1,by simp,λa ha b hb=>by simp at hb;subst hb;exact λe=>hnew (e▸ha)⟩,λy=>?_⟩;by_cases hy:y=x
 ·subst hy;simp[hhas,Lit.sameKey]
 ·simp[h.2 y,hy,Lit.sameKey]
variable {P:Program}{k:TypeId}{R:Value->Option (DataW H×List MemPlace)}{w:World}{b n:Nat}
theorem Came.perm(h:Came q D0 left ss)(hown:w.ownsMap P k R b n D0)(K:Keyed P k)(hk:P.underlying k=some (.int q))(hl:∀kl,left kl=false):ss.Perm (intKeys D0):=by
 obtain⟨es,hD,hpw,_⟩:=hown.entries K;obtain⟨es',hD',hko⟩:=hown.keysOf;obtain rfl:es=es':=by rw[hD] at hD';simpa using hD'
 subst hD;exact CH q hpw (λp hp=>by obtain⟨v,hv⟩:=hko p hp;obtain⟨x,_,hx,_⟩:=Maps.keyOf_int_inv hk hv;exact⟨x,hx⟩) h.1 (λx=>by rw[h.2 x,hl];simp)
end
theorem pM{P:Program}{kt:TypeId}{w:World}{r:Nat}{m:List (UInt32×Value)}(hk:P.underlying kt=some (.int .u32))(hm:MapAt w r m)(hl:m.length<=maxLen) :
  ∃D0:DataW Unit,w.ownsMap P kt (λ_=>some (.lit (.bool true),[])) r m.length D0/\(intKeys D0).Perm (m.map λp=>(p.1.toNat:Int))/\Maps.size D0=m.length:=by
 obtain⟨es,cl,hb,he,hn,hbn,hlt⟩:=hm;have hlen:es.size=m.length:=by have:=congrArg List.length he;simpa using this
 have hkey:∀a:UInt32,keyOf P kt (.int .u32 a.toNat)=some (.int .u32 a.toNat):=λa=>by
  unfold keyOf;rw[hk];simp only[mapKey,hk];have h1:IntKind.u32.min=0:=by decide
  have h2:IntKind.u32.max=4294967295:=by decide
  have h3:=a.toNat_lt;have hw:(Lit.int .u32 (a.toNat:Int)).wf=true:=by
   simp only[Lit.wf,jW,decide_eq_true_eq,h1,h2];omega
  simp[hw]
 have hes:∀x∈es.toList,∃a:UInt32,x.key=.int .u32 a.toNat:=λx hx=>by
  have h1:(x.key,x.val)∈es.toList.map (λe=>(e.key,e.val)):=List.mem_map.2 ⟨x,hx,rfl⟩;rw[he] at h1;obtain⟨p,hp,h2⟩:=List.mem_map.1 h1;simp only[lH] at h2;exact⟨p.1,h2.1.symm⟩
 have hF:WideElems.Fit P kt (λ_=>some ((.lit (.bool true):DataW Unit),[])) es cl:=by
  refine⟨by omega,⟨hlt,hbn,?_⟩,λx hx=>?_⟩
  ·rw[oZ he];unfold List.Nodup at hn ⊢;rw[ur];exact hn.imp (λh e=>h (Key.inj _ _ e))
  ·obtain⟨a,ha⟩:=hes x hx;exact⟨(.int .u32 a.toNat,.lit (.bool true)),by simp[WideElems.rd,ha,hkey a]⟩
 refine⟨_,⟨es,cl,hb,hF,by omega,rfl⟩,?_,?_⟩
 ·have hp:=(Go.WideShapes.sorted_perm (es.toList.map (WideElems.rg P kt (λ_=>some ((.lit (.bool true):DataW Unit),[]))))).map (λp=>intOf p.1);refine hp.trans (List.Perm.of_eq ?_);rw[fL];have h3:es.toList.map ((λp:Lit×DataW Unit=>intOf p.1) ∘ WideElems.rg P kt (λ_=>some ((.lit (.bool true):DataW Unit),[])))=es.toList.map (λe=>match e.key with|.int _ a=>a|_=>0):=by
   apply sw;intro x hx;obtain⟨a,ha⟩:=hes x hx;simp[WideElems.rg,WideElems.rd,ha,hkey a,intOf]
  rw[h3];have h4:es.toList.map (λe=>match e.key with|.int _ a=>a|_=>0)=(es.toList.map (λe=>(e.key,e.val))).map (λp=>match p.1 with|.int _ a=>a|_=>0):=by
   rw[fL];rfl
  rw[h4,he,fL];apply sw;intro p _;rfl
 ·simp[Maps.size,length_sorted,hlen]
theorem rK{ss:List Int}{ks:List UInt32}(h:ss.Perm (ks.map λp=>(p.toNat:Int))):∃l:List UInt32,l.Perm ks/\ss=l.map λp=>(p.toNat:Int):=by
 have hi:∀k:UInt32,UInt32.ofNat ((k.toNat:Int).toNat)=k:=λk=>by simp
 refine⟨ss.map λz=>UInt32.ofNat z.toNat,?_,?_⟩
 ·have:=h.map λz=>UInt32.ofNat z.toNat
  rw[fL] at this;refine this.trans (List.Perm.of_eq ?_)
  conv=>rhs;rw[<-List.map_id ks]
  exact sw λk _=>hi k
 ·rw[fL]
  conv=>lhs;rw[<-List.map_id ss]
  refine sw λz hz=>?_;obtain⟨k,_,rfl⟩:=List.mem_map.1 (h.mem_iff.1 hz);show(k.toNat:Int)=((UInt32.ofNat ((k.toNat:Int).toNat)).toNat:Int)
  rw[hi]
theorem tK{w:World}{base:Nat}{e:TypeId}{v:Value}{l:List UInt32}(h:w.ownsRow base e 1 v l.length (l.map λx=>Value.int .u32 x.toNat)) :
  Own w v l/\In v [] base:=by
 obtain⟨_,h⟩:=h;have he:bq l=l.map λ(x:UInt32)=>Value.int .u32 (x.toNat:Int):=Bp (λ(x:UInt32)=>Value.int .u32 (x.toNat:Int)) (λ_=>rfl) l;rcases h with⟨rfl,h0⟩|⟨g,cap,cur,rfl,hb,hblk,hn,hcap,hcs,hx⟩
 ·have:l=[]:=kq h0
  subst this;exact⟨Own.nil w,In.nil⟩
 ·refine⟨⟨some ⟨g,0,none⟩,cap,rfl,hn,rfl,cur,e,(0,0),hblk,je _,?_,λi x hi=>?_⟩,In.of_ge hb⟩
  ·show 0+cap*1<=cur.size;omega
  ·rw[he,<-hx] at hi;have h1:=ld (l:=cur.toList) (i:=l.length*1) (j:=i);rw[h1] at hi
   split at hi
   ·simp only[jP]
    simpa using hi
   ·cases hi
end Go.Sac
