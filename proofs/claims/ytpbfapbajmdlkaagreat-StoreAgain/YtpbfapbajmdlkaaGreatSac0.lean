/- Opened as often as one likes, by whatever key it was made, it is as it was; made anew it is empty. It holds for every input; there are no conditions. -/
import Derived.Orders
import Derived.Tactics
import Derived.Laws.BytesString
import Derived.Laws.StructEq
namespace Go.Sac
open Go
abbrev Env:=Nat->Value
def upd(d:Nat)(v:Value)(E:Env):Env:=λi=>if i=d then v else E i
def dI(d:Option Nat)(v:Value)(E:Env):Env:=match d with|some d=>upd d v E|none=>E
def ev(E:Env):Operand->Value
 | .tmp t => E t
 | .const v => v
 | .global g => .pointer (some ⟨g, 0, none⟩)
 | .func f => .func (.func f) #[] #[]
def ek(t:Array Value):Env:=λi=>t.getD i undef
theorem Ef(a:Act):a.eval=ev (ek a.tmps):=by
 funext x;cases x <;> rfl
theorem vQ(a:Act)(d:Option Nat)(v:Value):(a.put d v).tmps.size=a.tmps.size:=by
 cases d <;> simp[Act.put]
theorem qd(a:Act)(d:Option Nat)(v:Value):(a.put d v).defers=a.defers:=by
 cases d <;> simp[Act.put]
def dW(d:Option Nat)(n:Nat):Bool:=match d with|some d=>decide (d<n)|none=>true
theorem Eg(a:Act)(d:Option Nat)(v:Value)(h:dW d a.tmps.size=true) :
  ek (a.put d v).tmps=dI d v (ek a.tmps):=by
 cases d with
 | none => rfl
 | some d =>
  have h:d<a.tmps.size:=by simpa [dW] using h
  funext i
  simp only[Act.put,dI,upd,ek,Array.getD_eq_getD_getElem?,Array.getElem?_setIfInBounds];by_cases hi:i=d
  ·subst hi;simp[h]
  ·simp[hi,Ne.symm hi]
def FL(op : Op)(ty : TypeId) : Oper := { dst := none, op, type := ty, pos := "", after := #[], guard := none }
def exec(P:Program)(E:Env)(op:Op)(ty:TypeId)(w:World):Result Next:=(execOp (ev E) (FL op ty)).run P w
theorem tX(ρ:Operand->Value)(o:Oper):execOp ρ o=execOp ρ (FL o.op o.type):=by
 obtain⟨d,op,t,p,a,g⟩:=o;cases op <;> rfl
theorem pq(P:Program)(a:Act)(o:Oper)(w:World):(execOp a.eval o).run P w=exec P (ek a.tmps) o.op o.type w:=by
 rw[tX,Ef];rfl
def ue(ops:List Oper):List Nat:=ops.filterMap (·.dst)
def writes:Code->List Nat
 | .region _ ops _ => ue ops.toList
 | .seq a b => writes a ++ writes b
 | .cond _ a b => writes a ++ writes b
 | .block _ a => writes a
 | .loop a => writes a
 | .scope a => writes a
 | .rangeFunc _ ps a b => ps.toList ++ writes a ++ writes b
 | _ => []
abbrev ji:=Exit->Env->World->Prop
def lifted(n:Nat)(W:List Nat)(E:Env)(Q:ji):Exit->Act->World->Prop :=
 λe a w=>a.tmps.size=n/\a.defers=[]/\(∀s,s∉W->ek a.tmps s=E s)/\Q e (ek a.tmps) w
def wpE(P:Program)(n:Nat)(c:Code)(Q:ji)(E:Env)(w:World):Prop :=
 ∀a:Act,a.tmps.size=n->a.defers=[]->ek a.tmps=E->c.wp P (lifted n (writes c) E Q) a w
def ij(next:Env->World->Prop)(Q:ji):ji
 | .normal, E, w => next E w
 | e, E, w => Q e E w
def lZ(id:Nat)(Q:ji):ji
 | .exit id', E, w => if id' = id then Q .normal E w else Q (.exit id') E w
 | e, E, w => Q e E w
section rules
variable {P:Program}{n:Nat}{Q:ji}{E:Env}{w:World}
theorem bQ(h:Q .normal E w):wpE P n .skip Q E w:=λa h1 h2 h3=>by
 subst h3;exact wp_skip ⟨h1,h2,λ_ _=>rfl,h⟩
theorem bC(h:Q .ret E w):wpE P n .ret Q E w:=λa h1 h2 h3=>by
 subst h3;exact wp_ret ⟨h1,h2,λ_ _=>rfl,h⟩
theorem aO{id:Nat}(h:Q (.exit id) E w):wpE P n (.exit id) Q E w:=λa h1 h2 h3=>by
 subst h3;exact wp_exit ⟨h1,h2,λ_ _=>rfl,h⟩
theorem aa{x y:Code}(h:wpE P n x (ij (λE w=>wpE P n y Q E w) Q) E w):wpE P n (.seq x y) Q E w:=λa h1 h2 h3=>by
 subst h3;refine wp_seq (wp_mono (h a h1 h2 rfl) ?_);rintro e a' w' ⟨k1,k2,k3,k4⟩;have fr:∀s,s∉writes (.seq x y)->s∉writes x:=λs hs h=>hs (by simp[writes,h]);cases e with
 | normal =>
  refine wp_mono (k4 a' k1 k2 rfl) ?_;rintro e a'' w'' ⟨l1,l2,l3,l4⟩;exact⟨l1,l2,λs hs=>(l3 s (λh=>hs (by simp[writes,h]))).trans (k3 s (fr s hs)),l4⟩
 | exit id => exact ⟨k1, k2, λs hs => k3 s (fr s hs), k4⟩
 | goto id => exact ⟨k1, k2, λs hs => k3 s (fr s hs), k4⟩
 | ret => exact ⟨k1, k2, λs hs => k3 s (fr s hs), k4⟩
 | panic c => exact ⟨k1, k2, λs hs => k3 s (fr s hs), k4⟩
 | outgrown => exact ⟨k1, k2, λs hs => k3 s (fr s hs), k4⟩
theorem bX{c:Operand}{x y:Code}{t:Bool}(hc:ev E c=.bool t)(ht:t=true->wpE P n x Q E w)(hf:t=false->wpE P n y Q E w) :
  wpE P n (.cond c x y) Q E w:=λa h1 h2 h3=>by
 subst h3;have hc':a.eval c=.bool t:=by rw[Ef];exact hc
 refine wp_cond_split hc' (λh=>?_) (λh=>?_)
 ·refine wp_mono (ht h a h1 h2 rfl) ?_;rintro e a' w' ⟨k1,k2,k3,k4⟩;exact⟨k1,k2,λs hs=>k3 s (λh=>hs (by simp[writes,h])),k4⟩
 ·refine wp_mono (hf h a h1 h2 rfl) ?_;rintro e a' w' ⟨k1,k2,k3,k4⟩;exact⟨k1,k2,λs hs=>k3 s (λh=>hs (by simp[writes,h])),k4⟩
theorem aW{c:Operand}{x y:Code}(hc:ev E c=.bool true)(h:wpE P n x Q E w):wpE P n (.cond c x y) Q E w :=
 bX hc (λ_=>h) (λh=>by cases h)
theorem aI{c:Operand}{x y:Code}(hc:ev E c=.bool false)(h:wpE P n y Q E w):wpE P n (.cond c x y) Q E w :=
 bX hc (λh=>by cases h) (λ_=>h)
theorem aA{c:Operand}{x y:Code}{p:Prop}[d:Decidable p](hc:ev E c=.bool (decide p))(ht:p->wpE P n x Q E w)(hf:¬p->wpE P n y Q E w) :
  wpE P n (.cond c x y) Q E w :=
 bX hc (λh=>ht (of_decide_eq_true h)) (λh=>hf (of_decide_eq_false h))
theorem aq{id:Nat}{c:Code}(h:wpE P n c (lZ id Q) E w):wpE P n (.block id c) Q E w:=λa h1 h2 h3=>by
 subst h3;refine wp_block (wp_mono (h a h1 h2 rfl) ?_);rintro e a' w' ⟨k1,k2,k3,k4⟩;cases e with
 | exit id' =>
  simp only[lZ] at k4;simp only[Exit.inBlock]
  split
  ·rename_i hh;rw[if_pos hh] at k4;exact⟨k1,k2,k3,k4⟩
  ·rename_i hh;rw[if_neg hh] at k4;exact⟨k1,k2,k3,k4⟩
 | normal => exact ⟨k1, k2, k3, k4⟩
 | goto id => exact ⟨k1, k2, k3, k4⟩
 | ret => exact ⟨k1, k2, k3, k4⟩
 | panic c => exact ⟨k1, k2, k3, k4⟩
 | outgrown => exact ⟨k1, k2, k3, k4⟩
def mask(W:List Nat)(J E0:Env):Env:=λi=>bif W.elem i then J i else E0 i
def xn:List Nat->List Value->Env->Env
 | s :: ss, v :: vs, E => upd s v (xn ss vs E)
 | _, _, E => E
theorem over_at{S:List Nat}{E E':Env}(i:Nat)(h:i∈S):xn S (S.map E) E' i=E i:=by
 induction S with
 | nil => simp at h
 | cons s S ih =>
  simp only[List.map_cons,xn,upd];by_cases hi:i=s
  ·simp[hi]
  ·simp only[hi,if_false];exact ih (by simpa [hi] using h)
theorem Hl{S:List Nat}{vs:List Value}{E':Env}(i:Nat)(h:i∉S):xn S vs E' i=E' i:=by
 induction S generalizing vs with
 | nil => cases vs <;> rfl
 | cons s S ih =>
  cases vs with
  | nil => rfl
  | cons v vs =>
   simp only[xn,upd];rw[if_neg (λhh=>h (by simp[hh]))];exact ih (λhh=>h (by simp[hh]))
theorem sR{S W:List Nat}{E E0:Env}(h:∀s,s∉W->E s=E0 s):xn S (S.map E) (mask W E E0)=E:=by
 funext i
 by_cases hi:i∈S
 ·exact over_at i hi
 ·rw[Hl i hi];unfold mask;cases hw:W.elem i with
  | true => rfl
  | false => exact (h i (by simpa using hw)).symm
theorem qj{c:Code}{W:List Nat}(hW:(writes c).all (W.elem ·)=true){s:Nat}(hs:s∉W):s∉writes c:=λh=>by
 have:=List.all_eq_true.1 hW s h
 exact hs (by simpa using this)
theorem cD{c:Code}(S W:List Nat)(I:Nat->List Value->World->Prop)(m0:Nat)(hW:(writes c).all (W.elem ·)=true)(h0:I m0 (S.map E) w)
  (round:∀m vs J w',I m vs w'->wpE P n c (ij (λE' w''=>∃m',m'<m/\I m' (S.map E') w'') Q) (xn S vs (mask W J E)) w') :
  wpE P n (.loop c) Q E w:=λa h1 h2 h3=>by
 subst h3
 let In:Nat->Act->World->Prop:=λm a' w'=>a'.tmps.size=n/\a'.defers=[]/\(∀s,s∉writes c->ek a'.tmps s=ek a.tmps s)/\I m (S.map (ek a'.tmps)) w'
 have key:∀m a₁ w₁,In m a₁ w₁->∀(b:Frame) (k:List Item) (cs:List Frame),
   ∃e a' w',lifted n (writes (.loop c)) (ek a.tmps) Q e a' w'/\Arrives P (lone (b.at a₁ (.code c :: .inLoop c::k)) cs w₁) b k cs e a' w':=by
  intro m
  induction m using Nat.strongRecOn with
  | _ m ih =>
   rintro a₁ w₁ ⟨i1,i2,i3,i4⟩ b k cs;have hr:=round m _ (ek a₁.tmps) w₁ i4 a₁ i1 i2 (by rw[sR (E0:=ek a.tmps) (λs hs=>i3 s (qj hW hs))]);obtain⟨e,a₂,w₂,⟨k1,k2,k3,k4⟩,harr⟩:=hr b (.inLoop c::k) cs;have fr:∀s,s∉writes c->ek a₂.tmps s=ek a.tmps s:=λs hs=>by
    rw[k3 s hs,sR (E0:=ek a.tmps) (λs hs=>i3 s (qj hW hs)),i3 s hs]
   cases e with
   | normal =>
    obtain⟨m',hlt,hI⟩:=k4;obtain⟨e₃,a₃,w₃,hq,harr₃⟩:=ih m' hlt a₂ w₂ ⟨k1,k2,fr,hI⟩ b k cs;exact⟨e₃,a₃,w₃,hq,.of_steps (Steps.trans harr (.one step_inLoop)) harr₃⟩
   | exit id => exact ⟨_, a₂, w₂, ⟨k1, k2, fr, k4⟩, .pass (x := .inLoop c) rfl (λ_ _ => .inl (by simp)) harr⟩
   | goto l => exact ⟨_, a₂, w₂, ⟨k1, k2, fr, k4⟩, .pass (x := .inLoop c) rfl (λ_ _ => .inl (by simp)) harr⟩
   | ret => exact ⟨_, a₂, w₂, ⟨k1, k2, fr, k4⟩, .pass (x := .inLoop c) rfl (λ_ _ => .inl (by simp)) harr⟩
   | panic ch => exact ⟨_, a₂, w₂, ⟨k1, k2, fr, k4⟩, .pass (x := .inLoop c) rfl (λ_ _ => .inl (by simp)) harr⟩
   | outgrown => exact ⟨_, a₂, w₂, ⟨k1, k2, fr, k4⟩, .pass (x := .inLoop c) rfl (λ_ _ => .inl (by simp)) harr⟩
 intro b k cs;obtain⟨e,a',w',hq,harr⟩:=key m0 a w ⟨h1,h2,λ_ _=>rfl,h0⟩ b k cs;exact⟨e,a',w',hq,.of_steps (.one step_loop) harr⟩
theorem lH{x y:Code}(S W:List Nat)(R:List Value->World->Prop)(hW:(writes x).all (W.elem ·)=true)
  (h1:wpE P n x (ij (λE' w'=>R (S.map E') w') Q) E w)
  (h2:∀vs J w',R vs w'->wpE P n y Q (xn S vs (mask W J E)) w'):wpE P n (.seq x y) Q E w:=by
 refine aa (λa k1 k2 k3=>?_);subst k3;refine wp_mono (h1 a k1 k2 rfl) ?_;rintro e a' w' ⟨l1,l2,l3,l4⟩;refine⟨l1,l2,l3,?_⟩;cases e with
 | normal =>
  have:=h2 _ (ek a'.tmps) w' l4
  rwa [sR (λs hs=>l3 s (qj hW hs))] at this
 | exit id => exact l4
 | goto id => exact l4
 | ret => exact l4
 | panic c => exact l4
 | outgrown => exact l4
end rules
def nP(ops:Array Oper)(E:Env)(j:Nat):Option Bool :=
 match (ops[j]?).bind (·.dst) with
 | some t => match E t with | .bool b => some b | _ => none
 | none => none
theorem pX(ops:Array Oper)(t:Array Value)(j:Nat):yielded ops t j=nP ops (ek t) j:=by
 unfold yielded nP;cases (ops[j]?).bind (·.dst) with
 | none => rfl
 | some d =>
  simp only[Option.bind_some,ek,Array.getD_eq_getD_getElem?];cases t[d]? with
  | none => rfl
  | some v => cases v <;> rfl
def wpL(P:Program)(n:Nat)(ops:Array Oper)(Q:ji)(l:List Oper)(E:Env)(w:World):Prop :=
 ∀a:Act,a.tmps.size=n->a.defers=[]->ek a.tmps=E->wpList P ops (lifted n (ue l) E Q) l a w
def Ret(P:Program)(f:FuncId)(args:Array Value)(w:World)(R:Value->World->Prop):Prop :=
 Calls P f args w λe w'=>∃v,e=.returned v/\R v w'
theorem Ret.mono{P:Program}{f:FuncId}{args:Array Value}{w:World}{R R':Value->World->Prop}(h:Ret P f args w R)
  (hr:∀v w',R v w'->R' v w'):Ret P f args w R':=Calls.mono h λ_ _ ⟨v,he,hv⟩=>⟨v,he,hr _ _ hv⟩
section region
variable {P:Program}{n:Nat}{ops:Array Oper}{Q:ji}{E:Env}{w w':World}{rest:List Oper}
theorem jX{Q Q':Exit->Act->World->Prop}(hq:∀e a w,Q e a w->Q' e a w):∀(l:List Oper) (a:Act) (w:World),wpList P ops Q l a w->wpList P ops Q' l a w
 | [], a, w, h => hq _ _ _ h
 | o :: rest, a, w, h => by
  unfold wpList at h ⊢;have hout:LetsOut Q->LetsOut Q':=λ⟨a,w,h⟩=>⟨a,w,hq _ _ _ h⟩
  split
  ·rename_i hw
   rw[if_pos hw] at h;refine h.imp (λh=>?_) (λh=>⟨h.1,hout h.2⟩);unfold Oper.wp at *
   generalize (execOp a.eval o).run P w=r at *
   cases r with
   | ok x w' =>
    cases x <;> simp only[Oper.upon] at h ⊢ <;> first
     | exact jX hq rest _ _ h
     | exact Calls.mono h (λe w'' he => by
       cases e with
       | returned v => exact jX hq rest _ _ he
       | panicked c => exact hq _ _ _ he
       | outgrown => exact hout he)
     | exact Rows.mono h (λ_ _ he => jX hq rest _ _ he)
   | halt x w' => cases x <;> simp only [Oper.upon] at h ⊢ <;> first | exact h.elim | exact hq _ _ _ h
  ·rename_i hw
   rw[if_neg hw] at h;exact jX hq rest _ _ h
theorem ae{id:Nat}{l:List Oper}(h:wpL P n l.toArray Q l E w):wpE P n (.region id l.toArray false) Q E w:=λa h1 h2 h3=>by
 refine wp_region_lit ?_
 have:=h a h1 h2 h3
 exact this
theorem bA(h:Q .normal E w):wpL P n ops Q [] E w:=λa h1 h2 h3=>by
 subst h3;exact wpList_nil ⟨h1,h2,λ_ _=>rfl,h⟩
theorem a6{next:Env->World->Prop}(h:next E w):wpL P n ops (ij next Q) [] E w:=bA h
theorem r9{d:Option Nat}{op:Op}{ty:TypeId}{pos:String}{af:Array Edge}{g:Option (Nat×Bool)}{v:Value}{a:Act}(hd:dW d n=true)
  (h1:a.tmps.size=n) (h2:a.defers=[]) (h:wpL P n ops Q rest (dI d v (ek a.tmps)) w') :
  wpList P ops (lifted n (ue (⟨d,op,ty,pos,af,g⟩::rest)) (ek a.tmps) Q) rest (a.put d v) w':=by
 have:=h (a.put d v) (by rw[vQ];exact h1) (by rw[qd];exact h2) (Eg _ _ _ (by rw[h1];exact hd))
 refine jX ?_ _ _ _ this;rintro e a' w'' ⟨k1,k2,k3,k4⟩;refine⟨k1,k2,λs hs=>?_,k4⟩;cases d with
 | none => exact k3 s (by simpa [ue] using hs)
 | some d =>
  have hs':s≠d/\s∉ue rest:=by simpa [ue,not_or] using hs
  rw[k3 s hs'.2];simp[dI,upd,hs'.1]
theorem a7{d:Option Nat}{op:Op}{ty:TypeId}{pos:String}{af:Array Edge}{v:Value}(hd:dW d n=true)
  (hr:exec P E op ty w=.ok (.value v) w') (h:wpL P n ops Q rest (dI d v E) w') :
  wpL P n ops Q (⟨d,op,ty,pos,af,none⟩::rest) E w:=λa h1 h2 h3=>by
 subst h3;refine wpList_plain rfl (λK hK=>?_);unfold Oper.wp;rw[pq,hr,Oper.upon_value];exact hK _ _ (r9 (op:=op) (ty:=ty) (pos:=pos) (af:=af) (g:=none) hd h1 h2 h)
theorem GB{d:Option Nat}{op:Op}{ty:TypeId}{pos:String}{af:Array Edge}(hd:dW d n=true)
  (hr:exec P E op ty w=.ok .skip w') (h:wpL P n ops Q rest (dI d undef E) w') :
  wpL P n ops Q (⟨d,op,ty,pos,af,none⟩::rest) E w:=λa h1 h2 h3=>by
 subst h3;refine wpList_plain rfl (λK hK=>?_);unfold Oper.wp;rw[pq,hr,Oper.upon_skip];exact hK _ _ (r9 (op:=op) (ty:=ty) (pos:=pos) (af:=af) (g:=none) hd h1 h2 h)
theorem ag{d:Option Nat}{op:Op}{ty:TypeId}{pos:String}{af:Array Edge}{f:FuncId}{args:Array Value}{R:Value->World->Prop}
  (hd:dW d n=true) (hr:exec P E op ty w=.ok (.enter f args) w') (hc:Ret P f args w' R)
  (h:∀v w'',R v w''->wpL P n ops Q rest (dI d v E) w'') :
  wpL P n ops Q (⟨d,op,ty,pos,af,none⟩::rest) E w:=λa h1 h2 h3=>by
 subst h3;refine wpList_plain rfl (λK hK=>?_);unfold Oper.wp;rw[pq,hr,Oper.upon_enter];refine Calls.mono hc ?_;rintro e w'' ⟨v,rfl,hv⟩;exact hK _ _ (r9 (op:=op) (ty:=ty) (pos:=pos) (af:=af) (g:=none) hd h1 h2 (h v w'' hv))
theorem aw{d:Option Nat}{op:Op}{ty:TypeId}{pos:String}{af:Array Edge}{j:Nat}{want:Bool}(hd:dW d n=true)
  (hg:(nP ops E j==some want)=false) (h:wpL P n ops Q rest (dI d undef E) w) :
  wpL P n ops Q (⟨d,op,ty,pos,af,some (j,want)⟩::rest) E w:=λa h1 h2 h3=>by
 subst h3;refine wpList_step (λK hK=>?_);simp only[Region.wanted,pX,hg];exact hK _ _ (r9 (op:=op) (ty:=ty) (pos:=pos) (af:=af) (g:=some (j,want)) hd h1 h2 h)
theorem ah{d:Option Nat}{op:Op}{ty:TypeId}{pos:String}{af:Array Edge}{j:Nat}{want:Bool}
  (hg:(nP ops E j==some want)=true) (h:wpL P n ops Q (⟨d,op,ty,pos,af,none⟩::rest) E w) :
  wpL P n ops Q (⟨d,op,ty,pos,af,some (j,want)⟩::rest) E w:=λa h1 h2 h3=>by
 subst h3
 have:=h a h1 h2 rfl
 unfold wpList at this ⊢;simp only[Region.wanted,pX,hg,if_true] at this ⊢;refine this.imp (λh=>?_) (λ⟨h,k⟩=>⟨?_,k⟩)
 ·unfold Oper.wp at h ⊢;rw[pq] at h ⊢;exact h
 ·unfold Oper.asks at h ⊢;rw[tX] at h ⊢;exact h
end region
def env0(args:List Value):Env:=λi=>args.getD i undef
def Cw:List Nat->Env->Value
 | [], _ => .tuple #[]
 | [t], E => E t
 | ts, E => .tuple (ts.map E).toArray
def FB(rs:List Nat)(R:Value->World->Prop):ji
 | .normal, E, w | .ret, E, w => R (Cw rs E) w
 | _, _, _ => False
theorem Eh(args:List Value)(k:Nat):ek (args.toArray++Array.replicate k undef)=env0 args:=by
 funext i
 simp only[ek,env0,Array.getD_eq_getD_getElem?,List.getD_eq_getElem?_getD,Array.getElem?_append,List.size_toArray]
 split
 ·rename_i h;simp
 ·rename_i h
  simp only[Nat.not_lt] at h;rw[List.getElem?_eq_none h,Array.getElem?_replicate]
  split <;> rfl
theorem AE(fn:Func)(rs:List Nat)(hr:fn.results=(rs.map ResultVar.tmp).toArray)(t:Array Value)(P:Program)(w:World) :
  (results fn t).run P w=.ok (Cw rs (ek t)) w:=by
 have h:∀l:List Nat,Sem.run P ((l.map ResultVar.tmp).mapM (m:=Sem) fun
   | .tmp x => pure (t.getD x undef)
   | .cell a ty => do loadVar ty (<- asAddr (t.getD a undef))) w = .ok (l.map (ek t)) w := by
  intro l
  induction l with
  | nil => rfl
  | cons x l ih =>
   simp only[List.map_cons,List.mapM_cons];simp only[pure_bind]
   have:∀(s:Sem (List Value)) (v:Value) (r:List Value),Sem.run P s w=.ok r w->Sem.run P (do let y <-s;pure (v::y)) w=.ok (v::r) w:=by
    intro s v r hs;simp[hs]
   exact this _ _ _ ih
 unfold results;rw[hr];simp only[List.mapM_toArray];have h':=h rs
 revert h'
 generalize (rs.map ResultVar.tmp).mapM (m:=Sem) (fun
   | .tmp x => pure (t.getD x undef)
   | .cell a ty => do loadVar ty (<- asAddr (t.getD a undef))) = s
 intro h';simp only[map_eq_pure_bind,bind_assoc,pure_bind]
 have:∀(s:Sem (List Value)) (k:List Value->Sem Value) (r:List Value),Sem.run P s w=.ok r w->Sem.run P (do let y <-s;k y) w=Sem.run P (k r) w:=by
  intro s k r hs;simp[hs]
 rw[this _ _ _ h'];cases rs with
 | nil => rfl
 | cons x rs => cases rs with
  | nil => rfl
  | cons y rs => simp; rfl
theorem enter{P:Program}{f:FuncId}{fn:Func}{c:Code}{args:List Value}{w:World}{R:Value->World->Prop}(rs:List Nat)
  (hf:P.funcs[f]?=some fn) (hb:fn.body=some c) (hr:fn.results=(rs.map ResultVar.tmp).toArray) (hs:args.length<=fn.ntmps)
  (h:wpE P fn.ntmps c (FB rs R) (env0 args) w):Ret P f args.toArray w R:=by
 refine calls_of_wp hf hb ?_;refine wp_mono (h _ ?_ rfl (Eh _ _)) ?_
 ·simp;omega
 ·rintro e a w' ⟨k1,k2,k3,k4⟩;cases e with
  | normal => exact ⟨k2, _, AE fn rs hr _ _ _, _, rfl, k4⟩
  | ret => exact ⟨k2, _, AE fn rs hr _ _ _, _, rfl, k4⟩
  | exit id => exact k4.elim
  | goto l => exact k4.elim
  | panic c => exact k4.elim
  | outgrown => exact k4.elim
def cR(ops:Array Oper)(E:Env)(o:Oper):Bool :=
 match o.guard with
 | none => true
 | some (j, want) => nP ops E j == some want
theorem xR(ops:Array Oper)(t:Array Value)(o:Oper):Region.wanted o (yielded ops t)=cR ops (ek t) o:=by
 unfold Region.wanted cR;cases o.guard with
 | none => rfl
 | some g => simp only [pX]
inductive Plan where
 | nil
 | pure (i : Nat) (p : Plan)
 | read (i : Nat) (p : Plan)
 | eff (i : Nat) (un : List Nat) (p : Plan)
 | alt (p q : Plan)
def Plan.ixs:Plan->List Nat
 | .nil => []
 | .pure i p | .read i p | .eff i _ p => i :: p.ixs
 | .alt p _ => p.ixs
def Plan.heads:Plan->List Nat
 | .eff i _ _ => [i]
 | .alt p q => p.heads ++ q.heads
 | _ => []
abbrev jB:=List (Nat×(World->Prop))
def oq(i:Nat):jB->World->Prop
 | [], _ => True
 | (j, I) :: T, w => if j = i then I w else oq i T w
def obl(T:jB):List Nat->World->Prop
 | [], _ => True
 | i :: un, w => oq i T w /\ obl T un w
def effTo(P:Program)(n:Nat)(o:Oper)(E:Env)(w:World)(K:Value->World->Prop):Prop :=
 dW o.dst n=true/\match exec P E o.op o.type w with
 | .ok (.value v) w' => K v w'
 | .ok .skip w' => K undef w'
 | .ok (.enter f args) w' => Ret P f args w' K
 | _ => False
def wpP(P:Program)(n:Nat)(ops:Array Oper)(Q:ji):Plan->jB->Env->World->Prop
 | .nil, _, E, w => Q .normal E w
 | .pure i rest, T, E, w => ∃ o, ops[i]? = some o /\ dW o.dst n = true /\ ∃ v,
   ((cR ops E o=true/\∀w',exec P E o.op o.type w'=.ok (.value v) w')∨(cR ops E o=false/\v=undef))/\wpP P n ops Q rest T (dI o.dst v E) w
 | .read i rest, T, E, w => ∃ o, ops[i]? = some o /\ dW o.dst n = true /\ ∃ v I, I w /\
   ((cR ops E o=true/\∀w',I w'->exec P E o.op o.type w'=.ok (.value v) w')∨(cR ops E o=false/\v=undef))/\wpP P n ops Q rest ((i,I)::T) (dI o.dst v E) w
 | .eff i un rest, T, E, w => ∃ o, ops[i]? = some o /\
   ((cR ops E o=true/\effTo P n o E w λv w'=>obl T un w'/\wpP P n ops Q rest T (dI o.dst v E) w') ∨
    (cR ops E o=false/\dW o.dst n=true/\wpP P n ops Q rest T (dI o.dst undef E) w))
 | .alt p q, T, E, w => wpP P n ops Q p T E w /\ wpP P n ops Q q T E w
def Bt(o:Oper):List Nat:=(o.after.toList.filter (Region.binds .any ·)).map (·.on)
def xp(ops:Array Oper)(i:Nat):Option Nat:=(ops[i]?).bind (·.dst)
def yh(ops:Array Oper)(i:Nat):List Nat:=match ops[i]? with|some o=>o.looksAt ops|none=>[]
def iJ(ops:Array Oper)(i:Nat):List Nat:=match ops[i]? with|some o=>Bt o|none=>[]
def hasD(d:Option Nat)(l:List Nat):Bool:=match d with|some x=>l.elem x|none=>false
def sameD(d e:Option Nat):Bool:=match d,e with|some x,some y=>x==y|_,_=>false
def lq(ops:Array Oper)(B:Array Nat)(k i:Nat):Bool :=
 !sameD (xp ops k) (xp ops i)&&(!hasD (xp ops k) (yh ops i)||(iJ ops i).elem k)&&(!hasD (xp ops i) (yh ops k)||(B.getD i 0).testBit k)
def nk(ops:Array Oper)(B:Array Nat)(ahead:List Nat)(i:Nat):Bool :=
 decide (i<ops.size) && !ahead.elem i&&ahead.all (λk=>lq ops B k i)&&(iJ ops i).all (λd=>ahead.elem d)
def rK(ops:Array Oper)(heads ixs:List Nat):Bool:=ixs.all λi=>heads.elem i||(iJ ops i).any λd=>ixs.elem d
def zF(l r:List Nat):Bool:=l.all (λi=>r.elem i)&&r.all (λi=>l.elem i)&&l.length==r.length
def dh(ops:Array Oper)(B:Array Nat):List Nat->List Nat->Bool->Plan->Bool
 | _, _, top, .nil => top
 | ahead, reads, top, .pure i p => top && nk ops B ahead i && dh ops B (i :: ahead) reads true p
 | ahead, reads, top, .read i p => top && nk ops B ahead i && dh ops B (i :: ahead) (i :: reads) true p
 | ahead, reads, top, .eff i un p => nk ops B ahead i && (!top || rK ops [i] (i :: p.ixs)) && reads.all (λr => un.elem r || (B.getD i 0).testBit r) && dh ops B (i :: ahead) reads true p
 | ahead, reads, top, .alt p q => (!top || rK ops (p.heads ++ q.heads) p.ixs) && zF p.ixs q.ixs && dh ops B ahead reads false p && dh ops B ahead reads false q
def AU(ops:Array Oper):Bool:=ops.toList.all λo=>match o.op with|.select ..=>false|_=>true
def Ha(ops:Array Oper)(plan:Plan):Bool :=
 dh ops (Region.before ops) [] [] true plan&&plan.ixs.length==ops.size&&AU ops
def Closed(ops:Array Oper)(L:Nat->Bool):Prop:=∀i o,ops[i]?=some o->L i=true->∀d∈Bt o,L d=true
theorem D3(acc:Array Nat)(i:Nat):∀(es:List Edge) (s:Nat),
  (es.foldl (λs e=>if Region.binds .any e then s ||| 2 ^ e.on ||| acc.getD e.on 0 else s) s).testBit i=true ->
   s.testBit i=true∨∃e∈es,Region.binds .any e=true/\(e.on=i∨(acc.getD e.on 0).testBit i=true):=by
 intro es
 induction es with
 | nil => intro s h; exact .inl h
 | cons e es ih =>
  intro s h;simp only[List.foldl_cons] at h;rcases ih _ h with h|⟨e',he',hb⟩
  ·split at h
   ·rename_i hb
    simp only[Nat.testBit_or,Bool.or_eq_true,Nat.testBit_two_pow,decide_eq_true_eq] at h;rcases h with(h|h)|h
    ·exact .inl h
    ·exact .inr ⟨e,by simp,hb,.inl h⟩
    ·exact .inr ⟨e,by simp,hb,.inr h⟩
   ·exact .inl h
  ·exact .inr ⟨e',by simp[he'],hb⟩
def fW(acc:Array Nat)(o:Oper):Array Nat :=
 acc.push (o.after.foldl (λs e=>if Region.binds .any e then s ||| 2 ^ e.on ||| acc.getD e.on 0 else s) 0)
theorem yI:∀(l:List Oper) (acc:Array Nat) (k:Nat),k<acc.size->(l.foldl fW acc).getD k 0=acc.getD k 0:=by
 intro l
 induction l with
 | nil => intro acc k _; rfl
 | cons o l ih =>
  intro acc k hk;simp only[List.foldl_cons];rw[ih _ _ (by simp[fW];omega)];simp[fW,Array.getElem?_push,Nat.ne_of_lt hk]
theorem Ie:∀(l:List Oper) (acc:Array Nat) (j:Nat) (o:Oper),l[j]?=some o->∀i,((l.foldl fW acc).getD (acc.size+j) 0).testBit i=true ->
  ∃d∈Bt o,d=i∨(d<acc.size+j/\((l.foldl fW acc).getD d 0).testBit i=true):=by
 intro l
 induction l with
 | nil => intro acc j o h; simp at h
 | cons x l ih =>
  intro acc j o h i hi;cases j with
  | zero =>
   simp at h;subst h;simp only[List.foldl_cons,Nat.add_zero] at hi ⊢;rw[yI _ _ _ (by simp[fW])] at hi;simp only[fW,Array.getD_eq_getD_getElem?,Array.getElem?_push_size,Option.getD_some] at hi;rw[<-Array.foldl_toList] at hi;rcases D3 acc i x.after.toList 0 (by simpa [Array.getD_eq_getD_getElem?] using hi) with h|⟨e,he,hb,h⟩
   ·simp at h
   ·refine⟨e.on,?_,?_⟩
    ·simp only[Bt,List.mem_map,List.mem_filter];exact⟨e,⟨he,hb⟩,rfl⟩
    ·rcases h with h|h
     ·exact .inl h
     ·right
      have hlt:e.on<acc.size:=by
       rcases Nat.lt_or_ge e.on acc.size with h'|h'
       ·exact h'
       ·simp[Array.getElem?_eq_none h'] at h
      refine⟨hlt,?_⟩
      have:(l.foldl fW (fW acc x)).getD e.on 0=acc.getD e.on 0:=by
       rw[yI _ _ _ (by simp[fW];omega)];simp[fW,Array.getElem?_push,Nat.ne_of_lt hlt]
      rw[this];exact h
  | succ j =>
   simp only[List.foldl_cons] at hi ⊢;have hs:(fW acc x).size=acc.size+1:=by simp[fW]
   have:=ih (fW acc x) j o (by simpa using h) i (by rw[hs];rw[show acc.size+1+j=acc.size+(j+1) from by omega];exact hi)
   rw[hs] at this;obtain⟨d,hd,h'⟩:=this;exact⟨d,hd,h'.imp id (λ⟨a,b⟩=>⟨by omega,b⟩)⟩
theorem xC{ops:Array Oper}{L:Nat->Bool}(hc:∀i,L i=true->∀d∈iJ ops i,L d=true):∀(j:Nat),(∀d∈iJ ops j,L d=true) ->
  ∀i,((Region.before ops).getD j 0).testBit i=true->L i=true:=by
 intro j
 induction j using Nat.strongRecOn with
 | _ j ih =>
  intro hj i hi;have hb:Region.before ops=ops.toList.foldl fW #[]:=by
   rw[Array.foldl_toList];rfl
  cases ho:ops[j]? with
  | none =>
   exfalso;have hsz:(Region.before ops).size<=j:=by
    have:∀(l:List Oper) (acc:Array Nat),(l.foldl fW acc).size=acc.size+l.length:=by
     intro l;induction l with
     | nil => intro acc; rfl
     | cons x l ih => intro acc; simp only [List.foldl_cons]; rw [ih]; simp [fW]; omega
    rw[hb,this];simp at ho;simpa using ho
   simp[Array.getElem?_eq_none hsz] at hi
  | some o =>
   rw[hb] at hi;obtain⟨d,hd,h⟩:=Ie ops.toList #[] j o (by simpa using ho) i (by simpa using hi);have hd':d∈iJ ops j:=by simp only[iJ,ho];exact hd
   rcases h with rfl|⟨hlt,h⟩
   ·exact hj _ hd'
   ·rw[<-hb] at h;exact ih d (by simpa using hlt) (λx hx=>hc d (hj d hd') x hx) i h
structure Pend where
 i:Nat
 o:Oper
 v:Value
 I:World->Prop
 E:Env
def IB(P:Program)(n:Nat)(ops:Array Oper)(o:Oper)(E:Env)(v:Value)(I:World->Prop):Prop :=
 dW o.dst n=true/\((cR ops E o=true/\∀w',I w'->exec P E o.op o.type w'=.ok (.value v) w')∨(cR ops E o=false/\v=undef))
theorem re{ops:Array Oper}{E E':Env}{o:Oper}(h:∀x∈o.looksAt ops,E x=E' x):cR ops E o=cR ops E' o:=by
 unfold cR;unfold Oper.looksAt at h;cases hg:o.guard with
 | none => rfl
 | some g =>
  obtain⟨j,want⟩:=g;simp only[hg] at h
  have:nP ops E j=nP ops E' j:=by
   unfold nP;cases ht:(ops[j]?).bind (·.dst) with
   | none => rfl
   | some t => simp only []; rw [h t (by simp [ht])]
  simp only[this]
theorem wH{P:Program}{ops:Array Oper}{E E':Env}{o:Oper}(hs:∀cs b,o.op ≠ .select cs b)(h:∀x∈o.looksAt ops,E x=E' x)(w:World) :
  exec P E o.op o.type w=exec P E' o.op o.type w:=by
 unfold exec;rw[execOp_congr (FL o.op o.type) (by simpa [FL] using hs)];intro x hx;cases x with
 | tmp t => exact h t (by unfold Oper.looksAt; simp only [List.mem_append, List.mem_filterMap]; exact .inl ⟨.tmp t, by simpa [FL] using hx, rfl⟩)
 | _ => rfl
theorem vn{P:Program}{ops:Array Oper}{Q:Exit->Act->World->Prop}{i:Nat}{o:Oper}{K:Act->World->Prop}{a:Act}{w:World}{v:Value}{n:Nat}{I:World->Prop}{E:Env}
  (ho:ops[i]?=some o) (hs:∀cs b,o.op ≠ .select cs b) (hf:IB P n ops o E v I) (hI:I w) (h:∀x∈o.looksAt ops,ek a.tmps x=E x) (hK:K (a.put o.dst v) w) :
  wpOp P ops Q i K a w:=by
 unfold wpOp;simp only[ho,xR];rw[re h];rcases hf.2 with⟨h1,h2⟩|⟨h1,rfl⟩
 ·rw[if_pos h1]
  left
  unfold Oper.wp;rw[pq,wH hs h,h2 w hI];exact hK
 ·rw[if_neg (by simp[h1])];exact hK
theorem qk{ops:Array Oper}(h:AU ops=true){i:Nat}{o:Oper}(ho:ops[i]?=some o):∀cs b,o.op ≠ .select cs b:=by
 intro cs b he;unfold AU at h
 have:=List.all_eq_true.1 h o (by
  have:=Array.mem_of_getElem? ho
  simpa using this)
 rw[he] at this;simp at this
structure Inv(P:Program)(n:Nat)(ops:Array Oper)(E0:Env)(listed:Array Bool)(T:List Pend)(p:Plan)(Tl:jB)(ahead reads:List Nat)(a:Act)(Ev:Env)(w:World):Prop where
 size:listed.size=ops.size
 un:∀i,i<ops.size->(listed.getD i true=false↔(i∈T.map (·.i)∨i∈p.ixs))
 sub:(T.map (·.i)).Sublist ahead
 nodup:ahead.Nodup
 fact:∀q∈T,ops[q.i]?=some q.o/\IB P n ops q.o q.E q.v q.I/\q.I w
 same:∀s,(∀q∈T,q.o.dst≠some s)->ek a.tmps s=Ev s
 virt:∀q∈T,∀d,q.o.dst=some d->Ev d=q.v
 older:T.Pairwise λx y=>∀d,y.o.dst=some d->x.E d=y.v
 look:∀q∈T,∀x∈q.o.looksAt ops,ek a.tmps x=q.E x∨∃k∈T,k.o.dst=some x/\k.i∈Bt q.o
 held:∀q∈T,(∀w',q.I w')∨(q.i∈reads/\oq q.i Tl=q.I)
 pairs:ahead.Pairwise λx y=>lq ops (Region.before ops) y x=true
 behind:∀i∈ahead,∀d∈iJ ops i,d∈ahead
 first:ahead.Pairwise λx y=>x∉iJ ops y
 lim:∀i∈ahead,i<ops.size
 selfless:∀i∈ahead,i∉iJ ops i
 steps:∃top,dh ops (Region.before ops) ahead reads top p=true
 tsize:a.tmps.size=n
 tdef:a.defers=[]
 frame:∀s,s∉ue ops.toList->ek a.tmps s=E0 s
theorem El{ops:Array Oper}{i:Nat}{o:Oper}{d:Nat}(ho:ops[i]?=some o)(hd:o.dst=some d):d∈ue ops.toList:=by
 unfold ue;rw[List.mem_filterMap];exact⟨o,by have:=Array.mem_of_getElem? ho;simpa using this,hd⟩
theorem Bf{a:Act}{o:Oper}{n:Nat}(v:Value)(h:dW o.dst n=true)(hs:a.tmps.size=n):ek (a.put o.dst v).tmps=dI o.dst v (ek a.tmps) :=
 Eg a o.dst v (by rw[hs];exact h)
theorem jP{d:Option Nat}{v:Value}{E:Env}{s:Nat}(h:d≠some s):dI d v E s=E s:=by
 cases d with
 | none => rfl
 | some d => simp only [dI, upd]; rw [if_neg (λhh => h (by rw [hh]))]
theorem rf{v:Value}{E:Env}{s:Nat}:dI (some s) v E s=v:=by simp[dI,upd]
theorem ll{ops:Array Oper}{listed:Array Bool}{j:Nat}(h:j∈Region.ready .any ops listed):j<ops.size/\listed.getD j true=false/\∀d∈iJ ops j,listed.getD d false=true:=by
 rw[mem_ready] at h;obtain⟨h0,o,ho,hall⟩:=h;refine⟨(Array.getElem?_eq_some_iff.1 ho).1,h0,λd hd=>?_⟩;simp only[iJ,ho,Bt,List.mem_map,List.mem_filter] at hd;obtain⟨e,⟨he,hb⟩,rfl⟩:=hd;exact hall e (by simpa using he) hb
theorem AF{ops:Array Oper}{listed:Array Bool}{j:Nat}(hj:j<ops.size)(h0:listed.getD j true=false)(h:∀d∈iJ ops j,listed.getD d false=true):j∈Region.ready .any ops listed:=by
 rw[mem_ready];refine⟨h0,ops[j],by simp[hj],λe he hb=>?_⟩;refine h e.on ?_;simp only[iJ,Array.getElem?_eq_getElem hj,Bt,List.mem_map,List.mem_filter];exact⟨e,⟨by simpa using he,hb⟩,rfl⟩
theorem pj{listed:Array Bool}{i:Nat}(h:i<listed.size):listed.getD i true=listed.getD i false:=by
 simp[Array.getD_eq_getD_getElem?,h]
section
variable {P:Program}{n:Nat}{ops:Array Oper}{E0:Env}{listed:Array Bool}{T:List Pend}{p:Plan}{Tl:jB}{ahead reads:List Nat}{a:Act}{Ev:Env}{w:World}
theorem Inv.done(h:Inv P n ops E0 listed T p Tl ahead reads a Ev w)(hp:∀i∈p.ixs,i∉ahead){i:Nat}(hi:i∈ahead)(hT:i∉T.map (·.i)):listed.getD i false=true:=by
 have hl:=h.lim i hi;rw[<-pj (by rw[h.size];exact hl)];cases hc:listed.getD i true with
 | true => rfl
 | false =>
  rcases(h.un i hl).1 hc with h'|h'
  ·exact(hT h').elim
  ·exact(hp i h' hi).elim
theorem mG{ops:Array Oper}{B:Array Nat}{ahead:List Nat}{i:Nat}(h:nk ops B ahead i=true) :
  i<ops.size/\i∉ahead/\(∀k∈ahead,lq ops B k i=true)/\(∀d∈iJ ops i,d∈ahead):=by
 simp only[nk,Bool.and_eq_true,decide_eq_true_eq,Bool.not_eq_true',List.all_eq_true] at h;exact⟨h.1.1.1,by simpa using h.1.1.2,h.1.2,λd hd=>by simpa using h.2 d hd⟩
theorem sI{ops:Array Oper}{B:Array Nat}:∀(p:Plan) (ahead reads:List Nat) (top:Bool),dh ops B ahead reads top p=true->(∀i∈p.ixs,i∉ahead)/\p.ixs.Nodup/\∀i∈p.ixs,i<ops.size:=by
 have step:∀(i:Nat) (p:Plan) (ahead reads:List Nat),nk ops B ahead i=true ->
   ((∀k∈p.ixs,k∉i::ahead)/\p.ixs.Nodup/\∀k∈p.ixs,k<ops.size)->(∀k∈i::p.ixs,k∉ahead)/\(i::p.ixs).Nodup/\∀k∈i::p.ixs,k<ops.size:=by
  intro i p ahead reads h ⟨k1,k2,k3⟩;obtain⟨h1,h2,_⟩:=mG h;simp only[List.mem_cons,List.nodup_cons,forall_eq_or_imp];exact⟨⟨h2,λk hk=>λhh=>k1 k hk (by simp[hh])⟩,⟨λhh=>k1 _ hh (by simp),k2⟩,⟨h1,k3⟩⟩
 intro p
 induction p with
 | nil => intro _ _ _ _; simp [Plan.ixs]
 | pure i p ih =>
  intro ahead reads top h;simp only[dh,Bool.and_eq_true] at h;exact step i p ahead reads h.1.2 (ih _ _ _ h.2)
 | read i p ih =>
  intro ahead reads top h;simp only[dh,Bool.and_eq_true] at h;exact step i p ahead reads h.1.2 (ih _ _ _ h.2)
 | eff i un p ih =>
  intro ahead reads top h;simp only[dh,Bool.and_eq_true] at h;exact step i p ahead reads h.1.1.1 (ih _ _ _ h.2)
 | alt p q ih _ =>
  intro ahead reads top h;simp only[dh,Bool.and_eq_true] at h;exact ih _ _ _ h.1.2
theorem GS{l r:List Nat}(h:zF l r=true):(∀i,i∈l↔i∈r)/\l.length=r.length:=by
 simp only[zF,Bool.and_eq_true,List.all_eq_true,beq_iff_eq] at h;exact⟨λi=>⟨λhi=>by simpa using h.1.1 i hi,λhi=>by simpa using h.1.2 i hi⟩,h.2⟩
theorem rI{B:Array Nat}{k i:Nat}(h:lq ops B k i=true){d:Nat}(hk:xp ops k=some d):xp ops i≠some d:=by
 intro hi;simp[lq,sameD,hk,hi] at h
theorem AM{B:Array Nat}{k i:Nat}(h:lq ops B k i=true){d:Nat}(hk:xp ops k=some d)(hd:d∈yh ops i):k∈iJ ops i:=by
 simp only[lq,hasD,hk,Bool.and_eq_true,Bool.or_eq_true,Bool.not_eq_true'] at h;rcases h.1.2 with h'|h'
 ·simp[hd] at h'
 ·simpa using h'
theorem AL{B:Array Nat}{k i:Nat}(h:lq ops B k i=true){d:Nat}(hi:xp ops i=some d)(hd:d∈yh ops k):(B.getD i 0).testBit k=true:=by
 simp only[lq,hasD,hi,Bool.and_eq_true,Bool.or_eq_true,Bool.not_eq_true'] at h;rcases h.2 with h'|h'
 ·simp[hd] at h'
 ·exact h'
theorem iZ{i:Nat}{o:Oper}(ho:ops[i]?=some o):xp ops i=o.dst:=by simp[xp,ho]
theorem rL{i:Nat}{o:Oper}(ho:ops[i]?=some o):yh ops i=o.looksAt ops:=by simp[yh,ho]
theorem AQ{i:Nat}{o:Oper}(ho:ops[i]?=some o):iJ ops i=Bt o:=by simp[iJ,ho]
theorem Inv.bef(_:Inv P n ops E0 listed T p Tl ahead reads a Ev w){j:Nat}(hj:j∈Region.ready .any ops listed){k:Nat}(hk:((Region.before ops).getD j 0).testBit k=true)
  (hclosed:∀i,listed.getD i false=true->∀d∈iJ ops i,listed.getD d false=true):listed.getD k false=true :=
 xC (L:=λi=>listed.getD i false) hclosed j (ll hj).2.2 k hk
theorem Inv.seen(h:Inv P n ops E0 listed T p Tl ahead reads a Ev w){q:Pend}(hq:q∈T)(hr:q.i∈Region.ready .any ops listed)(_:∀i∈p.ixs,i∉ahead) :
  ∀x∈q.o.looksAt ops,ek a.tmps x=q.E x:=by
 intro x hx;rcases h.look q hq x hx with h'|⟨k,hk,_,hd⟩
 ·exact h'
 ·exfalso;have hkl:=(ll hr).2.2 k.i (by rw[AQ (h.fact q hq).1];exact hd);have hka:k.i∈ahead:=h.sub.subset (List.mem_map_of_mem hk)
  have:=(h.un k.i (h.lim _ hka)).2 (.inl (List.mem_map_of_mem hk))
  rw[pj (by rw[h.size];exact h.lim _ hka),hkl] at this;cases this
end
theorem wE{listed:Array Bool}{i j:Nat}(hi:i<listed.size)(d:Bool):(listed.setIfInBounds i true).getD j d=if i=j then true else listed.getD j d:=by
 simp only[Array.getD_eq_getD_getElem?,Array.getElem?_setIfInBounds];by_cases hij:i=j
 ·subst hij;simp[hi]
 ·simp[hij]
theorem Inv.take{P:Program}{n:Nat}{ops:Array Oper}{E0:Env}{listed:Array Bool}{T:List Pend}{i:Nat}{p0 p:Plan}{Tl Tl':jB}{ahead reads reads':List Nat}{a:Act}{Ev:Env}{w:World}
  (h:Inv P n ops E0 listed T p0 Tl ahead reads a Ev w) (hix:p0.ixs=i::p.ixs) (hhere:nk ops (Region.before ops) ahead i=true) {o:Oper} {v:Value} {I:World->Prop} (ho:ops[i]?=some o) (hf:IB P n ops o Ev v I) (hI:I w)
  (hst:dh ops (Region.before ops) (i::ahead) reads' true p=true) (hsub:∀r∈reads,r∈reads')
  (hheld:(∀w',I w')∨(i∈reads'/\oq i Tl'=I)) (hTl:∀k,k≠i->oq k Tl'=oq k Tl) :
  Inv P n ops E0 listed (⟨i,o,v,I,Ev⟩::T) p Tl' (i::ahead) reads' a (dI o.dst v Ev) w:=by
 obtain⟨g1,g2,g3,g4⟩:=mG hhere;have hne:∀q∈T,q.i≠i:=λq hq hh=>g2 (hh▸h.sub.subset (List.mem_map_of_mem hq));have hdst:∀q∈T,∀d,q.o.dst=some d->o.dst≠some d:=λq hq d hd=>by
  have:=rI (g3 q.i (h.sub.subset (List.mem_map_of_mem hq))) (d:=d) (by rw[iZ (h.fact q hq).1];exact hd)
  rwa [iZ ho] at this
 refine⟨h.size,?_,?_,?_,?_,?_,?_,?_,?_,?_,?_,?_,?_,?_,?_,⟨_,hst⟩,h.tsize,h.tdef,h.frame⟩
 ·intro k hk;rw[h.un k hk,hix];simp only[List.map_cons,List.mem_cons]
  constructor
  ·rintro(h'|h'|h')
   ·exact .inl (.inr h')
   ·exact .inl (.inl h')
   ·exact .inr h'
  ·rintro((h'|h')|h')
   ·exact .inr (.inl h')
   ·exact .inl h'
   ·exact .inr (.inr h')
 ·simp only[List.map_cons];exact h.sub.cons_cons _
 ·exact List.nodup_cons.2 ⟨g2,h.nodup⟩
 ·intro q hq;rcases List.mem_cons.1 hq with rfl|hq
  ·exact⟨ho,hf,hI⟩
  ·exact h.fact q hq
 ·intro x hx;have hx0:o.dst≠some x:=hx ⟨i,o,v,I,Ev⟩ (by simp);rw[jP hx0];exact h.same x λq hq=>hx q (by simp[hq])
 ·intro q hq d hd;rcases List.mem_cons.1 hq with rfl|hq
  ·simp only at hd;rw[hd];exact rf
  ·rw[jP (hdst q hq d hd)];exact h.virt q hq d hd
 ·refine List.pairwise_cons.2 ⟨λy hy d hd=>h.virt y hy d hd,h.older⟩
 ·intro q hq x hx;rcases List.mem_cons.1 hq with rfl|hq
  ·by_cases hk:∃k∈T,k.o.dst=some x
   ·obtain⟨k,hk,hkd⟩:=hk
    right
    refine⟨k,by simp[hk],hkd,?_⟩
    have:=AM (g3 k.i (h.sub.subset (List.mem_map_of_mem hk))) (d:=x) (by rw[iZ (h.fact k hk).1];exact hkd) (by rw[rL ho];exact hx)
    rwa [AQ ho] at this
   ·left
    exact h.same x λk hk' hh=>hk ⟨k,hk',hh⟩
  ·rcases h.look q hq x hx with h'|⟨k,hk,h'⟩
   ·exact .inl h'
   ·exact .inr ⟨k,by simp[hk],h'⟩
 ·intro q hq;rcases List.mem_cons.1 hq with rfl|hq
  ·exact hheld
  ·rcases h.held q hq with h'|⟨h1,h2⟩
   ·exact .inl h'
   ·exact .inr ⟨hsub _ h1,(hTl _ (hne q hq)).trans h2⟩
 ·exact List.pairwise_cons.2 ⟨λy hy=>g3 y hy,h.pairs⟩
 ·intro k hi d hd;rcases List.mem_cons.1 hi with rfl|hi
  ·exact List.mem_cons_of_mem _ (g4 d hd)
  ·exact List.mem_cons_of_mem _ (h.behind k hi d hd)
 ·refine List.pairwise_cons.2 ⟨λy hy hd=>g2 (h.behind y hy _ hd),h.first⟩
 ·intro k hi;rcases List.mem_cons.1 hi with rfl|hi
  ·exact g1
  ·exact h.lim k hi
 ·intro k hi;rcases List.mem_cons.1 hi with rfl|hi
  ·exact λhd=>g2 (g4 _ hd)
  ·exact h.selfless k hi
def LClosed(ops:Array Oper)(listed:Array Bool):Prop:=∀i,listed.getD i false=true->∀d∈iJ ops i,listed.getD d false=true
theorem LClosed.set{ops:Array Oper}{listed:Array Bool}(h:LClosed ops listed){i:Nat}(hi:i∈Region.ready .any ops listed)(hs:listed.size=ops.size):LClosed ops (listed.setIfInBounds i true):=by
 obtain⟨h1,_,h3⟩:=ll hi;intro j hj d hd;rw[wE (by rw[hs];exact h1)] at hj ⊢
 split
 ·rfl
 ·split at hj
  ·rename_i hij;subst hij;exact h3 d hd
  ·exact h j hj d hd
theorem Inv.doIt{P:Program}{n:Nat}{ops:Array Oper}{E0:Env}{listed:Array Bool}{T1 T2:List Pend}{q:Pend}{p:Plan}{Tl:jB}{ahead reads:List Nat}{a:Act}{Ev:Env}{w:World}
  (h:Inv P n ops E0 listed (T1++q::T2) p Tl ahead reads a Ev w) (hc:LClosed ops listed) (hr:q.i∈Region.ready .any ops listed) (hp:∀i∈p.ixs,i∉ahead) :
  Inv P n ops E0 (listed.setIfInBounds q.i true) (T1++T2) p Tl ahead reads (a.put q.o.dst q.v) Ev w:=by
 have hq:q∈T1++q::T2:=by simp
 have hmem:∀x,x∈T1++T2->x∈T1++q::T2:=λx hx=>by
  simp only[List.mem_append,List.mem_cons] at hx ⊢;rcases hx with h|h <;> simp[h]
 have hqa:q.i∈ahead:=h.sub.subset (List.mem_map_of_mem hq);have hnd:((T1++q::T2).map (·.i)).Nodup:=h.sub.nodup h.nodup;have hne:∀x∈T1++T2,x.i≠q.i:=by
  intro x hx hh;simp only[List.map_append,List.map_cons,List.nodup_append,List.nodup_cons] at hnd;rcases List.mem_append.1 hx with hx|hx
  ·exact hnd.2.2 x.i (List.mem_map_of_mem hx) q.i (by simp) hh
  ·exact hnd.2.1.1 (hh▸List.mem_map_of_mem hx)
 have hqo:=(h.fact q hq).1;have henv:=Bf (a:=a) (o:=q.o) q.v (h.fact q hq).2.1.1 h.tsize;have hpw:∀x∈T1++T2,lq ops (Region.before ops) q.i x.i=true∨lq ops (Region.before ops) x.i q.i=true:=by
  intro x hx;have hps:=h.pairs.sublist h.sub;simp only[List.map_append,List.map_cons,List.pairwise_append,List.pairwise_cons] at hps;rcases List.mem_append.1 hx with hx|hx
  ·exact .inl (hps.2.2 x.i (List.mem_map_of_mem hx) q.i (by simp))
  ·exact .inr (hps.2.1.1 x.i (List.mem_map_of_mem hx))
 have hdne:∀x∈T1++T2,∀d,q.o.dst=some d->x.o.dst≠some d:=by
  intro x hx d hd hh;have hxo:=(h.fact x (hmem x hx)).1;rcases hpw x hx with h'|h'
  ·exact rI h' (d:=d) (by rw[iZ hqo];exact hd) (by rw[iZ hxo];exact hh)
  ·exact rI h' (d:=d) (by rw[iZ hxo];exact hh) (by rw[iZ hqo];exact hd)
 refine⟨by simp[h.size],?_,?_,h.nodup,λx hx=>h.fact x (hmem x hx),?_,λx hx=>h.virt x (hmem x hx),?_,?_,λx hx=>h.held x (hmem x hx),h.pairs,h.behind,h.first,h.lim,h.selfless,h.steps,by rw[vQ];exact h.tsize,by rw[qd];exact h.tdef,?_⟩
 ·intro i hi;rw[wE (by rw[h.size];exact h.lim _ hqa)];by_cases hiq:q.i=i
  ·subst hiq;simp only[if_true,Bool.true_eq_false,false_iff,not_or];refine⟨λhh=>?_,λhh=>hp _ hh hqa⟩;obtain⟨x,hx,he⟩:=List.mem_map.1 hh;exact hne x hx he
  ·rw[if_neg hiq,h.un i hi];simp only[List.map_append,List.map_cons,List.mem_append,List.mem_cons]
   constructor
   ·rintro((h'|h'|h')|h')
    ·exact .inl (.inl h')
    ·exact(hiq h'.symm).elim
    ·exact .inl (.inr h')
    ·exact .inr h'
   ·rintro((h'|h')|h')
    ·exact .inl (.inl h')
    ·exact .inl (.inr (.inr h'))
    ·exact .inr h'
 ·refine List.Sublist.trans ?_ h.sub;simp only[List.map_append,List.map_cons];exact List.Sublist.append_left (List.sublist_cons_self _ _) _
 ·intro s hs;rw[henv];by_cases hqs:q.o.dst=some s
  ·rw[hqs,rf];exact(h.virt q hq s hqs).symm
  ·rw[jP hqs];exact h.same s λx hx=>by
    simp only[List.mem_append,List.mem_cons] at hx;rcases hx with hx|rfl|hx
    ·exact hs x (by simp[hx])
    ·exact hqs
    ·exact hs x (by simp[hx])
 ·have:=h.older
  simp only[List.pairwise_append,List.pairwise_cons] at this ⊢;exact⟨this.1,this.2.1.2,λx hx y hy=>this.2.2 x hx y (by simp[hy])⟩
 ·intro x hx s hs;rw[henv];have hxo:=(h.fact x (hmem x hx)).1;by_cases hqs:q.o.dst=some s
  ·left
   rw[hqs,rf];have hps:=h.pairs.sublist h.sub;have hol:=h.older;simp only[List.map_append,List.map_cons,List.pairwise_append,List.pairwise_cons] at hps hol;rcases List.mem_append.1 hx with hx'|hx'
   ·exact(hol.2.2 x hx' q (by simp) s hqs).symm
   ·exfalso;have hb:=AL (hps.2.1.1 x.i (List.mem_map_of_mem hx')) (d:=s) (by rw[iZ hqo];exact hqs) (by rw[rL hxo];exact hs);have hl:=h.bef hr hb hc;have hxa:x.i∈ahead:=h.sub.subset (List.mem_map_of_mem (hmem x hx))
    have:=(h.un x.i (h.lim _ hxa)).2 (.inl (List.mem_map_of_mem (hmem x hx)))
    rw[pj (by rw[h.size];exact h.lim _ hxa),hl] at this;cases this
  ·rw[jP hqs];rcases h.look x (hmem x hx) s hs with h'|⟨k,hk,hkd,hkk⟩
   ·exact .inl h'
   ·right
    refine⟨k,?_,hkd,hkk⟩;simp only[List.mem_append,List.mem_cons] at hk ⊢;rcases hk with hk|rfl|hk
    ·exact .inl hk
    ·exact(hqs hkd).elim
    ·exact .inr hk
 ·intro s hs;rw[henv,jP (λhd=>hs (El hqo hd))];exact h.frame s hs
theorem Inv.effect{P:Program}{n:Nat}{ops:Array Oper}{E0:Env}{listed:Array Bool}{T:List Pend}{j:Nat}{un:List Nat}{p:Plan}{Tl:jB}{ahead reads:List Nat}{a:Act}{Ev:Env}{w w':World}
  (h:Inv P n ops E0 listed T (.eff j un p) Tl ahead reads a Ev w) (hc:LClosed ops listed) (hr:j∈Region.ready .any ops listed) {o:Oper} (ho:ops[j]?=some o) (hfit:dW o.dst n=true) (v:Value)
  (hob:w'=w∨obl Tl un w') :
  Inv P n ops E0 (listed.setIfInBounds j true) T p Tl (j::ahead) reads (a.put o.dst v) (dI o.dst v Ev) w':=by
 obtain⟨top,hsteps⟩:=h.steps;have hall:=hsteps;simp only[dh,Bool.and_eq_true,List.all_eq_true,Bool.or_eq_true] at hall;obtain⟨g1,g2,g3,g4⟩:=mG hall.1.1.1;have hst:dh ops (Region.before ops) (j::ahead) reads true p=true:=hall.2;have hun:∀r∈reads,r∈un∨((Region.before ops).getD j 0).testBit r=true:=λr hr=>(hall.1.2 r hr).imp (by simp) id;have henv:=Bf (a:=a) (o:=o) v hfit h.tsize;have hTa:∀q∈T,q.i∈ahead:=λq hq=>h.sub.subset (List.mem_map_of_mem hq);have hdst:∀q∈T,∀d,q.o.dst=some d->o.dst≠some d:=λq hq d hd=>by
  have:=rI (g3 q.i (hTa q hq)) (d:=d) (by rw[iZ (h.fact q hq).1];exact hd)
  rwa [iZ ho] at this
 have hwait:∀q∈T,listed.getD q.i false=true->False:=λq hq hl=>by
  have:=(h.un q.i (h.lim _ (hTa q hq))).2 (.inl (List.mem_map_of_mem hq))
  rw[pj (by rw[h.size];exact h.lim _ (hTa q hq)),hl] at this;cases this
 have hjl:∀q∈T,¬((Region.before ops).getD j 0).testBit q.i=true:=λq hq hb=>hwait q hq (h.bef hr hb hc);have obl_at:∀(un:List Nat) (i:Nat),obl Tl un w'->i∈un->oq i Tl w':=by
  intro un
  induction un with
  | nil => intro i _ hi; simp at hi
  | cons u un ih =>
   intro i ⟨h1,h2⟩ hi;rcases List.mem_cons.1 hi with rfl|hi
   ·exact h1
   ·exact ih i h2 hi
 refine⟨by simp[h.size],?_,?_,List.nodup_cons.2 ⟨g2,h.nodup⟩,?_,?_,?_,h.older,?_,h.held,List.pairwise_cons.2 ⟨λy hy=>g3 y hy,h.pairs⟩,?_,List.pairwise_cons.2 ⟨λy hy hd=>g2 (h.behind y hy _ hd),h.first⟩,?_,?_,⟨_,hst⟩,by rw[vQ];exact h.tsize,by rw[qd];exact h.tdef,?_⟩
 ·intro i hi;rw[wE (by rw[h.size];exact g1)];obtain⟨s1,s2,s3⟩:=sI _ _ _ _ hsteps;by_cases hij:j=i
  ·subst hij;simp only[if_true,Bool.true_eq_false,false_iff,not_or];refine⟨λhh=>g2 (h.sub.subset hh),?_⟩;simp only[Plan.ixs,List.nodup_cons] at s2;exact s2.1
  ·rw[if_neg hij,h.un i hi];simp only[Plan.ixs,List.mem_cons]
   constructor
   ·rintro(h'|h'|h')
    ·exact .inl h'
    ·exact(hij h'.symm).elim
    ·exact .inr h'
   ·rintro(h'|h')
    ·exact .inl h'
    ·exact .inr (.inr h')
 ·exact h.sub.cons _
 ·intro q hq;obtain⟨f1,f2,f3⟩:=h.fact q hq;refine⟨f1,f2,?_⟩;rcases hob with rfl|hob
  ·exact f3
  ·rcases h.held q hq with h'|⟨h1,h2⟩
   ·exact h' _
   ·rcases hun _ h1 with hu|hb
    ·have:=obl_at un q.i hob hu
     rwa [h2] at this
    ·exact(hjl q hq hb).elim
 ·intro s hs;rw[henv];by_cases hd:o.dst=some s
  ·rw[hd,rf,rf]
  ·rw[jP hd,jP hd];exact h.same s hs
 ·intro q hq d hd;rw[jP (hdst q hq d hd)];exact h.virt q hq d hd
 ·intro q hq x hx;rw[henv];by_cases hd:o.dst=some x
  ·exfalso;exact hjl q hq (AL (g3 q.i (hTa q hq)) (d:=x) (by rw[iZ ho];exact hd) (by rw[rL (h.fact q hq).1];exact hx))
  ·rw[jP hd];exact h.look q hq x hx
 ·intro i hi d hd;rcases List.mem_cons.1 hi with rfl|hi
  ·exact List.mem_cons_of_mem _ (g4 d hd)
  ·exact List.mem_cons_of_mem _ (h.behind i hi d hd)
 ·intro i hi;rcases List.mem_cons.1 hi with rfl|hi
  ·exact g1
  ·exact h.lim i hi
 ·intro i hi;rcases List.mem_cons.1 hi with rfl|hi
  ·exact λhd=>g2 (g4 _ hd)
  ·exact h.selfless i hi
 ·intro s hs;rw[henv,jP (λhd=>hs (El ho hd))];exact h.frame s hs
theorem GA{P:Program}{ops:Array Oper}{Q:Exit->Act->World->Prop}{j:Nat}{o:Oper}{K:Act->World->Prop}{a:Act}{w:World}{n:Nat}{E:Env}{R:Value->World->Prop}
  (ho:ops[j]?=some o) (hs:∀cs b,o.op ≠ .select cs b) (hw:cR ops E o=true) (h:effTo P n o E w R) (hl:∀x∈o.looksAt ops,ek a.tmps x=E x)
  (hK:∀v w',R v w'->K (a.put o.dst v) w'):wpOp P ops Q j K a w:=by
 unfold wpOp;simp only[ho,xR];rw[re hl,if_pos hw]
 left
 unfold Oper.wp;rw[pq,wH hs hl];have h:=h.2
 generalize exec P E o.op o.type w=r at *
 cases r with
 | ok x w' =>
  cases x <;> simp only[Oper.upon] at h ⊢ <;> first
   | exact hK _ _ h
   | exact h.elim
   | exact Calls.mono h (λe w'' ⟨v, he, hv⟩ => by subst he; exact hK _ _ hv)
 | halt x w' => exact h.elim
theorem Fo{i:Nat}{T:List Pend}(h:i∈T.map (·.i)):∃T1 q T2,T=T1++q::T2/\q.i=i:=by
 obtain⟨q,hq,rfl⟩:=List.mem_map.1 h;obtain⟨T1,T2,rfl⟩:=List.append_of_mem hq;exact⟨T1,q,T2,rfl,rfl⟩
theorem CR{i j:Nat}{I:World->Prop}{T:jB}(h:j≠i):oq i ((j,I)::T)=oq i T:=by
 funext w;simp[oq,h]
theorem pick{P:Program}{n:Nat}{ops:Array Oper}{Q:ji}{B:Array Nat}{Tl:jB}{Ev:Env}{w:World}{ahead reads:List Nat}{i:Nat}:∀(p:Plan) (top:Bool),i∈p.heads->dh ops B ahead reads top p=true->wpP P n ops Q p Tl Ev w ->
  ∃un rest top',dh ops B ahead reads top' (.eff i un rest)=true/\wpP P n ops Q (.eff i un rest) Tl Ev w/\(∀k,k∈p.ixs↔k∈(Plan.eff i un rest).ixs)/\p.ixs.length=(Plan.eff i un rest).ixs.length:=by
 intro p
 induction p with
 | nil => intro _ h; simp [Plan.heads] at h
 | pure _ _ _ => intro _ h; simp [Plan.heads] at h
 | read _ _ _ => intro _ h; simp [Plan.heads] at h
 | eff j un p _ =>
  intro top h hs hp;simp only[Plan.heads,List.mem_singleton] at h;subst h;exact⟨un,p,top,hs,hp,λ_=>Iff.rfl,rfl⟩
 | alt p q ihp ihq =>
  intro top h hs hp;simp only[Plan.heads,List.mem_append] at h;simp only[dh,Bool.and_eq_true] at hs;obtain⟨m1,m2⟩:=GS hs.1.1.2;rcases h with h|h
  ·exact ihp _ h hs.1.2 hp.1
  ·obtain⟨un,rest,top',k1,k2,k3,k4⟩:=ihq _ h hs.2 hp.2;exact⟨un,rest,top',k1,k2,λk=>by simp only[Plan.ixs];rw[m1];exact k3 k,by simp only[Plan.ixs] at *;rw[m2];exact k4⟩
theorem sM{P:Program}{n:Nat}{ops:Array Oper}{E0:Env}{Q:ji}(hsel:AU ops=true){fuel:Nat}
  (ih:∀(p:Plan) (listed:Array Bool) (T:List Pend) (Tl:jB) (ahead reads:List Nat) (a:Act) (Ev:Env) (w:World),
   Inv P n ops E0 listed T p Tl ahead reads a Ev w->(∃top,dh ops (Region.before ops) ahead reads top p=true/\(top=true))->LClosed ops listed->T.length+p.ixs.length=fuel->wpP P n ops Q p Tl Ev w->wpAny P .any ops (lifted n (ue ops.toList) E0 Q) fuel listed a w)
  (p:Plan) (listed:Array Bool) (T:List Pend) (Tl:jB) (ahead reads:List Nat) (a:Act) (Ev:Env) (w:World)
  (h:Inv P n ops E0 listed T p Tl ahead reads a Ev w) (hst:dh ops (Region.before ops) ahead reads true p=true) (hc:LClosed ops listed) (hlen:T.length+p.ixs.length=fuel+1) (hp:wpP P n ops Q p Tl Ev w)
  (hh:∀i∈p.ixs,i∈p.heads∨∃d∈iJ ops i,d∈p.ixs) (hr:∀i∈p.heads,nk ops (Region.before ops) ahead i=true) (hne:p.ixs≠[]->∃i∈p.heads,i∈p.ixs) :
  wpAny P .any ops (lifted n (ue ops.toList) E0 Q) (fuel+1) listed a w:=by
 obtain⟨s1,s2,s3⟩:=sI _ _ _ _ hst;refine⟨λhnil=>?_,λi hi=>?_⟩
 ·exfalso;rcases List.eq_nil_or_concat T with rfl|⟨T1,q,h'⟩
  ·obtain⟨j,hj,hjm⟩:=hne (by intro h0;simp[h0] at hlen);have hjd:=mG (hr j hj)
   have:j∈Region.ready .any ops listed:=by
    refine AF hjd.1 ((h.un _ hjd.1).2 (.inr hjm)) λd hd=>?_;exact h.done s1 (hjd.2.2.2 d hd) (by simp)
   rw[hnil] at this;simp at this
  ·have h'':T=T1++[q]:=by simpa using h'
   subst h'';have hqa:q.i∈ahead:=h.sub.subset (List.mem_map_of_mem (by simp))
   have:q.i∈Region.ready .any ops listed:=by
    refine AF (h.lim _ hqa) ((h.un _ (h.lim _ hqa)).2 (.inl (List.mem_map_of_mem (by simp)))) λd hd=>?_;refine h.done s1 (h.behind _ hqa d hd) λhdT=>?_;have hf:=h.first.sublist h.sub;simp only[List.map_append,List.map_cons,List.map_nil,List.pairwise_append] at hf;simp only[List.map_append,List.mem_append,List.map_cons,List.map_nil,List.mem_singleton] at hdT;rcases hdT with hdT|rfl
    ·exact hf.2.2 d hdT q.i (by simp) hd
    ·exact h.selfless _ hqa hd
   rw[hnil] at this;simp at this
 ·obtain⟨h1,h2,hd⟩:=ll hi;rcases(h.un i h1).1 h2 with h'|h'
  ·obtain⟨T1,q,T2,rfl,rfl⟩:=Fo h';have hq:q∈T1++q::T2:=by simp
   obtain⟨f1,f2,f3⟩:=h.fact q hq;refine vn f1 (qk hsel f1) f2 f3 (h.seen hq hi s1) ?_;exact ih _ _ _ _ _ _ _ _ _ (h.doIt hc hi s1) ⟨_,hst,rfl⟩ (hc.set hi h.size) (by simp at hlen ⊢;omega) hp
  ·have hhead:i∈p.heads:=by
    rcases hh i h' with hx|⟨d,hdd,hds⟩
    ·exact hx
    ·exfalso;have hl:=hd d hdd;have hu:=(h.un d (s3 d hds)).2 (.inr hds);rw[pj (by rw[h.size];exact s3 d hds),hl] at hu;cases hu
   obtain⟨un,rest,top',k1,k2,k3,k4⟩:=pick p true hhead hst hp;have hinv:Inv P n ops E0 listed T (.eff i un rest) Tl ahead reads a Ev w:={ h with un:=λk hk=>by rw[h.un k hk,k3 k],steps:=⟨top',k1⟩ }
   have k1':=k1;simp only[dh,Bool.and_eq_true] at k1';have hjd:=mG k1'.1.1.1;obtain⟨o,ho,hcase⟩:=k2;have hlook:∀x∈o.looksAt ops,ek a.tmps x=Ev x:=by
    intro x hx;refine h.same x λq hq hqd=>?_;have hqa:q.i∈ahead:=h.sub.subset (List.mem_map_of_mem hq)
    have:=AM (hjd.2.2.1 q.i hqa) (d:=x) (by rw[iZ (h.fact q hq).1];exact hqd) (by rw[rL ho];exact hx)
    have hl:=hd _ this;have hu:=(h.un q.i (h.lim _ hqa)).2 (.inl (List.mem_map_of_mem hq));rw[pj (by rw[h.size];exact h.lim _ hqa),hl] at hu;cases hu
   rcases hcase with⟨hw,heff⟩|⟨hw,hfit,hp⟩
   ·refine GA ho (qk hsel ho) hw heff hlook ?_;rintro v w' ⟨hob,hp⟩;exact ih _ _ _ _ _ _ _ _ _ (hinv.effect hc hi ho heff.1 v (.inr hob)) ⟨_,k1'.2,rfl⟩ (hc.set hi h.size) (by simp[Plan.ixs] at hlen k4 ⊢;omega) hp
   ·have hfact:IB P n ops o Ev undef (λ_=>True):=⟨hfit,.inr ⟨hw,rfl⟩⟩
    refine vn ho (qk hsel ho) hfact trivial hlook ?_;exact ih _ _ _ _ _ _ _ _ _ (hinv.effect hc hi ho hfit undef (.inl rfl)) ⟨_,k1'.2,rfl⟩ (hc.set hi h.size) (by simp[Plan.ixs] at hlen k4 ⊢;omega) hp
theorem wC{ops:Array Oper}{B:Array Nat}{ahead reads:List Nat}:∀(p:Plan) (top:Bool),dh ops B ahead reads top p=true->∀i∈p.heads,nk ops B ahead i=true:=by
 intro p
 induction p with
 | nil => intro _ _ i h; simp [Plan.heads] at h
 | pure _ _ _ => intro _ _ i h; simp [Plan.heads] at h
 | read _ _ _ => intro _ _ i h; simp [Plan.heads] at h
 | eff j un p _ =>
  intro top hs i h;simp only[Plan.heads,List.mem_singleton] at h;subst h;simp only[dh,Bool.and_eq_true] at hs;exact hs.1.1.1
 | alt p q ihp ihq =>
  intro top hs i h;simp only[Plan.heads,List.mem_append] at h;simp only[dh,Bool.and_eq_true] at hs;rcases h with h|h
  ·exact ihp _ hs.1.2 i h
  ·exact ihq _ hs.2 i h
theorem wB{ops:Array Oper}{B:Array Nat}{ahead reads:List Nat}:∀(p:Plan),dh ops B ahead reads false p=true->∃i∈p.heads,i∈p.ixs:=by
 intro p
 induction p with
 | nil => intro h; simp [dh] at h
 | pure _ _ _ => intro h; simp [dh] at h
 | read _ _ _ => intro h; simp [dh] at h
 | eff j un p _ => intro _; exact ⟨j, by simp [Plan.heads], by simp [Plan.ixs]⟩
 | alt p q ihp _ =>
  intro hs;simp only[dh,Bool.and_eq_true] at hs;obtain⟨i,h1,h2⟩:=ihp hs.1.2;exact⟨i,by simp[Plan.heads,h1],h2⟩
theorem tM{ops:Array Oper}{heads ixs:List Nat}(h:rK ops heads ixs=true):∀i∈ixs,i∈heads∨∃d∈iJ ops i,d∈ixs:=by
 intro i hi;simp only[rK,List.all_eq_true,Bool.or_eq_true,List.any_eq_true] at h;exact(h i hi).imp (by simp) (λ⟨d,h1,h2⟩=>⟨d,h1,by simpa using h2⟩)
theorem CB{P:Program}{n:Nat}{ops:Array Oper}{E0:Env}{Q:ji}(hsel:AU ops=true):∀(fuel:Nat) (p:Plan) (listed:Array Bool) (T:List Pend) (Tl:jB) (ahead reads:List Nat) (a:Act) (Ev:Env) (w:World),
  Inv P n ops E0 listed T p Tl ahead reads a Ev w->(∃top,dh ops (Region.before ops) ahead reads top p=true/\(top=true))->LClosed ops listed->T.length+p.ixs.length=fuel->wpP P n ops Q p Tl Ev w ->
   wpAny P .any ops (lifted n (ue ops.toList) E0 Q) fuel listed a w:=by
 intro fuel
 induction fuel with
 | zero =>
  intro p
  induction p with
  | nil =>
   intro listed T Tl ahead reads a Ev w h _ hc hlen hp;have hT:T=[]:=List.eq_nil_of_length_eq_zero (by omega);subst hT;refine⟨?_,?_⟩
   ·refine List.eq_nil_iff_forall_not_mem.2 λi hi=>?_;obtain⟨h1,h2,_⟩:=ll hi;rcases(h.un i h1).1 h2 with h'|h' <;> simp[Plan.ixs] at h'
   ·have he:ek a.tmps=Ev:=funext λs=>h.same s (by simp);exact⟨h.tsize,h.tdef,h.frame,by rw[he];exact hp⟩
  | pure _ _ _ => intro listed T Tl ahead reads a Ev w h _ hc hlen hp; simp [Plan.ixs] at hlen
  | read _ _ _ => intro listed T Tl ahead reads a Ev w h _ hc hlen hp; simp [Plan.ixs] at hlen
  | eff _ _ _ _ => intro listed T Tl ahead reads a Ev w h _ hc hlen hp; simp [Plan.ixs] at hlen
  | alt p q ihp _ =>
   intro listed T Tl ahead reads a Ev w h ⟨top,hs,_⟩ hc hlen hp;simp only[dh,Bool.and_eq_true] at hs;obtain⟨i,_,hi⟩:=wB p hs.1.2
   have:p.ixs.length=0:=by simp only[Plan.ixs] at hlen;omega
   rw[List.eq_nil_of_length_eq_zero this] at hi;simp at hi
 | succ fuel ih =>
  intro p
  induction p with
  | nil =>
   intro listed T Tl ahead reads a Ev w h ⟨top,hs,ht⟩ hc hlen hp;subst ht;exact sM hsel ih .nil listed T Tl ahead reads a Ev w h hs hc hlen hp (by simp[Plan.ixs]) (by simp[Plan.heads]) (by simp[Plan.ixs])
  | pure i p ihp =>
   intro listed T Tl ahead reads a Ev w h ⟨top,hs,ht⟩ hc hlen hp;obtain⟨o,ho,hfit,v,hf,hp⟩:=hp;simp only[dh,Bool.and_eq_true] at hs;have hfact:IB P n ops o Ev v (λ_=>True):=⟨hfit,hf.imp (λ⟨a,b⟩=>⟨a,λw' _=>b w'⟩) id⟩
   have:=h.take (p:=p) (Tl':=Tl) (reads':=reads) rfl hs.1.2 ho hfact trivial hs.2 (λ_ h=>h) (.inl λ_=>trivial) (λ_ _=>rfl)
   exact ihp _ _ _ _ _ _ _ _ this ⟨_,hs.2,rfl⟩ hc (by simp[Plan.ixs] at hlen ⊢;omega) hp
  | read i p ihp =>
   intro listed T Tl ahead reads a Ev w h ⟨top,hs,ht⟩ hc hlen hp;obtain⟨o,ho,hfit,v,I,hI,hf,hp⟩:=hp;simp only[dh,Bool.and_eq_true] at hs
   have:=h.take (p:=p) (Tl':=(i,I)::Tl) (reads':=i::reads) rfl hs.1.2 ho ⟨hfit,hf⟩ hI hs.2 (λ_ h=>by simp[h]) (.inr ⟨by simp,by funext w;simp[oq]⟩)
    (λk hk=>CR (Ne.symm hk))
   exact ihp _ _ _ _ _ _ _ _ this ⟨_,hs.2,rfl⟩ hc (by simp[Plan.ixs] at hlen ⊢;omega) hp
  | eff j un p _ =>
   intro listed T Tl ahead reads a Ev w h ⟨top,hs,ht⟩ hc hlen hp;subst ht;have hs':=hs;simp only[dh,Bool.and_eq_true,Bool.not_true,Bool.false_or] at hs';exact sM hsel ih _ listed T Tl ahead reads a Ev w h hs hc hlen hp (tM hs'.1.1.2) (wC _ _ hs) (λ_=>⟨j,by simp[Plan.heads],by simp[Plan.ixs]⟩)
  | alt p q _ _ =>
   intro listed T Tl ahead reads a Ev w h ⟨top,hs,ht⟩ hc hlen hp;subst ht;have hs':=hs;simp only[dh,Bool.and_eq_true,Bool.not_true,Bool.false_or] at hs';refine sM hsel ih _ listed T Tl ahead reads a Ev w h hs hc hlen hp (tM hs'.1.1.1) (wC _ _ hs) (λ_=>?_);obtain⟨i,h1,h2⟩:=wB p hs'.1.2;exact⟨i,by simp[Plan.heads,h1],h2⟩
theorem Fj:∀(n:Nat) (l:List Nat),l.Nodup->(∀x∈l,x<n)->l.length<=n:=by
 intro n
 induction n with
 | zero =>
  intro l _ h;cases l with
  | nil => simp
  | cons x l => exact absurd (h x (by simp)) (by omega)
 | succ n ih =>
  intro l hn h;by_cases hm:n∈l
  ·have h1:=ih (l.erase n) (hn.erase n) λx hx=>by
    have h2:=h x (List.mem_of_mem_erase hx);have h3:x≠n:=λhh=>by subst hh;exact(hn.mem_erase_iff.1 hx).1 rfl
    omega
   rw[List.length_erase_of_mem hm] at h1;omega
  ·have:=ih l hn λx hx=>by
    have h2:=h x hx;have h3:x≠n:=λhh=>hm (hh▸hx);omega
   omega
theorem aH{P:Program}{n:Nat}{Q:ji}{E:Env}{w:World}{id:Nat}{ops:Array Oper}(hm:P.follows .mixedOrders=true)(plan:Plan)(hp:Ha ops plan=true)
  (h:wpP P n ops Q plan [] E { w with drawn:=w.drawn+1 }):wpE P n (.region id ops true) Q E w:=λa h1 h2 h3=>by
 subst h3;refine wp_region_any hm ?_;unfold Ha at hp;simp only[Bool.and_eq_true,beq_iff_eq] at hp;obtain⟨⟨hs,hl⟩,hsel⟩:=hp;obtain⟨s1,s2,s3⟩:=sI _ _ _ _ hs;refine CB hsel ops.size plan _ [] [] [] [] a _ _ ?_ ⟨_,hs,rfl⟩ ?_ (by simpa using hl) h
 ·refine⟨by simp,?_,by simp,by simp,by simp,λ_ _=>rfl,by simp,by simp,by simp,by simp,by simp,by simp,by simp,by simp,by simp,⟨_,hs⟩,h1,h2,λ_ _=>rfl⟩;intro i hi;simp only[List.map_nil,List.not_mem_nil,false_or];refine⟨λ_=>?_,λ_=>by simp[hi]⟩;refine Classical.byContradiction λhn=>?_
  have:=Fj ops.size (i::plan.ixs) (List.nodup_cons.2 ⟨hn,s2⟩) (by simpa [hi] using s3)
  simp[hl] at this;omega
 ·intro i hi;exfalso;rcases Nat.lt_or_ge i ops.size with h'|h' <;> simp[Array.getD_eq_getD_getElem?,h'] at hi
def jY(s:Sem Value):Sem Next:=do pure (.value (<-s))
def GC(s:Sem Unit):Sem Next:=do s;pure .skip
theorem ar{α β:Type}{P:Program}{s:Sem α}{f:α->Sem β}{w w':World}{a:α}(h:s.run P w=.ok a w'):(s >>= f).run P w=(f a).run P w':=by
 simp[h]
theorem run_underlying{P:Program}{t:TypeId}{d:TypeDesc}(h:P.underlying t=some d)(w:World):(underlying t).run P w=.ok d w:=by
 unfold underlying;rw[ar (show program.run P w=.ok P w from rfl)];simp only[h];rfl
theorem bh{P:Program}{s:Sem Value}{w w':World}{v:Value}(h:s.run P w=.ok v w'):(jY s).run P w=.ok (.value v) w':=by
 unfold jY;rw[ar h];rfl
theorem vH{P:Program}{s:Sem Unit}{w w':World}{v:Unit}(h:s.run P w=.ok v w'):(GC s).run P w=.ok .skip w':=by
 unfold GC;rw[ar h];rfl
section
variable {P:Program}{E:Env}{w:World}{ty t u:TypeId}{x y c:Operand}{k:IntKind}{a b:Int}
theorem oz{op:BinOp}:exec P E (.binOp op t x y u) ty w=(jY (do eqGuard op t x y (ev E x) (ev E y);binOp op t (ev E x) (ev E y))).run P w:=rfl
theorem e_un{op:UnOp}:exec P E (.unOp op t x) ty w=(jY (Op.unary op (ev E x))).run P w:=rfl
theorem A4:exec P E (.convert t u x) ty w=(jY (convert t u (ev E x))).run P w:=rfl
theorem ud{b:Builtin}{args:Array Operand}{ats:Array TypeId}:exec P E (.call { callee:=.builtin b,args,argTypes:=ats }) ty w =
  (builtin b ats ty (args.map λ|.const _=>true|_=>false) (args.map (ev E))).run P w:=rfl
theorem gZ{op:BinOp}{v:Value}(hx:ev E x=.int k a)(hy:ev E y=.int k b)
  (h:(binOp op t (.int k a) (.int k b)).run P w=.ok v w):exec P E (.binOp op t x y u) ty w=.ok (.value v) w:=by
 rw[oz];refine bh ?_
 have:(eqGuard op t x y (ev E x) (ev E y)).run P w=.ok () w:=by
  rw[hx,hy];unfold eqGuard;cases op <;> rfl
 rw[ar this,hx,hy];exact h
theorem C0:exec P E (.move x) ty w=.ok (.value (ev E x)) w:=rfl
theorem vf:exec P E (.assign x) ty w=.ok (.value (ev E x)) w:=rfl
theorem aN(hc:ev E c=.bool true):exec P E (.pick c x y) ty w=.ok (.value (ev E x)) w:=by
 show(do pure (Next.value (if <-asBool (ev E c) then ev E x else ev E y))).run P w=_;rw[hc];simp[asBool]
theorem aK(hc:ev E c=.bool false):exec P E (.pick c x y) ty w=.ok (.value (ev E y)) w:=by
 show(do pure (Next.value (if <-asBool (ev E c) then ev E x else ev E y))).run P w=_;rw[hc];simp[asBool]
theorem x_nil{p:Addr}(hx:ev E x=.pointer (some p)):exec P E (.nilCheck x) ty w=.ok (.value (.pointer (some p))) w:=by
 unfold exec FL execOp;simp only[];rw[hx];rfl
theorem Gw(hx:ev E x=.int k a)(hy:ev E y=.int k b):exec P E (.binOp .add t x y u) ty w=.ok (.value (.int k (k.wrap (a+b)))) w:=by
 refine gZ hx hy ?_;simp[binOp,Op.intArith]
theorem x_sub(hx:ev E x=.int k a)(hy:ev E y=.int k b):exec P E (.binOp .sub t x y u) ty w=.ok (.value (.int k (k.wrap (a-b)))) w:=by
 refine gZ hx hy ?_;simp[binOp,Op.intArith]
theorem x_mul(hx:ev E x=.int k a)(hy:ev E y=.int k b):exec P E (.binOp .mul t x y u) ty w=.ok (.value (.int k (k.wrap (a*b)))) w:=by
 refine gZ hx hy ?_;simp[binOp,Op.intArith]
theorem x_quo(hx:ev E x=.int k a)(hy:ev E y=.int k b)(h:b≠0):exec P E (.binOp .quo t x y u) ty w=.ok (.value (.int k (k.wrap (a.tdiv b)))) w:=by
 refine gZ hx hy ?_;simp[binOp,Op.intDiv,h]
theorem Gd(hx:ev E x=.int k a)(hy:ev E y=.int k b)(h:b≠0):exec P E (.binOp .rem t x y u) ty w=.ok (.value (.int k (a.tmod b))) w:=by
 refine gZ hx hy ?_;simp[binOp,Op.intDiv,h]
theorem Gv(hx:ev E x=.int k a)(hy:ev E y=.int k b):exec P E (.binOp .and t x y u) ty w=.ok (.value (.int k (k.wrap (BitVec.ofInt k.bits a &&& BitVec.ofInt k.bits b).toNat))) w:=by
 refine gZ hx hy ?_;simp[binOp,Op.intBits]
theorem x_or(hx:ev E x=.int k a)(hy:ev E y=.int k b):exec P E (.binOp .or t x y u) ty w=.ok (.value (.int k (k.wrap (BitVec.ofInt k.bits a ||| BitVec.ofInt k.bits b).toNat))) w:=by
 refine gZ hx hy ?_;simp[binOp,Op.intBits]
theorem Ga(hx:ev E x=.int k a)(hy:ev E y=.int k b):exec P E (.binOp .xor t x y u) ty w=.ok (.value (.int k (k.wrap (BitVec.ofInt k.bits a ^^^ BitVec.ofInt k.bits b).toNat))) w:=by
 refine gZ hx hy ?_;simp[binOp,Op.intBits]
theorem DD{q:IntKind}(hx:ev E x=.int k a)(hy:ev E y=.int q b)(h:0<=b):exec P E (.binOp .shl t x y u) ty w=.ok (.value (.int k (k.wrap (a*2 ^ (min b.toNat k.bits))))) w:=by
 have:¬b<0:=by omega
 rw[oz];refine bh ?_;rw[hx,hy];have hg:∀op:BinOp,(op=.shl∨op=.shr)->(eqGuard op t x y (.int k a) (.int q b)).run P w=.ok () w:=by
  intro op h;rcases h with rfl|rfl <;> rfl
 rw[ar (hg _ (by simp))];simp[binOp,Op.shift,this]
theorem Gb{q:IntKind}(hx:ev E x=.int k a)(hy:ev E y=.int q b)(h:0<=b):exec P E (.binOp .shr t x y u) ty w=.ok (.value (.int k (a.fdiv (2 ^ (min b.toNat k.bits))))) w:=by
 have:¬b<0:=by omega
 rw[oz];refine bh ?_;rw[hx,hy];have hg:∀op:BinOp,(op=.shl∨op=.shr)->(eqGuard op t x y (.int k a) (.int q b)).run P w=.ok () w:=by
  intro op h;rcases h with rfl|rfl <;> rfl
 rw[ar (hg _ (by simp))];simp[binOp,Op.shift,this]
theorem bK(hx:ev E x=.int k a)(hy:ev E y=.int k b):exec P E (.binOp .lss t x y u) ty w=.ok (.value (.bool (decide (a<b)))) w:=by
 refine gZ hx hy ?_;simp[binOp,Op.intCmp]
theorem fN(hx:ev E x=.int k a)(hy:ev E y=.int k b):exec P E (.binOp .leq t x y u) ty w=.ok (.value (.bool (decide (a<=b)))) w:=by
 refine gZ hx hy ?_;simp[binOp,Op.intCmp]
theorem dk(hx:ev E x=.int k a)(hy:ev E y=.int k b):exec P E (.binOp .gtr t x y u) ty w=.ok (.value (.bool (decide (b<a)))) w:=by
 refine gZ hx hy ?_;simp[binOp,Op.intCmp]
theorem fC(hx:ev E x=.int k a)(hy:ev E y=.int k b):exec P E (.binOp .geq t x y u) ty w=.ok (.value (.bool (decide (b<=a)))) w:=by
 refine gZ hx hy ?_;simp[binOp,Op.intCmp]
theorem dy(hx:ev E x=.int k a)(hy:ev E y=.int k b):exec P E (.binOp .eql t x y u) ty w=.ok (.value (.bool (decide (a=b)))) w:=by
 refine gZ hx hy ?_;simp[binOp,Op.intCmp];rfl
theorem bV(hx:ev E x=.int k a)(hy:ev E y=.int k b):exec P E (.binOp .neq t x y u) ty w=.ok (.value (.bool (decide (a≠b)))) w:=by
 refine gZ hx hy ?_;simp[binOp,Op.intCmp];rfl
theorem cz{p:Bool}(hx:ev E x=.bool p):exec P E (.unOp .not t x) ty w=.ok (.value (.bool (!p))) w:=by
 rw[e_un,hx];rfl
theorem x_neg(hx:ev E x=.int k a):exec P E (.unOp .neg t x) ty w=.ok (.value (.int k (k.wrap (0-a)))) w:=by
 rw[e_un,hx];rfl
theorem x_com(hx:ev E x=.int k a)(hk:k.signed=false):exec P E (.unOp .xor t x) ty w=.ok (.value (.int k (k.wrap (BitVec.ofInt k.bits k.max ^^^ BitVec.ofInt k.bits a).toNat))) w:=by
 rw[e_un,hx];refine bh ?_;simp[Op.unary,Op.intBits,hk]
theorem zk{q:IntKind}{d:TypeDesc}(hx:ev E x=.int k a)(ht:P.underlying t=some d)(hu:P.underlying u=some (.int q)):exec P E (.convert t u x) ty w=.ok (.value (.int q (q.wrap a))) w:=by
 rw[A4,hx];refine bh ?_;cases d <;> simp[convert,run_underlying ht,run_underlying hu,Conv.intToInt]
theorem xN{vs:Array Value}{i:Nat}{v:Value}(hx:ev E x=.tuple vs)(h:vs[i]?=some v):exec P E (.extract x i) ty w=.ok (.value v) w:=by
 show(jY (Instr.extract (ev E x) i)).run P w=_;rw[hx];refine bh ?_;simp[Instr.extract,h]
theorem tx{d d':TypeId}(hx:ev E x=.int k a)(hy:ev E y=.int k b):exec P E (.call { callee:=.builtin .max,args:=#[x,y],argTypes:=#[d,d'] }) ty w=.ok (.value (.int k (max a b))) w:=by
 rw[ud];refine bh ?_;simp[Builtin.max_,Builtin.max2,hx,hy];omega
theorem l9{d d':TypeId}(hx:ev E x=.int k a)(hy:ev E y=.int k b):exec P E (.call { callee:=.builtin .min,args:=#[x,y],argTypes:=#[d,d'] }) ty w=.ok (.value (.int k (min a b))) w:=by
 rw[ud];refine bh ?_;simp[Builtin.min_,Builtin.min2,hx,hy];omega
theorem x_call{f : FuncId}{args : Array Operand}{ats : Array TypeId}{fn : Func}(hf : P.funcs[f]? = some fn)(hn : (fn.name == "runtime.NumGoroutine") = false)(hb : fn.body.isNone = false) :
  exec P E (.call { callee:=.value (.func f),args,argTypes:=ats }) ty w=.ok (.enter f (args.map (ev E))) w:=by
 show(do let d <-Deferred.ofValue (.func (.func f) #[] #[]) (args.map (ev E));invoke d.target d.args).run P w=_;have hb':fn.body≠none:=by intro h;rw[h] at hb;simp at hb
 have hn' : fn.name ≠ "runtime.NumGoroutine" := by intro h; rw [h] at hn; simp at hn
 have hc:(callFunc f (args.map (ev E))).run P w=.ok (.enter f (args.map (ev E))) w:=by
  unfold callFunc;rw[ar (show program.run P w=.ok P w from rfl)];simp only[hf];rw[if_neg (by simpa using hn'),if_neg (by simpa using hb')];rfl
 simp[Deferred.ofValue,invoke,hc]
theorem aB{d e:TypeId}{p:Option Addr}{l cp:Nat}(hx:ev E x=.slice p l cp)(ht:P.underlying d=some (.slice e)):exec P E (.call { callee:=.builtin .len,args:=#[x],argTypes:=#[d] }) ty w=.ok (.value (.int .i64 l)) w:=by
 rw[ud];refine bh ?_;simp[Builtin.len_,hx,run_underlying ht,goInt]
theorem EI{d:TypeId}{s:ByteArray}(hx:ev E x=.string s)(ht:P.underlying d=some .string):exec P E (.call { callee:=.builtin .len,args:=#[x],argTypes:=#[d] }) ty w=.ok (.value (.int .i64 s.size)) w:=by
 rw[ud];refine bh ?_;simp[Builtin.len_,hx,run_underlying ht,goInt]
theorem x_streq{s r:ByteArray}(hx:ev E x=.string s)(hy:ev E y=.string r):exec P E (.binOp .eql t x y u) ty w=.ok (.value (.bool (s.toList==r.toList))) w:=by
 rw[oz,hx,hy];refine bh ?_;simp[eqGuard,binOp,Op.stringOp]
theorem x_strne{s r:ByteArray}(hx:ev E x=.string s)(hy:ev E y=.string r):exec P E (.binOp .neq t x y u) ty w=.ok (.value (.bool (!(s.toList==r.toList)))) w:=by
 rw[oz,hx,hy];refine bh ?_;simp[eqGuard,binOp,Op.stringOp]
end
def fI:Value->Bool
 | .agg _ | .tuple _ => false
 | _ => true
def _root_.Go.World.setB(w:World)(b:Nat)(o:Obj):World:={ w with heap:=w.heap.setIfInBounds b o }
def _root_.Go.World.pushB(w:World)(o:Obj):World:={ w with heap:=w.heap.push o }
theorem dS(w:World)(b:Nat)(o:Obj):(w.setB b o).heap.size=w.heap.size:=by simp[World.setB]
theorem eB{w:World}{b:Nat}{o:Obj}(h:b<w.heap.size):(w.setB b o).heap[b]?=some o:=by simp[World.setB,h]
theorem uA{w:World}{b b':Nat}{o:Obj}(h:b'≠b):(w.setB b o).heap[b']?=w.heap[b']?:=by
 simp[World.setB,Array.getElem?_setIfInBounds_ne (Ne.symm h)]
theorem g8(w:World)(o:Obj):(w.pushB o).heap.size=w.heap.size+1:=Array.size_push _
theorem fS(w:World)(o:Obj):(w.pushB o).heap[w.heap.size]?=some o:=Array.getElem?_push_size
theorem vV{w:World}{b:Nat}{o:Obj}(h:b<w.heap.size):(w.pushB o).heap[b]?=w.heap[b]?:=by
 show(w.heap.push o)[b]?=_;rw[Array.getElem?_push,if_neg (Nat.ne_of_lt h)]
theorem cG{w:World}{b:Nat}{o:Obj}(h:w.heap[b]?=some o):b<w.heap.size:=(Array.getElem?_eq_some_iff.1 h).1
theorem EW{w:World}{b:Nat}{o:Obj}(h:w.heap[b]?=some o):w.setB b o=w:=by
 have:w.heap.setIfInBounds b o=w.heap:=by
  apply Array.ext_getElem?;intro i;by_cases hi:i=b
  ·subst hi;rw[Array.getElem?_setIfInBounds_self_of_lt (cG h),h]
  ·rw[Array.getElem?_setIfInBounds_ne (Ne.symm hi)]
 simp[World.setB,this]
theorem EV(w:World)(b:Nat)(o o':Obj):(w.setB b o).setB b o'=w.setB b o':=by simp[World.setB]
abbrev Hp(w' w:World):Prop:=(w'.heap,w'.os,w'.output)=(w.heap,w.os,w.output)
theorem Hp.heap{w w':World}(h:Hp w' w):w'.heap=w.heap:=congrArg (·.1) h
theorem Hp.os{w w':World}(h:Hp w' w):w'.os=w.os:=congrArg (·.2.1) h
theorem Hp.output{w w':World}(h:Hp w' w):w'.output=w.output:=congrArg (·.2.2) h
def Chg(S:List Nat)(w w':World):Prop:=w.heap.size<=w'.heap.size/\(∀b,b<w.heap.size->b∉S->w'.heap[b]?=w.heap[b]?)/\w'.os=w.os/\w'.output=w.output
theorem Chg.refl(w:World):Chg [] w w:=⟨Nat.le_refl _,λ_ _ _=>rfl,rfl,rfl⟩
theorem Chg.refl'(S:List Nat)(w:World):Chg S w w:=⟨Nat.le_refl _,λ_ _ _=>rfl,rfl,rfl⟩
theorem Chg.heap{S:List Nat}{w w':World}(h:Hp w' w):Chg S w w' :=
 ⟨by rw[h.heap];exact Nat.le_refl _,λb _ _=>by rw[h.heap],h.os,h.output⟩
theorem Chg.mono{S S':List Nat}{w w':World}(h:Chg S w w')(hs:∀b∈S,b<w.heap.size->b∈S'):Chg S' w w' :=
 ⟨h.1,λb hb hn=>h.2.1 b hb λhh=>hn (hs b hh hb),h.2.2⟩
theorem Chg.trans{S S' S'':List Nat}{w w1 w2:World}(h:Chg S w w1)(h':Chg S' w1 w2)(hs:∀b∈S,b<w.heap.size->b∈S'')(hs':∀b∈S',b<w.heap.size->b∈S''):Chg S'' w w2 :=
 ⟨Nat.le_trans h.1 h'.1,λb hb hn=>(h'.2.1 b (Nat.lt_of_lt_of_le hb h.1) λhh=>hn (hs' b hh hb)).trans (h.2.1 b hb λhh=>hn (hs b hh hb)),h'.2.2.1.trans h.2.2.1,h'.2.2.2.trans h.2.2.2⟩
theorem Chg.tr{S:List Nat}{w w1 w2:World}(h:Chg S w w1)(h':Chg S w1 w2):Chg S w w2:=h.trans h' (λ_ h _=>h) (λ_ h _=>h)
theorem Chg.tr0{S:List Nat}{w w1 w2:World}(h:Chg S w w1)(h':Chg [] w1 w2):Chg S w w2:=h.trans h' (λ_ h _=>h) (λ_ h _=>by simp at h)
theorem Chg.tr0'{S:List Nat}{w w1 w2:World}(h:Chg [] w w1)(h':Chg S w1 w2):Chg S w w2:=h.trans h' (λ_ h _=>by simp at h) (λ_ h _=>h)
theorem Chg.push(w:World)(o:Obj):Chg [] w (w.pushB o):=⟨by rw[g8];omega,λ_ hb _=>vV hb,rfl,rfl⟩
theorem Chg.set(w:World)(b:Nat)(o:Obj):Chg [b] w (w.setB b o):=⟨by rw[dS];exact Nat.le_refl _,λb' _ hn=>uA (by simpa using hn),rfl,rfl⟩
theorem Chg.blk{S:List Nat}{w w':World}(h:Chg S w w'){b:Nat}{o:Obj}(hb:w.heap[b]?=some o)(hn:b∉S):w'.heap[b]?=some o:=by
 rw[h.2.1 b (cG hb) hn];exact hb
def At(w:World)(b off:Nat)(l:List Value):Prop:=∃c e fr,w.heap[b]?=some (.cells c e fr)/\∀i v,l[i]?=some v->c[off+i]?=some v
theorem At.mod{S:List Nat}{w w':World}{b off:Nat}{l:List Value}(h:At w b off l)(hm:Chg S w w')(hn:b∉S):At w' b off l:=by
 obtain⟨c,e,fr,hb,hc⟩:=h;exact⟨c,e,fr,hm.blk hb hn,hc⟩
theorem At.heap{w w':World}{b off:Nat}{l:List Value}(h:At w b off l)(hh:Hp w' w):At w' b off l:=by
 obtain⟨c,e,fr,hb,hc⟩:=h;exact⟨c,e,fr,by rw[hh.heap];exact hb,hc⟩
theorem At.lt{w:World}{b off:Nat}{l:List Value}(h:At w b off l):b<w.heap.size:=by
 obtain⟨c,e,fr,hb,_⟩:=h;exact cG hb
theorem At.cell{w:World}{b off:Nat}{l:List Value}(h:At w b off l){i:Nat}{v:Value}(hi:l[i]?=some v):w.cell? ⟨b,off+i,none⟩=some v:=by
 obtain⟨c,e,fr,hb,hc⟩:=h;simp[World.cell?,hb,hc i v hi]
theorem At.drop{w:World}{b off:Nat}{l:List Value}(h:At w b off l)(k:Nat):At w b (off+k) (l.drop k):=by
 obtain⟨c,e,fr,hb,hc⟩:=h;refine⟨c,e,fr,hb,λi v hi=>?_⟩;rw[List.getElem?_drop] at hi;rw[Nat.add_assoc];exact hc _ _ hi
theorem At.take{w:World}{b off:Nat}{l:List Value}(h:At w b off l)(k:Nat):At w b off (l.take k):=by
 obtain⟨c,e,fr,hb,hc⟩:=h;refine⟨c,e,fr,hb,λi v hi=>?_⟩;rw[List.getElem?_take] at hi
 split at hi
 ·exact hc _ _ hi
 ·cases hi
theorem At.of_blk{w:World}{b:Nat}{c:Array Value}{e:TypeId}{fr:Nat×Nat}(h:w.heap[b]?=some (.cells c e fr)):At w b 0 c.toList :=
 ⟨c,e,fr,h,λi v hi=>by simpa using hi⟩
theorem At.of_blk'{w:World}{b off:Nat}{c:Array Value}{e:TypeId}{fr:Nat×Nat}{l:List Value}(h:w.heap[b]?=some (.cells c e fr))(hl:(c.toList.drop off).take l.length=l):At w b off l:=by
 have:=((At.of_blk h).drop off).take l.length
 rw[hl,Nat.zero_add] at this;exact this
theorem y6{P:Program}{w:World}{b off:Nat}{v:Value}(h:w.cell? ⟨b,off,none⟩=some v):(load ⟨b,off,none⟩).run P w=.ok v w:=by
 simp[load,Sem.run,h]
theorem eD(b off i:Nat):(⟨b,off,none⟩:Addr).add i=⟨b,off+i,none⟩:=by
 unfold Addr.add
 split
 ·rename_i h;subst h;rfl
 ·rfl
theorem rA{P:Program}{w:World}{b off:Nat}{l:List Value}(h:At w b off l):∀(n i:Nat) (acc:Array Value),i+n=l.length ->
  (loadCellsFrom ⟨b,off,none⟩ i n acc).run P w=.ok (acc++(l.drop i).toArray) w:=by
 intro n
 induction n with
 | zero =>
  intro i acc hi;simp only[loadCellsFrom];rw[List.drop_of_length_le (by omega)];simp
 | succ n ih =>
  intro i acc hi;simp only[loadCellsFrom];have hlt:i<l.length:=by omega
  have hv:l[i]?=some l[i]:=by simp[hlt]
  rw[eD,ar (y6 (h.cell hv)),ih (i+1) _ (by omega)];rw[List.drop_eq_getElem_cons hlt];simp
theorem iQ{P:Program}{w:World}{b off:Nat}{l:List Value}(h:At w b off l):(loadCells ⟨b,off,none⟩ l.length).run P w=.ok l.toArray w:=by
 unfold loadCells;rw[rA h l.length 0 #[] (by omega)];simp
def gn(c:Array Value)(off:Nat):List Value->Array Value
 | [] => c
 | v :: vs => gn (c.setIfInBounds off v) (off + 1) vs
theorem cY(vs:List Value):∀(c:Array Value) (off:Nat),(gn c off vs).size=c.size:=by
 induction vs with
 | nil => intro c off; rfl
 | cons v vs ih => intro c off; simp [gn, ih]
theorem iT(vs:List Value):∀(c:Array Value) (off i:Nat),off+vs.length<=c.size->(gn c off vs)[i]?=if off<=i/\i<off+vs.length then vs[i-off]? else c[i]?:=by
 induction vs with
 | nil => intro c off i _; simp [gn]; intro h1 h2; omega
 | cons v vs ih =>
  intro c off i h;simp only[List.length_cons] at h;simp only[gn];rw[ih _ _ _ (by simp;omega)];simp only[List.length_cons];by_cases h1:off+1<=i/\i<off+1+vs.length
  ·rw[if_pos h1,if_pos (by omega)];obtain⟨k,rfl⟩:∃k,i=off+1+k:=⟨i-off-1,by omega⟩
   rw[show off+1+k-(off+1)=k from by omega,show off+1+k-off=k+1 from by omega];simp
  ·rw[if_neg h1];by_cases h2:i=off
   ·subst h2;rw[if_pos (by omega),Nat.sub_self,Array.getElem?_setIfInBounds_self_of_lt (by omega)];simp
   ·rw[if_neg (by omega),Array.getElem?_setIfInBounds_ne (by omega)]
theorem AH(vs us:List Value):∀(c:Array Value) (off:Nat),gn c off (vs++us)=gn (gn c off vs) (off+vs.length) us:=by
 induction vs with
 | nil => intro c off; rfl
 | cons v vs ih => intro c off; simp only [List.cons_append, gn, ih, List.length_cons]; rw [show off + 1 + vs.length = off + (vs.length + 1) from by omega]
theorem Cs{P:Program}{w:World}{b off:Nat}{c:Array Value}{e:TypeId}{fr:Nat×Nat}{v:Value}(h:w.heap[b]?=some (.cells c e fr))(ho:off<c.size)
  (hs:¬(fr.1<=off/\off<fr.2)) (hv:fI v=true):(store ⟨b,off,none⟩ v).run P w=.ok () (w.setB b (.cells (c.setIfInBounds off v) e fr)):=by
 have hc:w.cell? ⟨b,off,none⟩=some c[off]:=by simp[World.cell?,h,ho]
 have hf:w.frozen? ⟨b,off,none⟩=false:=by
  simp only[World.frozen?,h,Bool.and_eq_false_iff,decide_eq_false_iff_not];by_cases h1:fr.1<=off
  ·exact .inr λh2=>hs ⟨h1,h2⟩
  ·exact .inl h1
 have hw:w.setCell ⟨b,off,none⟩ v=w.setB b (.cells (c.setIfInBounds off v) e fr):=by
  simp only[World.setCell,World.setB];congr 1;apply Array.ext_getElem?;intro i;rw[Array.getElem?_modify,Array.getElem?_setIfInBounds];by_cases hi:b=i
  ·subst hi;simp only[if_true,h,Option.map_some,cG h];rfl
  ·simp[hi]
 unfold store;cases v <;> first|(simp[fI] at hv;done)|(simp only[Sem.run,hc,hf];rw[hw];rfl)
theorem vI{P:Program}{b:Nat}{e:TypeId}{fr:Nat×Nat}(vs:List Value):∀(w:World) (off i:Nat) (c:Array Value),w.heap[b]?=some (.cells c e fr)->off+i+vs.length<=c.size ->
  (∀o,off+i<=o->o<off+i+vs.length->¬(fr.1<=o/\o<fr.2))->(∀v∈vs,fI v=true) ->
  (storeCells ⟨b,off,none⟩ vs i).run P w=.ok () (w.setB b (.cells (gn c (off+i) vs) e fr)):=by
 induction vs with
 | nil =>
  intro w off i c h _ _ _;unfold storeCells;simp only[gn];rw[EW h];rfl
 | cons v vs ih =>
  intro w off i c h ho hs hv;simp only[List.length_cons] at ho hs;unfold storeCells;rw[eD,ar (Cs h (by omega) (hs _ (by omega) (by omega)) (hv v (by simp)))];rw[ih (w.setB b (.cells (c.setIfInBounds (off+i) v) e fr)) off (i+1) _ (eB (cG h)) (by simp;omega) (λo h1 h2=>hs o (by omega) (by omega)) (λu hu=>hv u (by simp[hu]))];rw[EV];simp only[gn];rw[show off+(i+1)=off+i+1 from by omega]
def Soft(c:Array Value)(fr:Nat×Nat):Prop:=∀o,o<c.size->¬(fr.1<=o/\o<fr.2)
theorem jc(c:Array Value):Soft c (0,0):=λo _ h=>by simp at h
theorem Soft.size{c c':Array Value}{fr:Nat×Nat}(h:Soft c fr)(hs:c'.size=c.size):Soft c' fr:=λo ho=>h o (by omega)
theorem fh{P:Program}{w:World}{b off:Nat}{c:Array Value}{e:TypeId}{fr:Nat×Nat}(vs:List Value)(h:w.heap[b]?=some (.cells c e fr))(ho:off+vs.length<=c.size)
  (hs:Soft c fr) (hv:∀v∈vs,fI v=true):(storeCells ⟨b,off,none⟩ vs).run P w=.ok () (w.setB b (.cells (gn c off vs) e fr)):=by
 have:=vI (P:=P) (e:=e) (fr:=fr) vs w off 0 c h (by omega) (λo _ h2=>hs o (by omega)) hv
 simpa using this
def iu:TypeDesc->Bool
 | .struct _ | .array _ _ => true
 | _ => false
theorem oT{P:Program}{t:TypeId}{d:TypeDesc}(h:P.underlying t=some d)(w:World):(isAgg t).run P w=.ok (iu d) w:=by
 unfold isAgg;rw[ar (run_underlying h w)];cases d <;> rfl
theorem dF{P:Program}{t:TypeId}{i:TypeInfo}(h:P.info? t=some i)(w:World):(typeInfo t).run P w=.ok i w:=by
 unfold typeInfo;rw[ar (show program.run P w=.ok P w from rfl)];simp only[h];rfl
theorem cx{P:Program}{t:TypeId}{i:TypeInfo}(h:P.info? t=some i)(w:World):(sizeOf t).run P w=.ok i.size w:=by
 unfold sizeOf;rw[ar (dF h w)];rfl
theorem dq{P:Program}{t:TypeId}{i:TypeInfo}{v:Value}(h:P.info? t=some i)(hz:i.zero=some v)(w:World):(zeroValue t).run P w=.ok v w:=by
 unfold zeroValue;rw[ar (dF h w)];simp only[hz];rfl
section
variable {P:Program}{E:Env}{w:World}{ty t u:TypeId}{x y c:Operand}
theorem HQ:exec P E (.load t x) ty w=(jY (Instr.loadAt t (ev E x))).run P w:=rfl
theorem e_store:exec P E (.store t x y) ty w=(GC (Instr.storeAt t (ev E x) (ev E y))).run P w:=rfl
theorem aD{d:TypeDesc}{b off:Nat}{v:Value}(ht:P.underlying t=some d)(hd:iu d=false)(hx:ev E x=.pointer (some ⟨b,off,none⟩))(h:w.cell? ⟨b,off,none⟩=some v) :
  exec P E (.load t x) ty w=.ok (.value v) w:=by
 rw[HQ,hx];refine bh ?_;unfold Instr.loadAt;rw[ar (show(Instr.sureAddr (.pointer (some ⟨b,off,none⟩))).run P w=.ok ⟨b,off,none⟩ w from rfl)];unfold loadVar;rw[ar (oT ht w),hd];exact y6 h
theorem cK{d:TypeDesc}{i:TypeInfo}{b off:Nat}{l:List Value}(ht:P.underlying t=some d)(hd:iu d=true)(hi:P.info? t=some i)(hx:ev E x=.pointer (some ⟨b,off,none⟩))(h:At w b off l)(hl:i.size=l.length) :
  exec P E (.load t x) ty w=.ok (.value (.agg l.toArray)) w:=by
 rw[HQ,hx];refine bh ?_;unfold Instr.loadAt;rw[ar (show(Instr.sureAddr (.pointer (some ⟨b,off,none⟩))).run P w=.ok ⟨b,off,none⟩ w from rfl)];unfold loadVar;rw[ar (oT ht w),hd];simp only[if_true];rw[ar (cx hi w),hl,ar (iQ h)];rfl
theorem uu{i:TypeInfo}{b off:Nat}{cs:Array Value}{e:TypeId}{fr:Nat×Nat}{v:Value}(hi:P.info? t=some i)(hx:ev E x=.pointer (some ⟨b,off,none⟩))(hy:ev E y=v)
  (hs:v.cells.size=i.size) (hb:w.heap[b]?=some (.cells cs e fr)) (ho:off+v.cells.size<=cs.size) (hf:Soft cs fr) (hv:∀q∈v.cells.toList,fI q=true) :
  exec P E (.store t x y) ty w=.ok .skip (w.setB b (.cells (gn cs off v.cells.toList) e fr)):=by
 rw[e_store,hx,hy];refine vH (v:=()) ?_;unfold Instr.storeAt;rw[ar (show(Instr.sureAddr (.pointer (some ⟨b,off,none⟩))).run P w=.ok ⟨b,off,none⟩ w from rfl)];unfold storeVar;rw[ar (cx hi w)];rw[if_neg (by simp[hs])];simp only;exact fh _ hb (by simpa using ho) hf hv
theorem e_alloc:exec P E (.alloc t) ty w=(jY (Instr.alloc t true (.tuple #[]))).run P w:=rfl
theorem e_box:exec P E (.box t x) ty w=(jY (Instr.box t (ev E x))).run P w:=rfl
theorem zp{i:TypeInfo}{z:Value}(hi:P.info? t=some i)(hz:i.zero=some z) :
  exec P E (.alloc t) ty w=.ok (.value (.pointer (some ⟨w.heap.size,0,none⟩))) (w.pushB (.cells z.cells t)):=by
 rw[e_alloc];refine bh ?_;unfold Instr.alloc;rw[ar (dq hi hz w)];rfl
theorem x_box{v:Value}(hx:ev E x=v):exec P E (.box t x) ty w=.ok (.value (.pointer (some ⟨w.heap.size,0,none⟩))) (w.pushB (.cells v.cells t)):=by
 rw[e_box,hx];exact bh rfl
theorem Bn{f:Nat}:exec P E (.fieldAddr t x f) ty w=(jY (Instr.fieldAt t (ev E x) f)).run P w:=rfl
theorem a8{fs:Array Field}{f:Nat}{fd:Field}{i:TypeInfo}{b off:Nat}(ht:P.underlying t=some (.struct fs))(hf:fs[f]?=some fd)(hi:P.info? fd.type=some i)(hz:(i.size==0)=false)
  (hx:ev E x=.pointer (some ⟨b,off,none⟩)):exec P E (.fieldAddr t x f) ty w=.ok (.value (.pointer (some ⟨b,off+fd.offset,none⟩))) w:=by
 rw[Bn,hx];refine bh ?_;unfold Instr.fieldAt;rw[ar (run_underlying ht w)];simp only[hf];rw[ar (show(Instr.sureAddr (.pointer (some ⟨b,off,none⟩))).run P w=.ok ⟨b,off,none⟩ w from rfl)]
 have:(fieldPlace ⟨b,off,none⟩ fd).run P w=.ok ⟨b,off+fd.offset,none⟩ w:=by
  unfold fieldPlace;rw[ar (cx hi w),if_neg (by simpa using hz),eD];rfl
 rw[ar this];rfl
theorem tY:exec P E (.indexAddr t x y) ty w=(jY (Instr.indexAt t (ev E x) (ev E y))).run P w:=rfl
theorem Ag{e:TypeId}{i:TypeInfo}{b off l cp:Nat}{k:IntKind}{j:Int}(ht:P.underlying t=some (.slice e))(hi:P.info? e=some i)(hx:ev E x=.slice (some ⟨b,off,none⟩) l cp)(hy:ev E y=.int k j)
  (hj:0<=j/\j<l):exec P E (.indexAddr t x y) ty w=.ok (.value (.pointer (some ⟨b,off+j.toNat*i.size,none⟩))) w:=by
 rw[tY,hx,hy];refine bh ?_;unfold Instr.indexAt;simp only[asIntOf,pure_bind];rw[ar (run_underlying ht w)];simp only;rw[ar (run_underlying ht w)];simp only[Bool.and_false];rw[if_pos hj,ar (cx hi w),eD];rfl
theorem zj{e:TypeId}{n:Nat}{i:TypeInfo}{b off:Nat}{k:IntKind}{j:Int}(ht:P.underlying t=some (.array n e))(hi:P.info? e=some i)(hx:ev E x=.pointer (some ⟨b,off,none⟩))(hy:ev E y=.int k j)
  (hj:0<=j/\j<n):exec P E (.indexAddr t x y) ty w=.ok (.value (.pointer (some ⟨b,off+j.toNat*i.size,none⟩))) w:=by
 rw[tY,hx,hy];refine bh ?_;unfold Instr.indexAt;simp only[asIntOf,pure_bind];rw[ar (run_underlying ht w)];simp only;rw[ar (show(Instr.sureAddr (.pointer (some ⟨b,off,none⟩))).run P w=.ok ⟨b,off,none⟩ w from rfl)];rw[ar (run_underlying ht w)];simp only[];rw[if_pos hj,ar (cx hi w),eD];rfl
end
theorem jW{n:Int}(h : -9223372036854775808<=n/\n<9223372036854775808):IntKind.i64.wrap n=n:=by
 unfold IntKind.wrap;have h1:IntKind.i64.bits=64:=rfl;have h2:IntKind.i64.signed=true:=rfl;rw[h1,h2];simp only[Bool.true_and,decide_eq_true_eq,Nat.reduceSub]
 split <;> omega
section
variable {P:Program}{E:Env}{w:World}{ty t u:TypeId}{x y:Operand}{k q:IntKind}{a b:Int}
theorem gK{v:Value}(h:ev E x=v):exec P E (.assign x) ty w=.ok (.value v) w:=by rw[vf,h]
theorem x_mas{v:Value}(h:ev E x=v):exec P E (.move x) ty w=.ok (.value v) w:=by rw[C0,h]
theorem aC(hx:ev E x=.int .i64 a)(hy:ev E y=.int .i64 b)(h : -9223372036854775808<=a+b/\a+b<9223372036854775808):exec P E (.binOp .add t x y u) ty w=.ok (.value (.int .i64 (a+b))) w:=by
 rw[Gw hx hy,jW h]
theorem bf(hx:ev E x=.int .i64 a)(hy:ev E y=.int .i64 b)(h : -9223372036854775808<=a-b/\a-b<9223372036854775808):exec P E (.binOp .sub t x y u) ty w=.ok (.value (.int .i64 (a-b))) w:=by
 rw[x_sub hx hy,jW h]
theorem fq(hx:ev E x=.int .i64 a)(hy:ev E y=.int .i64 b)(h : -9223372036854775808<=a*b/\a*b<9223372036854775808):exec P E (.binOp .mul t x y u) ty w=.ok (.value (.int .i64 (a*b))) w:=by
 rw[x_mul hx hy,jW h]
theorem lG(hx:ev E x=.int .i64 a)(hy:ev E y=.int .i64 b)(h:0<=a/\a<9223372036854775808/\0<b):exec P E (.binOp .quo t x y u) ty w=.ok (.value (.int .i64 (a / b))) w:=by
 have hd:a.tdiv b=a / b:=Int.tdiv_eq_ediv_of_nonneg h.1;have h1:0<=a / b:=Int.ediv_nonneg h.1 (by omega);have h2:a / b<=a:=Int.ediv_le_self b h.1;rw[x_quo hx hy (by omega),hd,jW (by omega)]
theorem kH(hx:ev E x=.int .i64 a)(hy:ev E y=.int .i64 b)(h:0<=a/\0<b):exec P E (.binOp .rem t x y u) ty w=.ok (.value (.int .i64 (a % b))) w:=by
 rw[Gd hx hy (by omega),Int.tmod_eq_emod_of_nonneg h.1]
theorem gg{d:TypeDesc}(hx:ev E x=.int k a)(ht:P.underlying t=some d)(hu:P.underlying u=some (.int .i64))(h : -9223372036854775808<=a/\a<9223372036854775808):exec P E (.convert t u x) ty w=.ok (.value (.int .i64 a)) w:=by
 rw[zk hx ht hu,jW h]
end
theorem qZ(n:Int):IntKind.u8.wrap n=n % 256:=by
 unfold IntKind.wrap;have h1:IntKind.u8.bits=8:=rfl;have h2:IntKind.u8.signed=false:=rfl;rw[h1,h2];simp
def u6(a:Int):UInt8:=UInt8.ofNat (a % 256).toNat
theorem EK(a:Int):IntKind.u8.wrap a=((u6 a).toNat:Int):=by
 rw[qZ];unfold u6;rw[UInt8.toNat_ofNat'];omega
theorem rk(n:Nat):u6 (n:Int)=UInt8.ofNat n:=by
 apply UInt8.toNat_inj.1;unfold u6;rw[UInt8.toNat_ofNat',UInt8.toNat_ofNat'];omega
theorem yG(a:UInt8):BitVec.ofInt 8 (a.toNat:Int)=a.toBitVec:=by
 apply BitVec.eq_of_toNat_eq;rw[BitVec.toNat_ofInt]
 have:=a.toNat_lt
 have e:a.toBitVec.toNat=a.toNat:=rfl;rw[e];omega
def Cp(a:UInt8)(s:Nat):UInt8:=UInt8.ofNat (a.toNat <<< s)
def shr8(a:UInt8)(s:Nat):UInt8:=UInt8.ofNat (a.toNat >>> s)
section
variable {P:Program}{E:Env}{w:World}{ty t u:TypeId}{x y:Operand}{k:IntKind}{c:Int}{a b:UInt8}
theorem x_and8u(hx:ev E x=.int .u8 a.toNat)(hy:ev E y=.int .u8 b.toNat):exec P E (.binOp .and t x y u) ty w=.ok (.value (.int .u8 (a &&& b).toNat)) w:=by
 rw[Gv hx hy];have e:(BitVec.ofInt IntKind.u8.bits (a.toNat:Int) &&& BitVec.ofInt IntKind.u8.bits (b.toNat:Int)).toNat=(a &&& b).toNat:=by
  show(BitVec.ofInt 8 _ &&& BitVec.ofInt 8 _).toNat=_;rw[yG,yG];rfl
 rw[e,qZ];have:=(a &&& b).toNat_lt;congr 3;omega
theorem x_or8u(hx:ev E x=.int .u8 a.toNat)(hy:ev E y=.int .u8 b.toNat):exec P E (.binOp .or t x y u) ty w=.ok (.value (.int .u8 (a ||| b).toNat)) w:=by
 rw[x_or hx hy];have e:(BitVec.ofInt IntKind.u8.bits (a.toNat:Int) ||| BitVec.ofInt IntKind.u8.bits (b.toNat:Int)).toNat=(a ||| b).toNat:=by
  show(BitVec.ofInt 8 _ ||| BitVec.ofInt 8 _).toNat=_;rw[yG,yG];rfl
 rw[e,qZ];have:=(a ||| b).toNat_lt;congr 3;omega
theorem DC(hx:ev E x=.int .u8 a.toNat)(hy:ev E y=.int .u8 b.toNat):exec P E (.binOp .xor t x y u) ty w=.ok (.value (.int .u8 (a ^^^ b).toNat)) w:=by
 rw[Ga hx hy];have e:(BitVec.ofInt IntKind.u8.bits (a.toNat:Int) ^^^ BitVec.ofInt IntKind.u8.bits (b.toNat:Int)).toNat=(a ^^^ b).toNat:=by
  show(BitVec.ofInt 8 _ ^^^ BitVec.ofInt 8 _).toNat=_;rw[yG,yG];rfl
 rw[e,qZ];have:=(a ^^^ b).toNat_lt;congr 3;omega
theorem x_shl8u{s:Nat}(hx:ev E x=.int .u8 a.toNat)(hy:ev E y=.int k c)(hs:c=(s:Int)):exec P E (.binOp .shl t x y u) ty w=.ok (.value (.int .u8 (Cp a s).toNat)) w:=by
 subst hs;rw[DD hx hy (by omega),qZ];congr 3;unfold Cp;rw[UInt8.toNat_ofNat',Int.toNat_natCast,Nat.shiftLeft_eq];have hb:IntKind.u8.bits=8:=rfl;rw[hb];by_cases h:s<=8
 ·rw[Nat.min_eq_left h];have e2:∀m:Nat,((2:Int) ^ m)=((2 ^ m:Nat):Int):=λm=>(Int.natCast_pow 2 m).symm;rw[e2,<-Int.natCast_mul];omega
 ·rw[Nat.min_eq_right (by omega)];obtain⟨m,rfl⟩:∃m,s=8+m:=⟨s-8,by omega⟩
  have h1:a.toNat*2 ^ (8+m) % 2 ^ 8=0:=by
   rw[Nat.pow_add,<-Nat.mul_assoc,Nat.mul_right_comm,Nat.mul_mod_left]
  rw[h1];omega
theorem x_shr8u{s:Nat}(hx:ev E x=.int .u8 a.toNat)(hy:ev E y=.int k c)(hs:c=(s:Int)):exec P E (.binOp .shr t x y u) ty w=.ok (.value (.int .u8 (shr8 a s).toNat)) w:=by
 subst hs;rw[Gb hx hy (by omega)];congr 3;unfold shr8;rw[UInt8.toNat_ofNat',Int.toNat_natCast,Nat.shiftRight_eq_div_pow];have hb:IntKind.u8.bits=8:=rfl;rw[hb];have hlt:=a.toNat_lt;have hf:∀m:Nat,(a.toNat:Int).fdiv (2 ^ m)=((a.toNat / 2 ^ m:Nat):Int):=by
  intro m
  have:((2:Int) ^ m)=((2 ^ m:Nat):Int):=(Int.natCast_pow 2 m).symm
  rw[this,Int.fdiv_eq_ediv_of_nonneg _ (Int.natCast_nonneg _)];rfl
 rw[hf,Nat.mod_eq_of_lt (Nat.lt_of_le_of_lt (Nat.div_le_self _ _) (by omega))];by_cases h:s<=8
 ·rw[Nat.min_eq_left h]
 ·rw[Nat.min_eq_right (by omega)];have h1:a.toNat / 2 ^ 8=0:=Nat.div_eq_of_lt (by omega);have h2:a.toNat / 2 ^ s=0:=Nat.div_eq_of_lt (Nat.lt_of_lt_of_le (show a.toNat<2 ^ 8 by omega) (Nat.pow_le_pow_right (by omega) (by omega)));rw[h1,h2]
theorem qQ(hx:ev E x=.int .u8 a.toNat)(hy:ev E y=.int .u8 b.toNat):exec P E (.binOp .eql t x y u) ty w=.ok (.value (.bool (decide (a=b)))) w:=by
 rw[dy hx hy];congr 3;rw[Bool.eq_iff_iff];simp only[decide_eq_true_eq];exact⟨λh=>UInt8.toNat_inj.1 (by omega),λh=>by rw[h]⟩
theorem uw(hx:ev E x=.int .u8 a.toNat)(hy:ev E y=.int .u8 b.toNat):exec P E (.binOp .leq t x y u) ty w=.ok (.value (.bool (decide (a<=b)))) w:=by
 rw[fN hx hy];congr 3;rw[Bool.eq_iff_iff];simp only[decide_eq_true_eq,UInt8.le_iff_toNat_le];omega
theorem oO(hx:ev E x=.int .u8 a.toNat)(hy:ev E y=.int .u8 b.toNat):exec P E (.binOp .geq t x y u) ty w=.ok (.value (.bool (decide (b<=a)))) w:=by
 rw[fC hx hy];congr 3;rw[Bool.eq_iff_iff];simp only[decide_eq_true_eq,UInt8.le_iff_toNat_le];omega
theorem DE(hx:ev E x=.int .u8 a.toNat)(hy:ev E y=.int .u8 b.toNat)(h:b≠0):exec P E (.binOp .rem t x y u) ty w=.ok (.value (.int .u8 (a % b).toNat)) w:=by
 have hb:(b.toNat:Int)≠0:=λhh=>h (UInt8.toNat_inj.1 (by rw[UInt8.toNat_zero];omega));rw[Gd hx hy hb,Int.tmod_eq_emod_of_nonneg (by omega),UInt8.toNat_mod];congr 3
theorem gk{d:TypeDesc}(hx:ev E x=.int k c)(ht:P.underlying t=some d)(hu:P.underlying u=some (.int .u8)):exec P E (.convert t u x) ty w=.ok (.value (.int .u8 (u6 c).toNat)) w:=by
 rw[zk hx ht hu,EK]
end
theorem jV(n:Int):IntKind.u32.wrap n=n % 4294967296:=by
 unfold IntKind.wrap;have h1:IntKind.u32.bits=32:=rfl;have h2:IntKind.u32.signed=false:=rfl;rw[h1,h2];simp
def gL(a:Int):UInt32:=UInt32.ofNat (a % 4294967296).toNat
theorem Cd(a:Int):IntKind.u32.wrap a=((gL a).toNat:Int):=by
 rw[jV];unfold gL;rw[UInt32.toNat_ofNat'];omega
theorem kS(n:Nat):gL (n:Int)=UInt32.ofNat n:=by
 apply UInt32.toNat_inj.1;unfold gL;rw[UInt32.toNat_ofNat',UInt32.toNat_ofNat'];omega
theorem qA(a:UInt32):BitVec.ofInt 32 (a.toNat:Int)=a.toBitVec:=by
 apply BitVec.eq_of_toNat_eq;rw[BitVec.toNat_ofInt]
 have:=a.toNat_lt
 have e:a.toBitVec.toNat=a.toNat:=rfl;rw[e];omega
def rm(a:UInt32)(s:Nat):UInt32:=UInt32.ofNat (a.toNat <<< s)
def jo(a:UInt32)(s:Nat):UInt32:=UInt32.ofNat (a.toNat >>> s)
section
variable {P:Program}{E:Env}{w:World}{ty t u:TypeId}{x y:Operand}{k:IntKind}{c:Int}{a b:UInt32}
theorem dJ(hx:ev E x=.int .u32 a.toNat)(hy:ev E y=.int .u32 b.toNat):exec P E (.binOp .add t x y u) ty w=.ok (.value (.int .u32 (a+b).toNat)) w:=by
 rw[Gw hx hy,jV,UInt32.toNat_add];congr 3
theorem nS(hx:ev E x=.int .u32 a.toNat)(hy:ev E y=.int .u32 b.toNat):exec P E (.binOp .and t x y u) ty w=.ok (.value (.int .u32 (a &&& b).toNat)) w:=by
 rw[Gv hx hy];have e:(BitVec.ofInt IntKind.u32.bits (a.toNat:Int) &&& BitVec.ofInt IntKind.u32.bits (b.toNat:Int)).toNat=(a &&& b).toNat:=by
  show(BitVec.ofInt 32 _ &&& BitVec.ofInt 32 _).toNat=_;rw[qA,qA];rfl
 rw[e,jV];have:=(a &&& b).toNat_lt;congr 3;omega
theorem mS(hx:ev E x=.int .u32 a.toNat)(hy:ev E y=.int .u32 b.toNat):exec P E (.binOp .or t x y u) ty w=.ok (.value (.int .u32 (a ||| b).toNat)) w:=by
 rw[x_or hx hy];have e:(BitVec.ofInt IntKind.u32.bits (a.toNat:Int) ||| BitVec.ofInt IntKind.u32.bits (b.toNat:Int)).toNat=(a ||| b).toNat:=by
  show(BitVec.ofInt 32 _ ||| BitVec.ofInt 32 _).toNat=_;rw[qA,qA];rfl
 rw[e,jV];have:=(a ||| b).toNat_lt;congr 3;omega
theorem fB(hx:ev E x=.int .u32 a.toNat)(hy:ev E y=.int .u32 b.toNat):exec P E (.binOp .xor t x y u) ty w=.ok (.value (.int .u32 (a ^^^ b).toNat)) w:=by
 rw[Ga hx hy];have e:(BitVec.ofInt IntKind.u32.bits (a.toNat:Int) ^^^ BitVec.ofInt IntKind.u32.bits (b.toNat:Int)).toNat=(a ^^^ b).toNat:=by
  show(BitVec.ofInt 32 _ ^^^ BitVec.ofInt 32 _).toNat=_;rw[qA,qA];rfl
 rw[e,jV];have:=(a ^^^ b).toNat_lt;congr 3;omega
theorem Gm(hx:ev E x=.int .u32 a.toNat):exec P E (.unOp .xor t x) ty w=.ok (.value (.int .u32 (~~~a).toNat)) w:=by
 rw[x_com hx rfl];have e:(BitVec.ofInt IntKind.u32.bits IntKind.u32.max ^^^ BitVec.ofInt IntKind.u32.bits (a.toNat:Int)).toNat=(~~~a).toNat:=by
  show(BitVec.ofInt 32 (2 ^ 32-1) ^^^ BitVec.ofInt 32 _).toNat=_;rw[qA];have h:BitVec.ofInt 32 (2 ^ 32-1)=BitVec.allOnes 32:=by decide
  rw[h,BitVec.allOnes_xor];rfl
 rw[e,jV];have:=(~~~a).toNat_lt;congr 3;omega
theorem l7{s:Nat}(hx:ev E x=.int .u32 a.toNat)(hy:ev E y=.int k c)(hs:c=(s:Int)):exec P E (.binOp .shl t x y u) ty w=.ok (.value (.int .u32 (rm a s).toNat)) w:=by
 subst hs;rw[DD hx hy (by omega),jV];congr 3;unfold rm;rw[UInt32.toNat_ofNat',Int.toNat_natCast,Nat.shiftLeft_eq];have hb:IntKind.u32.bits=32:=rfl;rw[hb];by_cases h:s<=32
 ·rw[Nat.min_eq_left h];have e2:∀m:Nat,((2:Int) ^ m)=((2 ^ m:Nat):Int):=λm=>(Int.natCast_pow 2 m).symm;rw[e2,<-Int.natCast_mul];omega
 ·rw[Nat.min_eq_right (by omega)];obtain⟨m,rfl⟩:∃m,s=32+m:=⟨s-32,by omega⟩
  have h1:a.toNat*2 ^ (32+m) % 2 ^ 32=0:=by
   rw[Nat.pow_add,<-Nat.mul_assoc,Nat.mul_right_comm,Nat.mul_mod_left]
  rw[h1];omega
theorem jm{s:Nat}(hx:ev E x=.int .u32 a.toNat)(hy:ev E y=.int k c)(hs:c=(s:Int)):exec P E (.binOp .shr t x y u) ty w=.ok (.value (.int .u32 (jo a s).toNat)) w:=by
 subst hs;rw[Gb hx hy (by omega)];congr 3;unfold jo;rw[UInt32.toNat_ofNat',Int.toNat_natCast,Nat.shiftRight_eq_div_pow];have hb:IntKind.u32.bits=32:=rfl;rw[hb];have hlt:=a.toNat_lt;have hf:∀m:Nat,(a.toNat:Int).fdiv (2 ^ m)=((a.toNat / 2 ^ m:Nat):Int):=by
  intro m
  have:((2:Int) ^ m)=((2 ^ m:Nat):Int):=(Int.natCast_pow 2 m).symm
  rw[this,Int.fdiv_eq_ediv_of_nonneg _ (Int.natCast_nonneg _)];rfl
 rw[hf,Nat.mod_eq_of_lt (Nat.lt_of_le_of_lt (Nat.div_le_self _ _) (by omega))];by_cases h:s<=32
 ·rw[Nat.min_eq_left h]
 ·rw[Nat.min_eq_right (by omega)];have h1:a.toNat / 2 ^ 32=0:=Nat.div_eq_of_lt (by omega);have h2:a.toNat / 2 ^ s=0:=Nat.div_eq_of_lt (Nat.lt_of_lt_of_le (show a.toNat<2 ^ 32 by omega) (Nat.pow_le_pow_right (by omega) (by omega)));rw[h1,h2]
theorem Gg(hx:ev E x=.int .u32 a.toNat)(hy:ev E y=.int .u32 b.toNat):exec P E (.binOp .neq t x y u) ty w=.ok (.value (.bool (decide (a≠b)))) w:=by
 rw[bV hx hy];congr 3;rw[Bool.eq_iff_iff];simp only[decide_eq_true_eq];exact⟨λh h'=>h (by rw[h']),λh h'=>h (UInt32.toNat_inj.1 (by omega))⟩
theorem uV(hx:ev E x=.int .u32 a.toNat)(hy:ev E y=.int .u32 b.toNat):exec P E (.binOp .lss t x y u) ty w=.ok (.value (.bool (decide (a<b)))) w:=by
 rw[bK hx hy];congr 3;rw[Bool.eq_iff_iff];simp only[decide_eq_true_eq,UInt32.lt_iff_toNat_lt];omega
theorem Gc(hx:ev E x=.int .u32 a.toNat)(hy:ev E y=.int .u32 b.toNat)(h:b≠0):exec P E (.binOp .rem t x y u) ty w=.ok (.value (.int .u32 (a % b).toNat)) w:=by
 have hb:(b.toNat:Int)≠0:=λhh=>h (UInt32.toNat_inj.1 (by rw[UInt32.toNat_zero];omega));rw[Gd hx hy hb,Int.tmod_eq_emod_of_nonneg (by omega),UInt32.toNat_mod];congr 3
theorem Ge(hx:ev E x=.int .u32 a.toNat)(hy:ev E y=.int .u32 b.toNat)(h:b≠0):exec P E (.binOp .quo t x y u) ty w=.ok (.value (.int .u32 (a / b).toNat)) w:=by
 have hb:(b.toNat:Int)≠0:=λhh=>h (UInt32.toNat_inj.1 (by rw[UInt32.toNat_zero];omega));rw[x_quo hx hy hb,Int.tdiv_eq_ediv_of_nonneg (by omega),UInt32.toNat_div,jV];congr 3;have h1:=a.toNat_lt;have h2:=Nat.div_le_self a.toNat b.toNat
 have h3:((a.toNat:Int) / (b.toNat:Int))=((a.toNat / b.toNat:Nat):Int):=rfl;rw[h3];exact Int.emod_eq_of_lt (Int.natCast_nonneg _) (by have:a.toNat / b.toNat<4294967296:=Nat.lt_of_le_of_lt h2 h1;exact Int.ofNat_lt.2 this)
theorem eE{d:TypeDesc}(hx:ev E x=.int k c)(ht:P.underlying t=some d)(hu:P.underlying u=some (.int .u32)):exec P E (.convert t u x) ty w=.ok (.value (.int .u32 (gL c).toNat)) w:=by
 rw[zk hx ht hu,Cd]
end
theorem jn(n:Int):IntKind.u64.wrap n=n % 18446744073709551616:=by
 unfold IntKind.wrap;have h1:IntKind.u64.bits=64:=rfl;have h2:IntKind.u64.signed=false:=rfl;rw[h1,h2];simp
def dm(a:Int):UInt64:=UInt64.ofNat (a % 18446744073709551616).toNat
theorem Cc(a:Int):IntKind.u64.wrap a=((dm a).toNat:Int):=by
 rw[jn];unfold dm;rw[UInt64.toNat_ofNat'];omega
theorem dR(n:Nat):dm (n:Int)=UInt64.ofNat n:=by
 apply UInt64.toNat_inj.1;unfold dm;rw[UInt64.toNat_ofNat',UInt64.toNat_ofNat'];omega
theorem tl(a:UInt64):BitVec.ofInt 64 (a.toNat:Int)=a.toBitVec:=by
 apply BitVec.eq_of_toNat_eq;rw[BitVec.toNat_ofInt]
 have:=a.toNat_lt
 have e:a.toBitVec.toNat=a.toNat:=rfl;rw[e];omega
def Aw(a:UInt64)(s:Nat):UInt64:=UInt64.ofNat (a.toNat <<< s)
def pF(a:UInt64)(s:Nat):UInt64:=UInt64.ofNat (a.toNat >>> s)
section
variable {P:Program}{E:Env}{w:World}{ty t u:TypeId}{x y:Operand}{k:IntKind}{c:Int}{a b:UInt64}
theorem qY(hx:ev E x=.int .u64 a.toNat)(hy:ev E y=.int .u64 b.toNat):exec P E (.binOp .add t x y u) ty w=.ok (.value (.int .u64 (a+b).toNat)) w:=by
 rw[Gw hx hy,jn,UInt64.toNat_add];congr 3
theorem uT(hx:ev E x=.int .u64 a.toNat)(hy:ev E y=.int .u64 b.toNat):exec P E (.binOp .sub t x y u) ty w=.ok (.value (.int .u64 (a-b).toNat)) w:=by
 rw[x_sub hx hy,jn,UInt64.toNat_sub];have:=a.toNat_lt;have:=b.toNat_lt;congr 3;omega
theorem Gh(hx:ev E x=.int .u64 a.toNat)(hy:ev E y=.int .u64 b.toNat):exec P E (.binOp .mul t x y u) ty w=.ok (.value (.int .u64 (a*b).toNat)) w:=by
 rw[x_mul hx hy,jn,UInt64.toNat_mul];congr 3
theorem Ai(hx:ev E x=.int .u64 a.toNat)(hy:ev E y=.int .u64 b.toNat):exec P E (.binOp .and t x y u) ty w=.ok (.value (.int .u64 (a &&& b).toNat)) w:=by
 rw[Gv hx hy];have e:(BitVec.ofInt IntKind.u64.bits (a.toNat:Int) &&& BitVec.ofInt IntKind.u64.bits (b.toNat:Int)).toNat=(a &&& b).toNat:=by
  show(BitVec.ofInt 64 _ &&& BitVec.ofInt 64 _).toNat=_;rw[tl,tl];rfl
 rw[e,jn];have:=(a &&& b).toNat_lt;congr 3;omega
theorem DG(hx:ev E x=.int .u64 a.toNat)(hy:ev E y=.int .u64 b.toNat):exec P E (.binOp .or t x y u) ty w=.ok (.value (.int .u64 (a ||| b).toNat)) w:=by
 rw[x_or hx hy];have e:(BitVec.ofInt IntKind.u64.bits (a.toNat:Int) ||| BitVec.ofInt IntKind.u64.bits (b.toNat:Int)).toNat=(a ||| b).toNat:=by
  show(BitVec.ofInt 64 _ ||| BitVec.ofInt 64 _).toNat=_;rw[tl,tl];rfl
 rw[e,jn];have:=(a ||| b).toNat_lt;congr 3;omega
theorem uS(hx:ev E x=.int .u64 a.toNat)(hy:ev E y=.int .u64 b.toNat):exec P E (.binOp .xor t x y u) ty w=.ok (.value (.int .u64 (a ^^^ b).toNat)) w:=by
 rw[Ga hx hy];have e:(BitVec.ofInt IntKind.u64.bits (a.toNat:Int) ^^^ BitVec.ofInt IntKind.u64.bits (b.toNat:Int)).toNat=(a ^^^ b).toNat:=by
  show(BitVec.ofInt 64 _ ^^^ BitVec.ofInt 64 _).toNat=_;rw[tl,tl];rfl
 rw[e,jn];have:=(a ^^^ b).toNat_lt;congr 3;omega
theorem qP{s:Nat}(hx:ev E x=.int .u64 a.toNat)(hy:ev E y=.int k c)(hs:c=(s:Int)):exec P E (.binOp .shl t x y u) ty w=.ok (.value (.int .u64 (Aw a s).toNat)) w:=by
 subst hs;rw[DD hx hy (by omega),jn];congr 3;unfold Aw;rw[UInt64.toNat_ofNat',Int.toNat_natCast,Nat.shiftLeft_eq];have hb:IntKind.u64.bits=64:=rfl;rw[hb];by_cases h:s<=64
 ·rw[Nat.min_eq_left h];have e2:∀m:Nat,((2:Int) ^ m)=((2 ^ m:Nat):Int):=λm=>(Int.natCast_pow 2 m).symm;rw[e2,<-Int.natCast_mul];omega
 ·rw[Nat.min_eq_right (by omega)];obtain⟨m,rfl⟩:∃m,s=64+m:=⟨s-64,by omega⟩
  have h1:a.toNat*2 ^ (64+m) % 2 ^ 64=0:=by
   rw[Nat.pow_add,<-Nat.mul_assoc,Nat.mul_right_comm,Nat.mul_mod_left]
  rw[h1];omega
theorem nQ{s:Nat}(hx:ev E x=.int .u64 a.toNat)(hy:ev E y=.int k c)(hs:c=(s:Int)):exec P E (.binOp .shr t x y u) ty w=.ok (.value (.int .u64 (pF a s).toNat)) w:=by
 subst hs;rw[Gb hx hy (by omega)];congr 3;unfold pF;rw[UInt64.toNat_ofNat',Int.toNat_natCast,Nat.shiftRight_eq_div_pow];have hb:IntKind.u64.bits=64:=rfl;rw[hb];have hlt:=a.toNat_lt;have hf:∀m:Nat,(a.toNat:Int).fdiv (2 ^ m)=((a.toNat / 2 ^ m:Nat):Int):=by
  intro m
  have:((2:Int) ^ m)=((2 ^ m:Nat):Int):=(Int.natCast_pow 2 m).symm
  rw[this,Int.fdiv_eq_ediv_of_nonneg _ (Int.natCast_nonneg _)];rfl
 rw[hf,Nat.mod_eq_of_lt (Nat.lt_of_le_of_lt (Nat.div_le_self _ _) (by omega))];by_cases h:s<=64
 ·rw[Nat.min_eq_left h]
 ·rw[Nat.min_eq_right (by omega)];have h1:a.toNat / 2 ^ 64=0:=Nat.div_eq_of_lt (by omega);have h2:a.toNat / 2 ^ s=0:=Nat.div_eq_of_lt (Nat.lt_of_lt_of_le (show a.toNat<2 ^ 64 by omega) (Nat.pow_le_pow_right (by omega) (by omega)));rw[h1,h2]
theorem Gf(hx:ev E x=.int .u64 a.toNat)(hy:ev E y=.int .u64 b.toNat):exec P E (.binOp .neq t x y u) ty w=.ok (.value (.bool (decide (a≠b)))) w:=by
 rw[bV hx hy];congr 3;rw[Bool.eq_iff_iff];simp only[decide_eq_true_eq];exact⟨λh h'=>h (by rw[h']),λh h'=>h (UInt64.toNat_inj.1 (by omega))⟩
theorem Gi(hx:ev E x=.int .u64 a.toNat)(hy:ev E y=.int .u64 b.toNat):exec P E (.binOp .lss t x y u) ty w=.ok (.value (.bool (decide (a<b)))) w:=by
 rw[bK hx hy];congr 3;rw[Bool.eq_iff_iff];simp only[decide_eq_true_eq,UInt64.lt_iff_toNat_lt];omega
theorem Gl(hx:ev E x=.int .u64 a.toNat)(hy:ev E y=.int .u64 b.toNat):exec P E (.binOp .gtr t x y u) ty w=.ok (.value (.bool (decide (b<a)))) w:=by
 rw[dk hx hy];congr 3;rw[Bool.eq_iff_iff];simp only[decide_eq_true_eq,UInt64.lt_iff_toNat_lt];omega
theorem m7(hx:ev E x=.int .u64 a.toNat)(hy:ev E y=.int .u64 b.toNat):exec P E (.binOp .geq t x y u) ty w=.ok (.value (.bool (decide (b<=a)))) w:=by
 rw[fC hx hy];congr 3;rw[Bool.eq_iff_iff];simp only[decide_eq_true_eq,UInt64.le_iff_toNat_le];omega
theorem dc{d:TypeDesc}(hx:ev E x=.int k c)(ht:P.underlying t=some d)(hu:P.underlying u=some (.int .u64)):exec P E (.convert t u x) ty w=.ok (.value (.int .u64 (dm c).toNat)) w:=by
 rw[zk hx ht hu,Cc]
end
theorem Ao(a:UInt8):gL (a.toNat:Int)=a.toUInt32:=by
 rw[kS];apply UInt32.toNat_inj.1;simp
theorem GK(a:UInt8):dm (a.toNat:Int)=a.toUInt64:=by
 rw[dR];apply UInt64.toNat_inj.1;simp
theorem An(a:UInt32):u6 (a.toNat:Int)=a.toUInt8:=by
 rw[rk];apply UInt8.toNat_inj.1;simp
theorem sH(a:UInt32):dm (a.toNat:Int)=a.toUInt64:=by
 rw[dR];apply UInt64.toNat_inj.1;simp
theorem xX(a:UInt64):gL (a.toNat:Int)=a.toUInt32:=by
 rw[kS];apply UInt32.toNat_inj.1;simp
class Flat (α:Type) where
 sz:Nat
 enc:α->List Value
 len:∀a,(enc a).length=sz
 cell:∀a,∀v∈enc a,fI v=true
def bl{α:Type}[Flat α](l:List α):List Value:=l.flatMap Flat.enc
section
variable {α:Type}[Flat α]
theorem iI(a:α)(l:List α):bl (a::l)=Flat.enc a++bl l:=by simp[bl]
theorem dP(l m:List α):bl (l++m)=bl l++bl m:=by simp[bl]
theorem aV(l:List α):(bl l).length=l.length*Flat.sz α:=by
 induction l with
 | nil => simp [bl]
 | cons a l ih => rw [iI, List.length_append, ih, Flat.len, List.length_cons, Nat.add_mul]; omega
theorem gx(l:List α):∀v∈bl l,fI v=true:=by
 intro v hv;obtain⟨a,_,h⟩:=List.mem_flatMap.1 hv;exact Flat.cell a v h
theorem gP(l:List α):∀k,(bl l).take (k*Flat.sz α)=bl (l.take k):=by
 induction l with
 | nil => intro k; simp [bl]
 | cons a l ih =>
  intro k;cases k with
  | zero => simp [bl]
  | succ k =>
   rw[iI,List.take_succ_cons,iI,<-ih k,List.take_append,Flat.len,List.take_of_length_le (by rw[Flat.len,Nat.add_mul];omega)];rw[show(k+1)*Flat.sz α-Flat.sz α=k*Flat.sz α from by rw[Nat.add_mul];omega]
theorem fg(l:List α):∀k,(bl l).drop (k*Flat.sz α)=bl (l.drop k):=by
 induction l with
 | nil => intro k; simp [bl]
 | cons a l ih =>
  intro k;cases k with
  | zero => simp [bl]
  | succ k =>
   rw[iI,List.drop_succ_cons,<-ih k,List.drop_append,Flat.len,List.drop_of_length_le (by rw[Flat.len,Nat.add_mul];omega)];rw[show(k+1)*Flat.sz α-Flat.sz α=k*Flat.sz α from by rw[Nat.add_mul];omega];rfl
theorem s9(l:List α){i:Nat}{a:α}(h:l[i]?=some a)(j:Nat)(hj:j<Flat.sz α):(bl l)[i*Flat.sz α+j]?=(Flat.enc a)[j]?:=by
 have h1:(bl l)[i*Flat.sz α+j]?=((bl l).drop (i*Flat.sz α))[j]?:=by rw[List.getElem?_drop]
 rw[h1,fg];obtain⟨hi,rfl⟩:=List.getElem?_eq_some_iff.1 h;rw[List.drop_eq_getElem_cons hi,iI,List.getElem?_append_left (by rw[Flat.len];exact hj)]
end
instance:Flat UInt8:=⟨1,λb=>[.int .u8 b.toNat],λ_=>rfl,λ_ v h=>by simp at h;subst h;rfl⟩
instance:Flat UInt32:=⟨1,λb=>[.int .u32 b.toNat],λ_=>rfl,λ_ v h=>by simp at h;subst h;rfl⟩
instance:Flat UInt64:=⟨1,λb=>[.int .u64 b.toNat],λ_=>rfl,λ_ v h=>by simp at h;subst h;rfl⟩
instance:Flat Int:=⟨1,λb=>[.int .i64 b],λ_=>rfl,λ_ v h=>by simp at h;subst h;rfl⟩
instance:Flat Bool:=⟨1,λb=>[.bool b],λ_=>rfl,λ_ v h=>by simp at h;subst h;rfl⟩
abbrev str(l:List UInt8):Value:=.string ⟨l.toArray⟩
def ay:Value->List Nat
 | .slice (some a) _ _ => [a.block]
 | .pointer (some a) => [a.block]
 | .map (some r) => [r]
 | _ => []
def In(v:Value)(S:List Nat)(n:Nat):Prop:=∀b∈ay v,b∈S∨n<=b
theorem In.mono{v:Value}{S S':List Nat}{n n':Nat}(h:In v S n)(hs:∀b∈S,b∈S'∨n'<=b)(hn:n'<=n):In v S' n' :=
 λb hb=>(h b hb).elim (hs b) λh=>.inr (by omega)
def Sl{α:Type}[Flat α](w:World)(v:Value)(l:List α):Prop :=
 ∃p cap,v=.slice p l.length cap/\l.length<=cap/\match p with
  | none => l = []
  | some a => a.spot = none /\ At w a.block a.off (bl l)
def Own{α:Type}[Flat α](w:World)(v:Value)(l:List α):Prop :=
 ∃p cap,v=.slice p l.length cap/\l.length<=cap/\match p with
  | none => l = [] /\ cap = 0
  | some a => a.spot = none /\ ∃ c e fr, w.heap[a.block]? = some (.cells c e fr) /\ Soft c fr /\ a.off + cap * Flat.sz α <= c.size /\ ∀ i x, (bl l)[i]? = some x -> c[a.off + i]? = some x
section
variable {α:Type}[Flat α]{w w':World}{v:Value}{l:List α}{S:List Nat}
theorem Own.sl(h:Own w v l):Sl w v l:=by
 obtain⟨p,cap,rfl,hc,h⟩:=h;refine⟨p,cap,rfl,hc,?_⟩;cases p with
 | none => exact h.1
 | some a => obtain ⟨h1, c, e, fr, h2, _, _, h3⟩ := h; exact ⟨h1, c, e, fr, h2, h3⟩
theorem Sl.mod(h:Sl w v l)(hm:Chg S w w')(hn:∀b∈ay v,b∉S):Sl w' v l:=by
 obtain⟨p,cap,rfl,hc,h⟩:=h;refine⟨p,cap,rfl,hc,?_⟩;cases p with
 | none => exact h
 | some a => exact ⟨h.1, h.2.mod hm (hn _ (by simp [ay]))⟩
theorem Sl.mod0(h:Sl w v l)(hm:Chg [] w w'):Sl w' v l:=h.mod hm (by simp)
theorem Own.mod(h:Own w v l)(hm:Chg S w w')(hn:∀b∈ay v,b∉S):Own w' v l:=by
 obtain⟨p,cap,rfl,hc,h⟩:=h;refine⟨p,cap,rfl,hc,?_⟩;cases p with
 | none => exact h
 | some a => obtain ⟨h1, c, e, fr, h2, h3⟩ := h; exact ⟨h1, c, e, fr, hm.blk h2 (hn _ (by simp [ay])), h3⟩
theorem Own.mod0(h:Own w v l)(hm:Chg [] w w'):Own w' v l:=h.mod hm (by simp)
theorem Sl.lt(h:Sl w v l):∀b∈ay v,b<w.heap.size:=by
 obtain⟨p,cap,rfl,_,h⟩:=h;cases p with
 | none => simp [ay]
 | some a => simp only [ay, List.mem_singleton, forall_eq]; exact h.2.lt
theorem Sl.heap(h:Sl w v l)(hh:Hp w' w):Sl w' v l:=h.mod0 (Chg.heap hh)
theorem Own.heap(h:Own w v l)(hh:Hp w' w):Own w' v l:=h.mod0 (Chg.heap hh)
theorem Sl.nil(w:World)(n:Nat):Sl w (.slice none 0 n) ([]:List α):=⟨none,n,rfl,Nat.zero_le _,rfl⟩
theorem Own.nil(w:World):Own w (.slice none 0 0) ([]:List α):=⟨none,0,rfl,Nat.zero_le _,rfl,rfl⟩
theorem In.fresh{n:Nat}(h:In v [] n)(_:Chg S w w')(hs:∀b∈S,b<n):∀b∈ay v,b∉S:=λb hb hh=>by
 rcases h b hb with h'|h'
 ·simp at h'
 ·have:=hs b hh;omega
end
theorem F0{P:Program}{w:World}{p:Option Addr}{n c:Nat}:(Builtin.lenOf (.slice p n c)).run P w=.ok n w:=rfl
theorem xi{P:Program}{w:World}{s:ByteArray}:(Builtin.lenOf (.string s)).run P w=.ok s.size w:=rfl
theorem Sl.first{α:Type}[Flat α]{P:Program}{w:World}{v:Value}{l:List α}(h:Sl w v l)(n:Nat)(hn:n<=l.length):(Builtin.firstCells (Flat.sz α) n v).run P w=.ok (bl (l.take n)).toArray w:=by
 obtain⟨p,cap,rfl,_,h⟩:=h;cases p with
 | none =>
  simp only at h;subst h
  have:n=0:=by simpa using hn
  subst this;rfl
 | some a =>
  obtain⟨b,off,sp⟩:=a;obtain⟨h1,h2⟩:=h;simp only at h1;subst h1
  have:=iQ (P:=P) (h2.take (n*Flat.sz α))
  rw[gP,aV,List.length_take,Nat.min_eq_left hn] at this;exact this
def u8v(b:UInt8):Value:=.int .u8 b.toNat
theorem s8(l:List UInt8):bl l=l.map u8v:=by
 induction l with
 | nil => rfl
 | cons a l ih => rw [iI, ih]; rfl
theorem Bi{α:Type}[Flat α](f:α->Value)(h:∀a:α,Flat.enc a=[f a])(l:List α):bl l=l.map f:=by
 induction l with
 | nil => rfl
 | cons a l ih => rw [iI, ih, h]; rfl
theorem Fz{P:Program}{w:World}{l:List UInt8}(n:Nat):(Builtin.firstCells 1 n (str l)).run P w=.ok (bl (l.take n)).toArray w:=by
 rw[s8];show Result.ok (((⟨l.toArray⟩:ByteArray).extract 0 n).data.map λb=>Value.int .u8 b.toNat) w=_;congr 1;apply Array.ext';simp only[ByteArray.data_extract,Array.toList_map,Array.toList_extract,List.extract_eq_take_drop,List.drop_zero,Nat.sub_zero];rfl
theorem rD{c:Array Value}{off:Nat}{vs:List Value}{i:Nat}{x:Value}(h:off+vs.length<=c.size)(hi:c[i]?=some x)(ho:i<off∨off+vs.length<=i):(gn c off vs)[i]?=some x:=by
 rw[iT _ _ _ _ h,if_neg (by omega)];exact hi
theorem vS{c:Array Value}{off:Nat}{vs:List Value}{i:Nat}{x:Value}(h:off+vs.length<=c.size)(hi:vs[i]?=some x):(gn c off vs)[off+i]?=some x:=by
 have:i<vs.length:=(List.getElem?_eq_some_iff.1 hi).1
 rw[iT _ _ _ _ h,if_pos (by omega),show off+i-off=i from by omega];exact hi
theorem ql(need cap:Nat)(h:cap<need):Builtin.nextslicecap need cap<=4*need+2000:=by
 unfold Builtin.nextslicecap
 split
 ·omega
 ·split
  ·omega
  ·simp only[Builtin.growBy]
   split
   ·omega
   ·split
    ·omega
    ·split
     ·omega
     ·split <;> omega
structure Appended{α:Type}[Flat α](vx:Value)(l m:List α)(w:World)(v':Value)(w':World):Prop where
 own:Own w' v' (l++m)
 mod:Chg (ay vx) w w'
 inn:In v' (ay vx) w.heap.size
theorem mZ{P:Program}{w:World}{need cap:Nat}{e:TypeId}:∃n,need<=n/\(choose (.appendCap need cap e)).run P w=.ok n { w with drawn:=w.drawn+1 }:=by
 refine⟨_,?_,rfl⟩;simp only[Question.cut];omega
theorem lN{P:Program}{w:World}{n:Nat}:(askRoom n).run P w=.ok () w:=by
 unfold askRoom
 split <;> rfl
theorem kX(z:Array Value)(n:Nat):(Builtin.zeroCells z n).size=n*z.size:=by simp[Builtin.zeroCells]
theorem rJ{α:Type}[Flat α]{w:World}{l:List α}{e:TypeId}{rest:Array Value}{cap:Nat}(hc:l.length<=cap)(hr:rest.size=(cap-l.length)*Flat.sz α) :
  Own (w.pushB (.cells ((bl l).toArray++rest) e)) (.slice (some ⟨w.heap.size,0,none⟩) l.length cap) l:=by
 refine⟨_,cap,rfl,hc,rfl,_,e,(0,0),fS _ _,jc _,?_,?_⟩
 ·simp only[Nat.zero_add,Array.size_append,List.size_toArray,aV,hr];rw[<-Nat.add_mul];rw[Nat.add_sub_cancel' hc];exact Nat.le_refl _
 ·intro i x hi;rw[Nat.zero_add,Array.getElem?_append_left (by simpa using (List.getElem?_eq_some_iff.1 hi).1)]
  simpa using hi
section
variable {α:Type}[Flat α]{P:Program}{E:Env}{w:World}{ty t t':TypeId}{x y:Operand}
def Src(α:Type)[Flat α](P:Program)(w:World)(v:Value)(m:List α):Prop :=
 (Builtin.lenOf v).run P w=.ok m.length w/\∀w',Hp w' w->∀n,n<=m.length->(Builtin.firstCells (Flat.sz α) n v).run P w'=.ok (bl (m.take n)).toArray w'
theorem Sl.src{v:Value}{m:List α}(h:Sl w v m):Src α P w v m:=by
 refine⟨?_,λw' hh n hn=>(h.heap hh).first n hn⟩;obtain⟨p,cap,rfl,_,_⟩:=h;rfl
theorem src_str{m:List UInt8}:Src UInt8 P w (str m) m:=by
 refine⟨?_,λw' _ n _=>Fz n⟩;rw[show str m=.string ⟨m.toArray⟩ from rfl,xi];rfl
theorem sf:exec P E (.call { callee:=.builtin .append,args:=#[x,y],argTypes:=#[t,t'] }) ty w=(jY (Builtin.append_ #[t,t'] ty #[ev E x,ev E y])).run P w:=by
 rw[ud];simp only[List.map_toArray,List.map_cons,List.map_nil];rfl
theorem vg{e:TypeId}{i:TypeInfo}{z:Value}{d:TypeDesc}{vx vy:Value}{l m:List α}(ht:P.underlying t=some (.slice e))(ht':P.underlying t'=some d)(hd:d=.string∨∃e',d=.slice e')
  (hi:P.info? e=some i) (hz:i.zero=some z) (hsz:i.size=Flat.sz α) (hzs:z.cells.size=Flat.sz α) (hby:i.bytes<=1024) (hx:ev E x=vx) (hy:ev E y=vy)
  (hl:Own w vx l) (hm:Src α P w vy m) (hb:l.length+m.length<=1073741824) :
  ∃v' w',exec P E (.call { callee:=.builtin .append,args:=#[x,y],argTypes:=#[t,t'] }) ty w=.ok (.value v') w'/\Appended vx l m w v' w':=by
 obtain⟨p,cap,rfl,hlc,hp⟩:=hl;have hown:Own w (.slice p l.length cap) l:=⟨p,cap,rfl,hlc,hp⟩
 have key:∃v' w',(Builtin.append_ #[t,t'] ty #[.slice p l.length cap,vy]).run P w=.ok v' w'/\Appended (.slice p l.length cap) l m w v' w':=by
  unfold Builtin.append_;simp only[List.getElem?_toArray,List.getElem?_cons_zero,List.getElem?_cons_succ];rw[ar (run_underlying ht w)];simp only[];rw[ar (cx hi w)];rw[ar (run_underlying ht' w)];rcases hd with rfl|⟨e',rfl⟩
  all_goals
   simp only[pure_bind,Bool.false_eq_true,if_false,Bool.not_false,if_true];rw[ar hm.1];by_cases hc:l.length+m.length<=cap
   ·rw[if_pos hc];have hfirst:=hm.2 w rfl m.length (Nat.le_refl _);rw[List.take_length,<-hsz] at hfirst;rw[ar hfirst];cases p with
    | none =>
     obtain⟨rfl,rfl⟩:=hp;have hm0:m=[]:=List.eq_nil_of_length_eq_zero (by simpa using hc);subst hm0;exact⟨_,w,rfl,⟨none,0,rfl,Nat.zero_le _,rfl,rfl⟩,Chg.refl' _ _,by intro b hb;simp[ay] at hb⟩
    | some a =>
     obtain⟨b,off,sp⟩:=a;obtain⟨h1,c,ee,fr,h2,h3,h4,h5⟩:=hp;simp only at h1 h2 h4 h5;subst h1;have hlen:(bl m).length=m.length*Flat.sz α:=aV m;have hroom:off+l.length*Flat.sz α+(bl m).length<=c.size:=by
      rw[hlen]
      have:l.length*Flat.sz α+m.length*Flat.sz α<=cap*Flat.sz α:=by rw[<-Nat.add_mul];exact Nat.mul_le_mul_right _ hc
      omega
     simp only[eD,hsz];rw[ar (fh _ h2 (by simpa using hroom) h3 (by simpa using gx m))];refine⟨_,_,rfl,⟨some ⟨b,off,none⟩,cap,by rw[List.length_append],by simpa using hc,rfl,_,ee,fr,eB (cG h2),h3.size (cY _ _ _),by rw[cY];exact h4,?_⟩,?_,?_⟩
     ·intro k q hk;rw[dP] at hk;simp only at hk ⊢;by_cases hkl:k<(bl l).length
      ·rw[List.getElem?_append_left hkl] at hk;rw[aV] at hkl;exact rD (by simpa using hroom) (h5 k q hk) (by omega)
      ·rw[List.getElem?_append_right (by omega)] at hk;rw[aV] at hkl hk
       have:=vS (c:=c) (off:=off+l.length*Flat.sz α) (vs:=(bl m).toArray.toList) (by simpa using hroom) (by simpa using hk)
       rw[show off+l.length*Flat.sz α+(k-l.length*Flat.sz α)=off+k from by omega] at this;exact this
     ·exact(Chg.set _ _ _).mono (λb hb _=>by simpa [ay] using hb)
     ·intro b hb;left;simpa [ay] using hb
   ·rw[if_neg hc];have hov:¬((l.length+m.length:Nat):Int) > IntKind.i64.max:=by
     have:IntKind.i64.max=9223372036854775807:=by decide
     omega
    rw[ar (dF hi w),if_neg (by intro h;exact absurd h.1 hov),ar (dF hi w)];have hnc:=ql (l.length+m.length) cap (by omega);have hnb:¬Builtin.nextslicecap (l.length+m.length) cap*i.bytes > 2 ^ 48:=by
     have:Builtin.nextslicecap (l.length+m.length) cap*i.bytes<=(4*1073741824+2000)*1024:=Nat.mul_le_mul (by omega) hby
     omega
    rw[if_neg hnb];obtain⟨nc,hnc1,hch⟩:=mZ (P:=P) (w:=w) (need:=l.length+m.length) (cap:=cap) (e:=e);rw[ar hch];rw[ar (dF hi _),ar lN];have hf1:=((hown.sl.heap (w':={ w with drawn:=w.drawn+1 }) rfl).first (P:=P) l.length (Nat.le_refl _))
    rw[List.take_length,<-hsz] at hf1;rw[ar hf1];have hf2:=hm.2 { w with drawn:=w.drawn+1 } rfl m.length (Nat.le_refl _)
    rw[List.take_length,<-hsz] at hf2;rw[ar hf2,ar (dq hi hz _)];refine⟨.slice (some ⟨w.heap.size,0,none⟩) (l++m).length nc,_,?_,rJ (w:={ w with drawn:=w.drawn+1 }) (l:=l++m) (e:=e) (rest:=Builtin.zeroCells z.cells (nc-(l.length+m.length))) (cap:=nc) (by simpa using hnc1) ?_,?_,?_⟩
    ·rw[List.length_append,dP];simp only[<-List.append_toArray];rfl
    ·rw[kX,hzs,List.length_append]
    ·exact(Chg.push { w with drawn:=w.drawn+1 } _).mono (by simp)
    ·intro b hb;right;simp only[ay,List.mem_singleton] at hb;omega
 obtain⟨v',w',h1,h2⟩:=key;refine⟨v',w',?_,h2⟩;rw[sf,hx,hy];exact bh h1
end
section
variable {α:Type}[Flat α]{P:Program}{E:Env}{w:World}{ty t t' u:TypeId}{x y c lo hi mx:Operand}
theorem HR:exec P E (.call { callee:=.builtin .copy,args:=#[x,y],argTypes:=#[t,t'] }) ty w=(jY (Builtin.copy_ #[t,t'] ty #[ev E x,ev E y])).run P w:=by
 rw[ud];simp only[List.map_toArray,List.map_cons,List.map_nil];rfl
theorem Cb{e:TypeId}{i:TypeInfo}{b off dl dcap:Nat}{cs:Array Value}{be:TypeId}{fr:Nat×Nat}{vy:Value}{m:List α}(ht:P.underlying t=some (.slice e))(hi:P.info? e=some i)(hsz:i.size=Flat.sz α)
  (hx:ev E x=.slice (some ⟨b,off,none⟩) dl dcap) (hy:ev E y=vy) (hm:Src α P w vy m) (hb:w.heap[b]?=some (.cells cs be fr)) (hf:Soft cs fr) (hr:off+dl*Flat.sz α<=cs.size) :
  exec P E (.call { callee:=.builtin .copy,args:=#[x,y],argTypes:=#[t,t'] }) ty w =
   .ok (.value (.int .i64 (min m.length dl:Nat))) (w.setB b (.cells (gn cs off (bl (m.take (min m.length dl)))) be fr)):=by
 rw[HR,hx,hy];refine bh ?_;unfold Builtin.copy_;simp only[List.getElem?_toArray,List.getElem?_cons_zero,List.getElem?_cons_succ];rw[ar (run_underlying ht w)];simp only[];rw[ar hm.1,ar (cx hi w),hsz];have hmin:Nat.min m.length dl=min m.length dl:=rfl;rw[hmin,ar (hm.2 w rfl _ (Nat.min_le_left _ _))];have hlen:(bl (m.take (min m.length dl))).length<=dl*Flat.sz α:=by
  rw[aV,List.length_take];exact Nat.mul_le_mul_right _ (by omega)
 rw[ar (fh _ hb (by simp only;omega) hf (by simpa using gx _))];rfl
theorem kR{l h m:Option Operand}:exec P E (.slice t x l h m) ty w=(jY (Instr.sliceAt t (ev E x) (l.map (ev E)) (h.map (ev E)) (m.map (ev E)))).run P w:=rfl
theorem dA{i:Int}{k:IntKind}{y:Nat}{code:BoundsCode}(h:0<=i/\i<=y):(Instr.sliceBound (.int k i) y code).run P w=.ok i.toNat w:=by
 unfold Instr.sliceBound;simp only[asIntOf,pure_bind];rw[if_pos h];rfl
theorem il{e:TypeId}{v:Value}{l h m:Option Value}(ht:P.underlying t=some (.slice e)):(Instr.sliceAt t v l h m).run P w=(Instr.slice t v l h m).run P w:=by
 unfold Instr.sliceAt;rw[ar (run_underlying ht w)]
theorem qS{e:TypeId}{i:TypeInfo}{p:Option Addr}{l cap:Nat}{k:IntKind}{j:Int}(ht:P.underlying t=some (.slice e))(hi:P.info? e=some i)(hx:ev E x=.slice p l cap)(hl:ev E lo=.int k j)(hj:0<=j/\j<=l) :
  exec P E (.slice t x (some lo) none none) ty w=.ok (.value (.slice (if cap=j.toNat then p else p.map (·.add (j.toNat*i.size))) (l-j.toNat) (cap-j.toNat))) w:=by
 rw[kR,hx];refine bh ?_;rw[il ht];unfold Instr.slice Instr.sliceBounds;rw[ar (run_underlying ht w)];simp only[Option.map_some,Option.map_none,pure_bind,hl,bind_assoc];rw[ar (dA hj)];rw[ar (cx hi w)];rfl
theorem Ah{e:TypeId}{i:TypeInfo}{p:Option Addr}{l cap:Nat}{k:IntKind}{j:Int}(ht:P.underlying t=some (.slice e))(hi':P.info? e=some i)(hx:ev E x=.slice p l cap)(hl:ev E hi=.int k j)(hj:0<=j/\j<=cap) :
  exec P E (.slice t x none (some hi) none) ty w=.ok (.value (.slice (if cap=0 then p else p.map (·.add 0)) j.toNat cap)) w:=by
 rw[kR,hx];refine bh ?_;rw[il ht];unfold Instr.slice Instr.sliceBounds;rw[ar (run_underlying ht w)];simp only[Option.map_some,Option.map_none,pure_bind,hl,bind_assoc];rw[ar (dA hj)];rw[ar (cx hi' w)];simp only[Nat.zero_mul,Nat.sub_zero];rfl
theorem xO{e:TypeId}{i:TypeInfo}{p:Option Addr}{l cap:Nat}{k k':IntKind}{j j':Int}(ht:P.underlying t=some (.slice e))(hi':P.info? e=some i)(hx:ev E x=.slice p l cap)(hl:ev E hi=.int k j)(hm:ev E mx=.int k' j')
  (hj:0<=j/\j<=j') (hj':0<=j'/\j'<=cap) :
  exec P E (.slice t x none (some hi) (some mx)) ty w=.ok (.value (.slice (if j'.toNat=0 then p else p.map (·.add 0)) j.toNat j'.toNat)) w:=by
 rw[kR,hx];refine bh ?_;rw[il ht];unfold Instr.slice Instr.sliceBounds;rw[ar (run_underlying ht w)];simp only[Option.map_some,Option.map_none,hl,hm,bind_assoc,if_true];rw[ar (dA hj')];rw[ar (dA (by omega))];simp only[pure_bind];rw[ar (cx hi' w)];simp only[Nat.zero_mul,Nat.sub_zero];rfl
theorem vd{e:TypeId}{i:TypeInfo}{p:Option Addr}{l cap:Nat}{k k':IntKind}{j j':Int}(ht:P.underlying t=some (.slice e))(hi':P.info? e=some i)(hx:ev E x=.slice p l cap)(hl:ev E lo=.int k j)(hh:ev E hi=.int k' j')
  (hj:0<=j/\j<=j') (hj':0<=j'/\j'<=cap) :
  exec P E (.slice t x (some lo) (some hi) none) ty w=.ok (.value (.slice (if cap=j.toNat then p else p.map (·.add (j.toNat*i.size))) (j'.toNat-j.toNat) (cap-j.toNat))) w:=by
 rw[kR,hx];refine bh ?_;rw[il ht];unfold Instr.slice Instr.sliceBounds;rw[ar (run_underlying ht w)];simp only[Option.map_some,Option.map_none,pure_bind,hl,hh,bind_assoc];rw[ar (dA hj')];rw[ar (dA (by omega))];rw[ar (cx hi' w)];rfl
theorem add_blk{p:Option Addr}{l c n:Nat}:ay (.slice (p.map (·.add n)) l c)=ay (.slice p l c):=by
 cases p with
 | none => rfl
 | some a => simp only [Option.map_some, ay, Addr.add]; split <;> rfl
theorem qB{p:Option Addr}{l c l' c':Nat}:ay (.slice p l c)=ay (.slice p l' c'):=by cases p <;> rfl
theorem pe{q:Prop}[Decidable q]{p p':Option Addr}{l c l' c':Nat}(h:ay (.slice p l c)=ay (.slice p' l c)):ay (.slice (if q then p else p') l' c')=ay (.slice p l c):=by
 split
 ·exact qB
 ·rw[qB (l:=l') (c:=c') (l':=l) (c':=c)];exact h.symm
theorem Sl.cut{p:Option Addr}{l:List α}{cap len lo n:Nat}(h:Sl w (.slice p len cap) l)(hn:lo+n<=l.length){c':Nat}(hc':n<=c') :
  Sl w (.slice (if cap=lo then p else p.map (·.add (lo*Flat.sz α))) n c') ((l.drop lo).take n):=by
 obtain⟨p',cap',he,hlc,h⟩:=h;simp only[Value.slice.injEq] at he;obtain⟨rfl,rfl,rfl⟩:=he;have hlen:((l.drop lo).take n).length=n:=by rw[List.length_take,List.length_drop];omega
 cases p with
 | none =>
  simp only at h;subst h;simp only[List.length_nil] at hn;have h1:n=0:=by omega
  subst h1;refine⟨none,c',by split <;> rfl,by simp,by simp⟩
 | some a =>
  obtain⟨b,off,sp⟩:=a;obtain⟨h1,h2⟩:=h;simp only at h1 h2;subst h1;simp only[Option.map_some,eD];have h3:At w b (off+lo*Flat.sz α) (bl ((l.drop lo).take n)):=by
   rw[<-gP,<-fg];exact(h2.drop _).take _
  by_cases hc:cap=lo
  ·refine⟨some ⟨b,off,none⟩,c',by rw[if_pos hc,hlen],by rw[hlen];exact hc',rfl,?_⟩;have hn0:n=0:=by omega
   subst hn0;obtain⟨cs,e,fr,hb,_⟩:=h2;exact⟨cs,e,fr,hb,by simp[bl]⟩
  ·exact⟨some ⟨b,off+lo*Flat.sz α,none⟩,c',by rw[if_neg hc,hlen],by rw[hlen];exact hc',rfl,h3⟩
theorem Own.cut_lo{p:Option Addr}{l:List α}{cap len lo:Nat}(h:Own w (.slice p len cap) l)(hn:lo<=l.length) :
  Own w (.slice (if cap=lo then p else p.map (·.add (lo*Flat.sz α))) (len-lo) (cap-lo)) (l.drop lo):=by
 obtain⟨p',cap',he,hlc,h⟩:=h;simp only[Value.slice.injEq] at he;obtain⟨rfl,rfl,rfl⟩:=he;cases p with
 | none =>
  obtain⟨rfl,rfl⟩:=h;simp only[List.length_nil] at hn;have h1:lo=0:=by omega
  subst h1;exact⟨none,0,rfl,Nat.zero_le _,rfl,rfl⟩
 | some a =>
  obtain⟨b,off,sp⟩:=a;obtain⟨h1,c,e,fr,hb,hf,hr,hc⟩:=h;simp only at h1 hb hr hc;subst h1;simp only[Option.map_some,eD];by_cases hcl:cap=lo
  ·subst hcl;refine⟨some ⟨b,off,none⟩,0,by simp,by simp;omega,rfl,c,e,fr,hb,hf,by simp;omega,?_⟩;intro i x hi;rw[List.drop_of_length_le (by omega)] at hi;simp[bl] at hi
  ·refine⟨some ⟨b,off+lo*Flat.sz α,none⟩,cap-lo,by rw[if_neg hcl];simp,by simp;omega,rfl,c,e,fr,hb,hf,?_,?_⟩
   ·show off+lo*Flat.sz α+(cap-lo)*Flat.sz α<=c.size;rw[Nat.add_assoc,<-Nat.add_mul,Nat.add_sub_cancel' (by omega)];exact hr
   ·intro i x hi;rw[<-fg,List.getElem?_drop] at hi;show c[off+lo*Flat.sz α+i]?=some x;rw[Nat.add_assoc];exact hc _ _ hi
theorem eN(n:Nat){e:TypeId}{i:TypeInfo}{v:Value}{l:List α}{k:IntKind}{j:Int}(ht:P.underlying t=some (.slice e))(hi:P.info? e=some i)(hsz:i.size=Flat.sz α)(hs:Sl w v l)(hx:ev E x=v)(hl:ev E lo=.int k j)(hn:j=n)(hj:n<=l.length) :
  ∃v',(∀w',exec P E (.slice t x (some lo) none none) ty w'=.ok (.value v') w')/\(∃p c,v'=.slice p (l.length-n) c)/\Sl w v' (l.drop n)/\ay v'=ay v:=by
 subst hn;have hs':=hs;obtain⟨p,cap,rfl,hlc,h⟩:=hs;refine⟨_,λw'=>qS ht hi hx hl (by omega),⟨_,_,rfl⟩,?_,?_⟩
 ·have:=hs'.cut (lo:=n) (n:=l.length-n) (by omega) (c':=cap-n) (by omega)
  rw[hsz]
  rwa [List.take_of_length_le (by rw[List.length_drop];omega)] at this
 ·rw[pe (p:=p) (l:=l.length) (c:=cap) add_blk.symm]
theorem jl(n:Nat){e:TypeId}{i:TypeInfo}{v:Value}{l:List α}{k:IntKind}{j:Int}(ht:P.underlying t=some (.slice e))(hi':P.info? e=some i)(hs:Sl w v l)(hx:ev E x=v)(hl:ev E hi=.int k j)(hn:j=n)(hj:n<=l.length) :
  ∃v',(∀w',exec P E (.slice t x none (some hi) none) ty w'=.ok (.value v') w')/\(∃p c,v'=.slice p n c)/\Sl w v' (l.take n)/\ay v'=ay v:=by
 subst hn;have hs':=hs;obtain⟨p,cap,rfl,hlc,h⟩:=hs;refine⟨_,λw'=>Ah ht hi' hx hl (by omega),⟨_,_,rfl⟩,?_,?_⟩
 ·have:=hs'.cut (lo:=0) (n:=n) (by omega) (c':=cap) (by omega)
  simpa using this
 ·rw[pe (p:=p) (l:=l.length) (c:=cap) add_blk.symm]
theorem oM(n m:Nat){e:TypeId}{i:TypeInfo}{v:Value}{l:List α}{k k':IntKind}{j j':Int}(ht:P.underlying t=some (.slice e))(hi':P.info? e=some i)(hs:Sl w v l)(hx:ev E x=v)(hl:ev E hi=.int k j)(hm:ev E mx=.int k' j')(hn:j=n)(hn':j'=m)(hj:n<=m/\m<=l.length) :
  ∃v',(∀w',exec P E (.slice t x none (some hi) (some mx)) ty w'=.ok (.value v') w')/\(∃p,v'=.slice p n m)/\Sl w v' (l.take n)/\ay v'=ay v:=by
 subst hn hn';have hs':=hs;obtain⟨p,cap,rfl,hlc,h⟩:=hs;refine⟨_,λw'=>xO ht hi' hx hl hm (by omega) (by omega),⟨_,rfl⟩,?_,?_⟩
 ·have:=hs'.cut (lo:=0) (n:=n) (by omega) (c':=m) (by omega)
  simp only[Nat.zero_mul,List.drop_zero] at this;by_cases h0:m=0
  ·have hj0:n=0:=by omega
   subst h0 hj0;rw[if_pos (by rfl)];cases p with
   | none => simp only at h; subst h; exact ⟨none, 0, rfl, Nat.zero_le _, rfl⟩
   | some a =>
    obtain⟨h1,cs,ee,fr,hb,_⟩:=h;exact⟨some a,0,rfl,Nat.zero_le _,h1,cs,ee,fr,hb,by simp[bl]⟩
  ·rw[if_neg (by simpa using h0)];by_cases hc0:cap=0
   ·omega
   ·rw[if_neg hc0] at this;simpa using this
 ·rw[pe (p:=p) (l:=l.length) (c:=cap) add_blk.symm]
theorem uY(n m:Nat){e:TypeId}{i:TypeInfo}{v:Value}{l:List α}{k k':IntKind}{j j':Int}(ht:P.underlying t=some (.slice e))(hi':P.info? e=some i)(hsz:i.size=Flat.sz α)(hs:Sl w v l)(hx:ev E x=v)(hl:ev E lo=.int k j)(hh:ev E hi=.int k' j')(hn:j=n)(hn':j'=m)(hj:n<=m/\m<=l.length) :
  ∃v',(∀w',exec P E (.slice t x (some lo) (some hi) none) ty w'=.ok (.value v') w')/\(∃p c,v'=.slice p (m-n) c)/\Sl w v' ((l.drop n).take (m-n))/\ay v'=ay v:=by
 subst hn hn';have hs':=hs;obtain⟨p,cap,rfl,hlc,h⟩:=hs;refine⟨_,λw'=>vd ht hi' hx hl hh (by omega) (by omega),⟨_,_,rfl⟩,?_,?_⟩
 ·have:=hs'.cut (lo:=n) (n:=m-n) (by omega) (c':=cap-n) (by omega)
  rw[hsz];exact this
 ·rw[pe (p:=p) (l:=l.length) (c:=cap) add_blk.symm]
theorem cI{e:TypeId}{n b off:Nat}{i:TypeInfo}(ht:P.underlying t=some (.array n e))(hi':P.info? e=some i)(hx:ev E x=.pointer (some ⟨b,off,none⟩)) :
  exec P E (.slice t x none none none) ty w=.ok (.value (.slice (some ⟨b,off,none⟩) n n)) w:=by
 rw[kR,hx];refine bh ?_;unfold Instr.sliceAt Instr.sliceBounds;rw[ar (run_underlying ht w)];simp only[Option.map_none,pure_bind];rw[ar (show(Instr.sureAddr (.pointer (some ⟨b,off,none⟩))).run P w=.ok ⟨b,off,none⟩ w from rfl)];rw[ar (cx hi' w)];simp only[Nat.zero_mul,Nat.sub_zero,eD,Nat.add_zero,ite_self];rfl
theorem Gs{e:TypeId}{n b off:Nat}{i:TypeInfo}{k:IntKind}{j:Int}(ht:P.underlying t=some (.array n e))(hi':P.info? e=some i)(hx:ev E x=.pointer (some ⟨b,off,none⟩))(hl:ev E hi=.int k j)(hj:0<=j/\j<=n) :
  exec P E (.slice t x none (some hi) none) ty w=.ok (.value (.slice (some ⟨b,off,none⟩) j.toNat n)) w:=by
 rw[kR,hx];refine bh ?_;unfold Instr.sliceAt Instr.sliceBounds;rw[ar (run_underlying ht w)];simp only[Option.map_some,Option.map_none,pure_bind,bind_assoc,hl];rw[ar (show(Instr.sureAddr (.pointer (some ⟨b,off,none⟩))).run P w=.ok ⟨b,off,none⟩ w from rfl)];rw[ar (dA hj)];rw[ar (cx hi' w)];simp only[Nat.zero_mul,Nat.sub_zero,eD,Nat.add_zero,ite_self];rfl
theorem Gq{e:TypeId}{n b off:Nat}{i:TypeInfo}{k:IntKind}{j:Int}(ht:P.underlying t=some (.array n e))(hi':P.info? e=some i)(hx:ev E x=.pointer (some ⟨b,off,none⟩))(hl:ev E lo=.int k j)(hj:0<=j/\j<=n) :
  exec P E (.slice t x (some lo) none none) ty w=.ok (.value (.slice (some ⟨b,(if n=j.toNat then off else off+j.toNat*i.size),none⟩) (n-j.toNat) (n-j.toNat))) w:=by
 rw[kR,hx];refine bh ?_;unfold Instr.sliceAt Instr.sliceBounds;rw[ar (run_underlying ht w)];simp only[Option.map_some,Option.map_none,pure_bind,bind_assoc,hl];rw[ar (show(Instr.sureAddr (.pointer (some ⟨b,off,none⟩))).run P w=.ok ⟨b,off,none⟩ w from rfl)];rw[ar (dA hj)];rw[ar (cx hi' w)];simp only[eD]
 split <;> rfl
theorem Sl.of_at{b off n cap:Nat}{l:List α}(h:At w b off (bl l))(hn:l.length=n)(hc:n<=cap):Sl w (.slice (some ⟨b,off,none⟩) n cap) l:=by
 subst hn;exact⟨_,cap,rfl,hc,rfl,h⟩
theorem xh{s:ByteArray}{l h:Option Value}(ht:P.underlying t=some .string):(Instr.sliceAt t (.string s) l h none).run P w=(do let (l,h,_) <-Instr.sliceBounds false s.size s.size l h none;pure (Value.string (s.extract l h))).run P w:=by
 unfold Instr.sliceAt;rw[ar (run_underlying ht w)];simp only[];unfold Instr.slice;rw[ar (run_underlying ht w)];rfl
theorem xw(l:List UInt8)(i j:Nat):(⟨l.toArray⟩:ByteArray).extract i j=⟨((l.drop i).take (j-i)).toArray⟩:=by
 apply ByteArray.ext;apply Array.ext';simp[List.extract_eq_take_drop]
theorem BX{l:List UInt8}{k:IntKind}{j:Int}(ht:P.underlying t=some .string)(hx:ev E x=str l)(hl:ev E hi=.int k j)(hj:0<=j/\j<=l.length) :
  exec P E (.slice t x none (some hi) none) ty w=.ok (.value (str (l.take j.toNat))) w:=by
 rw[kR,hx];refine bh ?_;simp only[Option.map_some,Option.map_none];rw[xh ht];unfold Instr.sliceBounds;have hsz:(⟨l.toArray⟩:ByteArray).size=l.length:=by simp[ByteArray.size]
 simp only[pure_bind,hl,bind_assoc,hsz];rw[ar (dA hj)];show Result.ok (Value.string _) w=_;rw[xw,List.drop_zero,Nat.sub_zero]
theorem wP(l:List UInt8):((l.map u8v).foldl (λ(r:ByteArray) v=>match v with|.int _ n=>r.push (UInt8.ofNat n.toNat)|_=>r) ByteArray.empty)=⟨l.toArray⟩:=by
 have:∀(l:List UInt8) (s:ByteArray),((l.map u8v).foldl (λ(r:ByteArray) v=>match v with|.int _ n=>r.push (UInt8.ofNat n.toNat)|_=>r) s)=⟨s.data++l.toArray⟩:=by
  intro l
  induction l with
  | nil => intro s; simp
  | cons a l ih =>
   intro s;simp only[List.map_cons,List.foldl_cons,u8v];rw[ih];apply ByteArray.ext;simp[ByteArray.push]
 rw[this];apply ByteArray.ext;simp[ByteArray.empty,ByteArray.emptyWithCapacity];rfl
theorem qV{e:TypeId}{v:Value}{l:List UInt8}(ht:P.underlying t=some (.slice e))(he:P.underlying e=some (.int .u8))(hu:P.underlying u=some .string)(hs:Sl w v l)(hx:ev E x=v) :
  exec P E (.convert t u x) ty w=.ok (.value (str l)) w:=by
 rw[A4,hx];refine bh ?_;obtain⟨p,cap,rfl,_,h⟩:=hs;rw[run_convert_bytes_string w t u e p l.length cap ht he hu];cases p with
 | none => simp only at h; subst h; rfl
 | some a =>
  obtain⟨b,off,sp⟩:=a;obtain⟨h1,h2⟩:=h;simp only at h1 h2;subst h1;have hlen:(bl l).length=l.length:=by rw[aV];exact Nat.mul_one _
  have hload:=iQ (P:=P) h2;rw[hlen,s8] at hload;have hn:(l.map u8v).toArray=((l.map λb=>(b.toNat:Int)).map (Value.int .u8)).toArray:=by rw[List.map_map];rfl
  rw[hn] at hload;rw[run_bytesToString w _ _ _ _ hload];congr 2
  have:=wP l
  rw[<-this,List.foldl_map,List.foldl_map];rfl
theorem x_s2b{e:TypeId}{l:List UInt8}(ht:P.underlying t=some .string)(hu:P.underlying u=some (.slice e))(he:P.underlying e=some (.int .u8))(hx:ev E x=str l) :
  ∃v' w',exec P E (.convert t u x) ty w=.ok (.value v') w'/\Own w' v' l/\Chg [] w w'/\In v' [] w.heap.size:=by
 have key:∃v' w',(Conv.stringToBytes e ⟨l.toArray⟩).run P w=.ok v' w'/\Own w' v' l/\Chg [] w w'/\In v' [] w.heap.size:=by
  unfold Conv.stringToBytes;have hsz:(⟨l.toArray⟩:ByteArray).size=l.length:=by simp[ByteArray.size]
  obtain⟨n,hn,hch⟩:=mZ (P:=P) (w:=w) (need:=(⟨l.toArray⟩:ByteArray).size) (cap:=0) (e:=e);rw[ar hch];rw[hsz] at hn ⊢
  generalize hw1:({ w with drawn:=w.drawn+1 }:World)=w1
  have hw1h:w1.heap=w.heap:=by rw[<-hw1]
  have hcells:((l.toArray.map λb:UInt8=>Value.int .u8 b.toNat)++Array.replicate (n-l.length) (Value.int .u8 0))=(bl l).toArray++Array.replicate (n-l.length) (Value.int .u8 0):=by
   rw[s8];simp only[List.map_toArray];rfl
  have hrow:(newRow e ((l.toArray.map λb:UInt8=>Value.int .u8 b.toNat)++Array.replicate (n-l.length) (Value.int .u8 0))).run P w1=.ok ⟨w1.heap.size,0,none⟩ (w1.pushB (.cells ((bl l).toArray++Array.replicate (n-l.length) (Value.int .u8 0)) e)):=by
   rw[hcells];rfl
  rw[ar hrow];have hcs:((bl l).toArray++Array.replicate (n-l.length) (Value.int .u8 0)).size=n:=by
   simp only[Array.size_append,List.size_toArray,aV,Array.size_replicate]
   have:Flat.sz UInt8=1:=rfl
   rw[this];omega
  generalize hcc:(bl l).toArray++Array.replicate (n-l.length) (Value.int .u8 0)=cc at *
  have hmark:(markStringish ⟨w1.heap.size,0,none⟩).run P (w1.pushB (.cells cc e))=.ok () ((w1.pushB (.cells cc e)).freeze ⟨w1.heap.size,n,none⟩ 1):=by
   unfold markStringish
   have:(shape w1.heap.size).run P (w1.pushB (.cells cc e))=.ok (some (e,n)) (w1.pushB (.cells cc e)):=by
    show Result.ok ((w1.pushB (.cells cc e)).shape? w1.heap.size) _=_;unfold World.shape?;rw[fS];simp only[hcs]
   rw[ar this];rfl
  rw[ar hmark];have hfz:((w1.pushB (.cells cc e)).freeze ⟨w1.heap.size,n,none⟩ 1).heap=(w1.pushB (.cells cc e (n,n+1))).heap:=by
   unfold World.freeze;simp only[Nat.one_ne_zero,if_false];apply Array.ext_getElem?;intro i;rw[Array.getElem?_modify];by_cases hi:w1.heap.size=i
   ·subst hi;rw[if_pos rfl,fS,fS];rfl
   ·rw[if_neg hi];show(w1.heap.push _)[i]?=(w1.heap.push _)[i]?;rw[Array.getElem?_push,Array.getElem?_push,if_neg (Ne.symm hi),if_neg (Ne.symm hi)]
  refine⟨_,_,rfl,?_,?_,?_⟩
  ·refine Own.mod0 (w:=w1.pushB (.cells cc e (n,n+1))) ?_ ⟨by rw[hfz];exact Nat.le_refl _,λb _ _=>by rw[hfz],rfl,rfl⟩;refine⟨some ⟨w1.heap.size,0,none⟩,n,rfl,hn,rfl,cc,e,(n,n+1),fS _ _,?_,?_,?_⟩
   ·intro o ho;simp only;omega
   ·show 0+n*1<=_;omega
   ·intro i y hi;rw[<-hcc,Nat.zero_add,Array.getElem?_append_left (by simpa using (List.getElem?_eq_some_iff.1 hi).1)]
    simpa using hi
  ·refine⟨?_,λb hb _=>?_,by rw[<-hw1];rfl,by rw[<-hw1];rfl⟩
   ·rw[hfz,g8,hw1h];omega
   ·rw[hfz,vV (by rw[hw1h];exact hb),hw1h]
  ·intro b hb;right;simp only[ay,List.mem_singleton] at hb;rw[hb,hw1h];exact Nat.le_refl _
 obtain⟨v',w',h1,h2⟩:=key;refine⟨v',w',?_,h2⟩;rw[A4,hx];refine bh ?_;unfold convert;rw[ar (run_underlying ht w),ar (run_underlying hu w)];simp only[];rw[ar (run_underlying he w)];exact h1
end
theorem Fw(vs:List Value):∀(c:Array Value) (off k:Nat),(vs.zipIdx k).foldl (λcs (x:Value×Nat)=>cs.setIfInBounds (off+x.2) x.1) c=gn c (off+k) vs:=by
 induction vs with
 | nil => intro c off k; rfl
 | cons v vs ih =>
  intro c off k;simp only[List.zipIdx_cons,List.foldl_cons,gn];rw[ih];rfl
theorem yw{place:Nat->Option (Nat×Nat)}{c:Array Value}{i off s:Nat}{v:Value}{rest:List (Nat×Value)}(hp:place i=some (off,s))(hs:v.cells.size=s)(ho:off+s<=c.size) :
  Instr.fill place c ((i,v)::rest)=Instr.fill place (gn c off v.cells.toList) rest:=by
 conv=>lhs;unfold Instr.fill
 simp only[hp];rw[if_neg (by rw[hs];simp only[ne_eq,not_true_eq_false,decide_false,Bool.false_or,decide_eq_true_eq];omega)];congr 1;rw[<-Array.foldl_toList,Array.toList_zipIdx];exact Fw _ _ _ 0
theorem rY{s:Nat}(vs:List Value):∀(c:Array Value) (k:Nat),(∀v∈vs,v.cells.size=s)->k*s+vs.length*s<=c.size ->
  Instr.fill (λi=>some (i*s,s)) c ((vs.zipIdx k).map λx=>(x.2,x.1))=some (gn c (k*s) (vs.flatMap λv=>v.cells.toList)):=by
 induction vs with
 | nil => intro c k _ _; rfl
 | cons v vs ih =>
  intro c k hs hl;simp only[List.length_cons,Nat.add_mul,Nat.one_mul] at hl;simp only[List.zipIdx_cons,List.map_cons];rw[yw rfl (hs v (by simp)) (by omega)];rw[ih _ (k+1) (λu hu=>hs u (by simp[hu])) (by rw[cY,Nat.add_mul];omega)];simp only[List.flatMap_cons];rw[AH,Array.length_toList,hs v (by simp),Nat.add_mul,Nat.one_mul]
theorem n3{c:Array Value}{vs:List Value}(h:vs.length=c.size):gn c 0 vs=vs.toArray:=by
 apply Array.ext_getElem?;intro i;rw[iT _ _ _ _ (by omega)];by_cases hi:i<vs.length
 ·rw[if_pos (by omega)];simp
 ·rw[if_neg (by omega)];rw[Array.getElem?_eq_none (by omega),Array.getElem?_eq_none (by simpa using hi)]
section
variable {α:Type}[Flat α]{P:Program}{E:Env}{w:World}{ty t t' u:TypeId}{x y c:Operand}
theorem sa{n:Nat}{ps:Array (Nat×Operand)}:exec P E (.buildSlice t n ps) ty w=(jY (Instr.buildSlice t n (ps.map λ(i,x)=>(i,ev E x)))).run P w:=rfl
theorem qT{e:TypeId}{i:TypeInfo}{z:Value}{n:Nat}{ps:Array (Nat×Operand)}(vs:List Value)(l:List α)(ht:P.underlying t=some (.slice e))(hi:P.info? e=some i)(hz:i.zero=some z)(hsz:i.size=Flat.sz α)(_:z.cells.size=Flat.sz α)
  (hps:(ps.map λ(i,x)=>(i,ev E x)).toList=vs.zipIdx.map λx=>(x.2,x.1)) (hv:vs.map (λv=>v.cells.toList)=l.map Flat.enc) (hn:l.length=n) (hb:n*Flat.sz α<=16777216) :
  ∃v',exec P E (.buildSlice t n ps) ty w=.ok (.value v') (w.pushB (.cells (bl l).toArray e))/\Own (w.pushB (.cells (bl l).toArray e)) v' l/\In v' [] w.heap.size:=by
 have hvl:vs.length=n:=by have:=congrArg List.length hv;simp at this;omega
 have hcells:∀v∈vs,v.cells.size=Flat.sz α:=by
  intro v hvm;obtain⟨k,hk,rfl⟩:=List.mem_iff_getElem.1 hvm;have h1:(vs.map (λv=>v.cells.toList))[k]?=(l.map (Flat.enc (α:=α)))[k]?:=by rw[hv]
  simp only[List.getElem?_map,hk,List.getElem?_eq_getElem,Option.map_some] at h1;have hkl:k<l.length:=by omega
  simp only[List.getElem?_eq_getElem hkl,Option.map_some,Option.some.injEq] at h1
  have:=congrArg List.length h1
  rw[Flat.len] at this;simpa using this
 have hflat:vs.flatMap (λv=>v.cells.toList)=bl l:=by
  have:(vs.map (λv=>v.cells.toList)).flatten=(l.map (Flat.enc (α:=α))).flatten:=by rw[hv]
  simpa [List.flatMap,bl] using this
 refine⟨.slice (some ⟨w.heap.size,0,none⟩) l.length l.length,?_,?_,?_⟩
 ·rw[sa];refine bh ?_;unfold Instr.buildSlice;rw[ar (run_underlying ht w)];simp only[];rw[ar (cx hi w),hsz,if_neg (by omega)];have hsize:∀zero:Array Value,((Array.range (n*Flat.sz α)).map (zero[· % zero.size]!)).size=n*Flat.sz α:=by intro zero;simp
  by_cases h0:n*Flat.sz α=0
  ·rw[if_pos h0];simp only[pure_bind];rw[hps,rY vs _ 0 hcells (by rw[hsize,hvl];omega)];simp only[Nat.zero_mul];rw[n3 (by rw[hsize,hflat,aV,hn]),hflat,hn];rfl
  ·rw[if_neg h0,ar (dq hi hz w)];simp only[pure_bind];rw[hps,rY vs _ 0 hcells (by rw[hsize,hvl];omega)];simp only[Nat.zero_mul];rw[n3 (by rw[hsize,hflat,aV,hn]),hflat,hn];rfl
 ·have:=rJ (w:=w) (l:=l) (e:=e) (rest:=#[]) (cap:=l.length) (Nat.le_refl _) (by simp)
  simpa using this
 ·intro b hb;right;simp only[ay,List.mem_singleton] at hb;omega
theorem Bk:exec P E (.makeSlice t x y) ty w=(jY (Instr.makeSlice t (ev E x) (ev E y))).run P w:=rfl
theorem Ad{z:List Value}(hz:0<z.length)(n:Nat):((Array.range (n*z.length)).map (z.toArray[· % z.toArray.size]!)).toList=(List.replicate n z).flatten:=by
 apply List.ext_getElem?;intro i;simp only[Array.toList_map,Array.toList_range,List.getElem?_map,List.size_toArray];have hrep:∀n i,(List.replicate n z).flatten[i]?=if i<n*z.length then z[i % z.length]? else none:=by
  intro n
  induction n with
  | zero => intro i; simp
  | succ n ih =>
   intro i;rw[List.replicate_succ,List.flatten_cons,List.getElem?_append];by_cases hi:i<z.length
   ·rw[if_pos hi,if_pos (by rw[Nat.add_mul];omega),Nat.mod_eq_of_lt hi]
   ·rw[if_neg hi,ih]
    have:(i-z.length) % z.length=i % z.length:=(Nat.mod_eq_sub_mod (by omega)).symm
    rw[this];by_cases h2:i-z.length<n*z.length
    ·rw[if_pos h2,if_pos (by rw[Nat.add_mul];omega)]
    ·rw[if_neg h2,if_neg (by rw[Nat.add_mul];omega)]
 rw[hrep]
 split
 ·rename_i h
  have hm:i % z.length<z.length:=Nat.mod_lt _ hz;simp[h,hm]
 ·rename_i h
  simp[h]
theorem Af{e:TypeId}{i:TypeInfo}{z:Value}{k k':IntKind}{n cp:Nat}(a:α)(ht:P.underlying t=some (.slice e))(hi:P.info? e=some i)(hz:i.zero=some z)(hsz:i.size=Flat.sz α)(hza:z.cells.toList=Flat.enc a)(hpos:0<Flat.sz α)
  (hx:ev E x=.int k n) (hy:ev E y=.int k' cp) (hb:i.bytes<=1024) (hn:n<=cp) (hc:cp<=1073741824) :
  ∃v' w',exec P E (.makeSlice t x y) ty w=.ok (.value v') w'/\Own w' v' (List.replicate n a)/\Chg [] w w'/\In v' [] w.heap.size:=by
 have wr:∀m:Nat,m<=1073741824->IntKind.i64.wrap (m:Int)=m:=by
  intro m hm;have h1:IntKind.i64.bits=64:=rfl;have h2:IntKind.i64.signed=true:=rfl;unfold IntKind.wrap;rw[h1,h2];simp only[Bool.true_and]
  have:(m:Int) % 2 ^ 64=m:=by omega
  rw[this,if_neg (by simp;omega)]
 have hrow:(bl (List.replicate n a))++(List.replicate (cp-n) (Flat.enc a)).flatten=((Array.range (cp*Flat.sz α)).map (z.cells[· % z.cells.size]!)).toList:=by
  have hzl:z.cells=(Flat.enc a).toArray:=by rw[<-hza]
  have hrep:bl (List.replicate n a)=(List.replicate n (Flat.enc a)).flatten:=by simp[bl,List.flatMap,List.map_replicate]
  rw[hrep,<-List.flatten_append,List.replicate_append_replicate,Nat.add_sub_cancel' hn,hzl]
  have:=Ad (z:=Flat.enc a) (by rw[Flat.len];exact hpos) cp
  rw[Flat.len] at this;exact this.symm
 generalize hcs:(Array.range (cp*Flat.sz α)).map (z.cells[· % z.cells.size]!)=cs at hrow
 have hcs':cs=(bl (List.replicate n a)).toArray++((List.replicate (cp-n) (Flat.enc a)).flatten).toArray:=by
  apply Array.ext';simp[<-hrow]
 refine⟨.slice (some ⟨w.heap.size,0,none⟩) (List.replicate n a).length cp,w.pushB (.cells cs e),?_,?_,Chg.push _ _,?_⟩
 ·rw[Bk,hx,hy];refine bh ?_;unfold Instr.makeSlice;rw[ar (run_underlying ht w)];simp only[asInt,asIntOf,pure_bind];rw[ar (dF hi w),wr n (by omega),wr cp hc];have hbb:(i.bytes:Int)*(cp:Int)<=2 ^ 48:=by
   have:i.bytes*cp<=1024*1073741824:=Nat.mul_le_mul hb hc
   have h2:((i.bytes*cp:Nat):Int)=(i.bytes:Int)*(cp:Int):=by push_cast;rfl
   omega
  rw[if_neg (by
   simp only[Bool.or_eq_true,decide_eq_true_eq,not_or];refine⟨⟨⟨by omega,by omega⟩,by omega⟩,by omega⟩)]
  rw[ar lN,ar (cx hi w),hsz];simp only[Int.toNat_natCast];by_cases h0:cp*Flat.sz α=0
  ·rw[if_pos h0]
   have:(Array.range (cp*Flat.sz α)).map ((#[]:Array Value)[· % (#[]:Array Value).size]!)=cs:=by rw[<-hcs,h0];simp
   rw[this];simp only[List.length_replicate];rfl
  ·rw[if_neg h0,ar (dq hi hz w),hcs];simp only[List.length_replicate];rfl
 ·rw[hcs'];exact rJ (by simpa using hn) (by simp[Flat.len])
 ·intro b hb;right;simp only[ay,List.mem_singleton] at hb;omega
theorem FC{r:Option Operand}:exec P E (.makeMap t r) ty w=(jY (Instr.makeMap t (r.map (ev E)))).run P w:=rfl
theorem EG:exec P E (.makeMap t none) ty w=.ok (.value (.map (some w.heap.size))) (w.pushB (.map #[] 0)):=by
 rw[FC];exact bh rfl
theorem Ek{ps:Array (Nat×Operand)}:exec P E (.build t ps) ty w=(jY (Instr.build t (ps.map λ(i,x)=>(i,ev E x)))).run P w:=rfl
theorem Gp{e:TypeId}{n:Nat}{i ie:TypeInfo}{z:Value}{ps:Array (Nat×Operand)}{cs:Array Value}(ht:P.underlying t=some (.array n e))(hi:P.info? t=some i)(hz:i.zero=some z)(hie:P.info? e=some ie)
  (hf:Instr.fill (λi=>some (i*ie.size,ie.size)) z.cells (ps.map λ(i,x)=>(i,ev E x)).toList=some cs):exec P E (.build t ps) ty w=.ok (.value (.agg cs)) w:=by
 rw[Ek];refine bh ?_;unfold Instr.build;rw[ar (dq hi hz w),ar (run_underlying ht w)];simp only[];rw[ar (cx hie w),hf];rfl
theorem Ct{fs:List Field}(h:∀f∈fs,∃i,P.info? f.type=some i):(fs.mapM λf=>do pure (f.offset,<-sizeOf f.type):Sem (List (Nat×Nat))).run P w=.ok (fs.map λf=>(f.offset,P.cellsOf f.type)) w:=by
 induction fs with
 | nil => rfl
 | cons f fs ih =>
  obtain⟨i,hi⟩:=h f (by simp);rw[List.mapM_cons];have h1:(do pure (f.offset,<-sizeOf f.type):Sem (Nat×Nat)).run P w=.ok (f.offset,P.cellsOf f.type) w:=by
   rw[ar (cx hi w)];simp only[Program.cellsOf,hi];rfl
  rw[ar h1,ar (ih λg hg=>h g (by simp[hg]))];rfl
theorem Gn{fs:List Field}{i:TypeInfo}{z:Value}{ps:Array (Nat×Operand)}{cs:Array Value}(ht:P.underlying t=some (.struct fs.toArray))(hi:P.info? t=some i)(hz:i.zero=some z)(hfs:fs.all (λf=>(P.info? f.type).isSome)=true)
  (hf:Instr.fill ((fs.map λf=>(f.offset,P.cellsOf f.type)).toArray[·]?) z.cells (ps.map λ(i,x)=>(i,ev E x)).toList=some cs):exec P E (.build t ps) ty w=.ok (.value (.agg cs)) w:=by
 rw[Ek];refine bh ?_;unfold Instr.build;rw[ar (dq hi hz w),ar (run_underlying ht w)];simp only[List.mapM_toArray];have hm:=Ct (P:=P) (w:=w) (fs:=fs) (λf hf=>by have:=List.all_eq_true.1 hfs f hf;exact Option.isSome_iff_exists.1 this)
 have:∀(s:Sem (List (Nat×Nat))) (r:List (Nat×Nat)),s.run P w=.ok r w->(List.toArray <$> s).run P w=.ok r.toArray w:=by
  intro s r hs;show(s >>= λx=>pure x.toArray).run P w=_;rw[ar hs];rfl
 rw[ar (this _ _ hm),hf];rfl
theorem Ej:exec P E (.index t x y) ty w=(jY (Instr.index t (ev E x) (ev E y))).run P w:=rfl
theorem jH{d:TypeDesc}{cs:Array Value}{off:Nat}{v:Value}(hd:P.underlying t=some d)(ha:iu d=false)(hv:cs[off]?=some v):(part t cs off).run P w=.ok v w:=by
 unfold part;rw[ar (oT hd w),ha];simp only[Bool.false_eq_true,if_false,hv];rfl
theorem Gk{e:TypeId}{n:Nat}{d:TypeDesc}{i:TypeInfo}{k:IntKind}{j:Int}{cs:Array Value}{v:Value}(ht:P.underlying t=some (.array n e))(hd:P.underlying e=some d)(ha:iu d=false)(hi:P.info? e=some i)
  (hx:ev E x=.agg cs) (hy:ev E y=.int k j) (hj:0<=j/\j<n) (hv:cs[j.toNat*i.size]?=some v):exec P E (.index t x y) ty w=.ok (.value v) w:=by
 rw[Ej,hx,hy];refine bh ?_;unfold Instr.index;simp only[asIntOf,pure_bind];rw[ar (run_underlying ht w)];simp only[];rw[if_pos hj,ar (cx hi w)];exact jH hd ha hv
theorem mT{l:List UInt8}{k:IntKind}{j:Int}{b:UInt8}(ht:P.underlying t=some .string)(hx:ev E x=str l)(hy:ev E y=.int k j)(hj:0<=j)(hb:l[j.toNat]?=some b) :
  exec P E (.index t x y) ty w=.ok (.value (.int .u8 b.toNat)) w:=by
 rw[Ej,hx,hy];refine bh ?_;unfold Instr.index;simp only[asIntOf,pure_bind];rw[ar (run_underlying ht w)];simp only[if_pos hj]
 have:(⟨l.toArray⟩:ByteArray)[j.toNat]?=some b:=by
  have hlt:j.toNat<l.length:=(List.getElem?_eq_some_iff.1 hb).1;rw[getElem?_pos (⟨l.toArray⟩:ByteArray) j.toNat (by simpa [ByteArray.size] using hlt)];have h2:l[j.toNat]=b:=(List.getElem?_eq_some_iff.1 hb).2;rw[<-h2];rfl
 rw[this];rfl
theorem u7{e:TypeId}{n d:Nat}{i:TypeInfo}{xs ys:Array Value}(ht:P.underlying t=some (.array n e))(hi:P.info? e=some i)(eqs:Nat->Bool)
  (h:∀k,k<n->∃a b,(part e xs (k*i.size)).run P w=.ok a w/\(part e ys (k*i.size)).run P w=.ok b w/\(Op.equalIn d e a b).run P w=.ok (eqs k) w) :
  (Op.equalIn (d+1) t (.agg xs) (.agg ys)).run P w=.ok ((List.range n).all eqs) w:=by
 unfold Op.equalIn;rw[ar (run_underlying ht w)];simp only[];rw[ar (cx hi w)];simp only[Std.Legacy.Range.forIn_eq_forIn_range',Std.Legacy.Range.size];have hn:(n-0+1-1) / 1=n:=by simp
 rw[hn]
 generalize hF:(λ(i_1:Nat) (__s:Option Bool×Unit)=>(do
       let __do_lift <-part e xs (i_1*i.size)
       let __do_lift_1 <-part e ys (i_1*i.size)
       let __do_lift <-Op.equalIn d e __do_lift __do_lift_1
       if (!__do_lift)=true then pure (ForInStep.done (some false,())) else pure (ForInStep.yield (none,())):Sem (ForInStep (Option Bool×Unit))))=F
 have key:∀m k,k+m<=n->Sem.run P (forIn (List.range' k m) ((none,()):Option Bool×Unit) F) w=.ok (if (List.range' k m).all eqs then (none,()) else (some false,())) w:=by
  intro m
  induction m with
  | zero => intro k _; rfl
  | succ m ih =>
   intro k hk;obtain⟨a,b,h1,h2,h3⟩:=h k (by omega);rw[List.range'_succ,List.forIn_cons];have hFk:Sem.run P (F k (none,())) w=.ok (if eqs k then .yield (none,()) else .done (some false,())) w:=by
    rw[<-hF];rw[ar h1,ar h2,ar h3];cases eqs k <;> rfl
   rw[ar hFk];cases he:eqs k with
   | true =>
    simp only[if_true];rw[ih (k+1) (by omega),List.all_cons,he,Bool.true_and]
   | false =>
    rw[List.all_cons,he];simp
 have h0:Sem.run P (forIn (List.range' 0 n) ((none,()):Option Bool×Unit) F) w=.ok (if (List.range n).all eqs then (none,()) else (some false,())) w:=by
  rw[key n 0 (by omega),List.range_eq_range']
 rw[ar h0];cases (List.range n).all eqs <;> rfl
theorem Dk{β:Type}[DecidableEq β]{l m:List β}(h:l.length=m.length):((List.range l.length).all λk=>decide (l[k]?=m[k]?))=decide (l=m):=by
 rw[Bool.eq_iff_iff];simp only[List.all_eq_true,List.mem_range,decide_eq_true_eq]
 constructor
 ·intro hk;apply List.ext_getElem?;intro i;by_cases hi:i<l.length
  ·exact hk i hi
  ·rw[List.getElem?_eq_none (by omega),List.getElem?_eq_none (by omega)]
 ·rintro rfl k _;rfl
theorem nW{β:Type}[DecidableEq β]{e:TypeId}{n d:Nat}{i:TypeInfo}{de:TypeDesc}(f:β->Value){l m:List β}(ht:P.underlying t=some (.array n e))(hi:P.info? e=some i)(hs:i.size=1)(hde:P.underlying e=some de)(hag:iu de=false)
  (hl:l.length=n) (hm:m.length=n) (heq:∀x∈l,∀y∈m,(Op.equalIn d e (f x) (f y)).run P w=.ok (decide (x=y)) w) :
  (Op.equalIn (d+1) t (.agg (l.map f).toArray) (.agg (m.map f).toArray)).run P w=.ok (decide (l=m)) w:=by
 rw[u7 (w:=w) ht hi (λk=>decide (l[k]?=m[k]?)) ?_]
 ·rw[<-hl,Dk (by omega)]
 ·intro k hk;have h1:k<l.length:=by omega
  have h2:k<m.length:=by omega
  refine⟨f l[k],f m[k],jH hde hag ?_,jH hde hag ?_,?_⟩
  ·rw[hs,Nat.mul_one];simp[h1]
  ·rw[hs,Nat.mul_one];simp[h2]
  ·rw[heq _ (List.getElem_mem h1) _ (List.getElem_mem h2)];simp[h1,h2]
theorem nX{d:Nat}{k:IntKind}(ht:P.underlying t=some (.int k))(x y:UInt8):(Op.equalIn (d+1) t (u8v x) (u8v y)).run P w=.ok (decide (x=y)) w:=by
 unfold u8v;rw[run_equalIn_int _ _ _ _ _ _ _ ht];congr 1
 have:((x.toNat:Int)==(y.toNat:Int))=decide ((x.toNat:Int)=(y.toNat:Int)):=rfl
 rw[this];rw[Bool.eq_iff_iff];simp only[decide_eq_true_eq]
 constructor
 ·intro h;exact UInt8.toNat_inj.1 (by omega)
 ·rintro rfl;rfl
theorem x_eqlA{e:TypeId}{n:Nat}{i:TypeInfo}{k:IntKind}{l m:List UInt8}(ht:P.underlying t=some (.array n e))(hi:P.info? e=some i)(hs:i.size=1)(he:P.underlying e=some (.int k))(hg:P.eqGuardType P.depth t=false)
  (hx:ev E x=.agg (l.map u8v).toArray) (hy:ev E y=.agg (m.map u8v).toArray) (hl:l.length=n) (hm:m.length=n):exec P E (.binOp .eql t x y u) ty w=.ok (.value (.bool (decide (l=m)))) w:=by
 rw[oz,hx,hy];refine bh ?_;rw[ar (run_eqGuard_agg w .eql t x y _ _ hg)]
 have:=nW (w:=w) (d:=9999) u8v ht hi hs he rfl hl hm (λa _ b _=>nX he a b)
 rw[run_eql_struct,this];rfl
theorem x_neqA{e:TypeId}{n:Nat}{i:TypeInfo}{k:IntKind}{l m:List UInt8}(ht:P.underlying t=some (.array n e))(hi:P.info? e=some i)(hs:i.size=1)(he:P.underlying e=some (.int k))(hg:P.eqGuardType P.depth t=false)
  (hx:ev E x=.agg (l.map u8v).toArray) (hy:ev E y=.agg (m.map u8v).toArray) (hl:l.length=n) (hm:m.length=n):exec P E (.binOp .neq t x y u) ty w=.ok (.value (.bool (decide (l≠m)))) w:=by
 rw[oz,hx,hy];refine bh ?_;rw[ar (run_eqGuard_agg w .neq t x y _ _ hg)]
 have:=nW (w:=w) (d:=9999) u8v ht hi hs he rfl hl hm (λa _ b _=>nX he a b)
 rw[run_neq_struct,this];simp only[Result.andThen,decide_not]
theorem ld{e:TypeId}{p q:Option Addr}{l c l' c':Nat}(ht:P.underlying t=some (.slice e))(hx:ev E x=.slice p l c)(hy:ev E y=.slice q l' c')(h:p=none∨q=none):exec P E (.binOp .eql t x y u) ty w=.ok (.value (.bool (decide (p=q)))) w:=by
 rw[oz,hx,hy];refine bh ?_;have hg:(eqGuard .eql t x y (.slice p l c) (.slice q l' c')).run P w=.ok () w:=rfl;rw[ar hg];simp only[binOp]
 have:(Op.equal t (.slice p l c) (.slice q l' c')).run P w=.ok (decide (p=q)) w:=by
  unfold Op.equal Op.maxDepth Op.equalIn;rw[ar (run_underlying ht w)];cases p with
  | none => cases q <;> rfl
  | some a =>
   rcases h with h|h
   ·cases h
   ·subst h;rfl
 rw[ar this];rfl
end
class Key (κ:Type) where
 enc:κ->Value
 inj:∀a b,enc a=enc b->a=b
 bits:∀a,Instr.sameBits 10000 (enc a) (enc a)=true
instance:Key Int:=⟨λn=>.int .i64 n,λa b h=>by simpa using h,λa=>by simp[Instr.sameBits]⟩
instance:Key UInt32:=⟨λn=>.int .u32 n.toNat,λa b h=>by simp at h;exact UInt32.toNat_inj.1 (by omega),λa=>by simp[Instr.sameBits]⟩
instance:Key (List UInt8):=⟨λs=>str s,λa b h=>by simpa using h,λa=>by
 show((⟨a.toArray⟩:ByteArray)==⟨a.toArray⟩)=true;rw[beq_toListBytes];simp⟩
section
variable {κ:Type}[DecidableEq κ][Key κ]
def js(k:κ):List MapEntry->List κ->Nat->Option (Nat×Value)
 | e :: es, x :: ks, i => if k = x then some (i, e.val) else js k es ks (i + 1)
 | _, _, _ => none
structure KeyOk(P:Program)(kt:TypeId)(κ:Type)[DecidableEq κ][Key κ]:Prop where
 chk:∀b (k:κ) w,(Instr.checkKey b 10000 kt (Key.enc k)).run P w=.ok () w
 fnd:∀(k:κ) (es:List MapEntry) (ks:List κ) w,es.map (·.key)=ks.map Key.enc->(Instr.findKey kt (Key.enc k) es).run P w=.ok (js k es ks 0) w
theorem D7{d:TypeDesc}(h:∀a b:κ,Instr.sameNow d (Key.enc a) (Key.enc b)=some (decide (a=b)))(k:κ):∀(es:List MapEntry) (ks:List κ) (i:Nat),es.map (·.key)=ks.map Key.enc ->
  Instr.findNow d (Key.enc k) es i=some (js k es ks i):=by
 intro es
 induction es with
 | nil => intro ks i _; cases ks <;> rfl
 | cons e es ih =>
  intro ks i he;cases ks with
  | nil => simp at he
  | cons x ks =>
   simp only[List.map_cons,List.cons.injEq] at he;unfold Instr.findNow js;rw[he.1,h k x];by_cases hk:k=x
   ·simp[hk]
   ·simp only[hk,decide_false,if_false];exact ih ks (i+1) he.2
theorem sY{P:Program}{kt:TypeId}{d:TypeDesc}(hd:P.underlying kt=some d)(hs:(∃k,d=.int k)∨d=.string)(h:∀a b:κ,Instr.sameNow d (Key.enc a) (Key.enc b)=some (decide (a=b))):KeyOk P kt κ:=by
 refine⟨λb k w=>?_,λk es ks w he=>?_⟩
 ·show(Instr.checkKey b (9999+1) kt (Key.enc k)).run P w=_;unfold Instr.checkKey;rw[ar (run_underlying hd w)];rcases hs with⟨q,rfl⟩|rfl <;> rfl
 ·unfold Instr.findKey;rw[ar (run_underlying hd w),D7 h k es ks 0 he];rfl
end
theorem pd{P:Program}{kt:TypeId}{k:IntKind}(hd:P.underlying kt=some (.int k)):KeyOk P kt Int :=
 sY hd (.inl ⟨k,rfl⟩) (λa b=>by simp[Instr.sameNow,Key.enc];rfl)
theorem du{P:Program}{kt:TypeId}{k:IntKind}(hd:P.underlying kt=some (.int k)):KeyOk P kt UInt32 :=
 sY hd (.inl ⟨k,rfl⟩) (λa b=>by
  simp only[Instr.sameNow,Key.enc,if_true,Option.some.injEq]
  have:((a.toNat:Int)==(b.toNat:Int))=decide ((a.toNat:Int)=(b.toNat:Int)):=rfl
  rw[this,Bool.eq_iff_iff];simp only[decide_eq_true_eq]
  constructor
  ·intro h;exact UInt32.toNat_inj.1 (by omega)
  ·rintro rfl;rfl)
theorem gO{P:Program}{kt:TypeId}(hd:P.underlying kt=some .string):KeyOk P kt (List UInt8) :=
 sY hd (.inr rfl) (λa b=>by
  simp only[Instr.sameNow,Key.enc,Option.some.injEq];rw[beq_toListBytes];simp only[ByteArray.toList_eq];rw[Bool.eq_iff_iff];simp)
def dU{κ ν:Type}[DecidableEq κ](k:κ)(v:ν):List (κ×ν)->List (κ×ν)
 | [] => [(k, v)]
 | (x, u) :: m => if k = x then (x, v) :: m else (x, u) :: dU k v m
def cB{κ ν:Type}[DecidableEq κ](k:κ):List (κ×ν)->Option ν
 | [] => none
 | (x, u) :: m => if k = x then some u else cB k m
def kx{κ ν:Type}[DecidableEq κ](k:κ):List (κ×ν)->List (κ×ν)
 | [] => []
 | (x, u) :: m => if k = x then m else (x, u) :: kx k m
section
variable {κ:Type}[Key κ]
def MapAt(w:World)(r:Nat)(m:List (κ×Value)):Prop :=
 ∃es clock,w.heap[r]?=some (.map es clock)/\es.toList.map (λe=>(e.key,e.val))=m.map (λp=>(Key.enc p.1,p.2))/\(m.map (·.1)).Nodup/\(es.toList.map (·.born)).Nodup/\∀e∈es.toList,e.born<clock
theorem MapAt.mod{S:List Nat}{w w':World}{r:Nat}{m:List (κ×Value)}(h:MapAt w r m)(hm:Chg S w w')(hn:r∉S):MapAt w' r m:=by
 obtain⟨es,cl,hb,h⟩:=h;exact⟨es,cl,hm.blk hb hn,h⟩
theorem MapAt.heap{w w':World}{r:Nat}{m:List (κ×Value)}(h:MapAt w r m)(hh:Hp w' w):MapAt w' r m:=h.mod (Chg.heap (S:=[]) hh) (by simp)
theorem MapAt.lt{w:World}{r:Nat}{m:List (κ×Value)}(h:MapAt w r m):r<w.heap.size:=by
 obtain⟨es,cl,hb,_⟩:=h;exact cG hb
theorem MapAt.nodup{w:World}{r:Nat}{m:List (κ×Value)}(h:MapAt w r m):(m.map (·.1)).Nodup:=by
 obtain⟨_,_,_,_,h,_⟩:=h;exact h
theorem MapAt.new(w:World):MapAt (w.pushB (.map #[] 0)) w.heap.size ([]:List (κ×Value)) :=
 ⟨#[],0,fS _ _,rfl,by simp,by simp,by simp⟩
theorem oY{es:List MapEntry}{m:List (κ×Value)}(h:es.map (λe=>(e.key,e.val))=m.map (λp=>(Key.enc p.1,p.2))):es.map (·.key)=(m.map (·.1)).map Key.enc:=by
 have:=congrArg (List.map Prod.fst) h
 simpa [Function.comp_def] using this
section
variable {P:Program}{E:Env}{w:World}{ty t t':TypeId}{x y z:Operand}
theorem im{r:Nat}{es:Array MapEntry}{cl:Nat}{o:Obj}(hb:w.heap[r]?=some (.map es cl)):(setObj r o).run P w=.ok () (w.setB r o):=by
 show Sem.run P (.setObj r o (.pure ())) w=_;simp only[Sem.run,hb];rfl
theorem xM{kt vt:TypeId}{r:Nat}{m:List (κ×Value)}(ht:P.underlying t=some (.map kt vt))(hx:ev E x=.map (some r))(hm:MapAt w r m) :
  exec P E (.call { callee:=.builtin .len,args:=#[x],argTypes:=#[t] }) ty w=.ok (.value (.int .i64 m.length)) w:=by
 obtain⟨es,cl,hb,he,_⟩:=hm;have hlen:es.size=m.length:=by have:=congrArg List.length he;simpa using this
 rw[ud];simp only[List.map_toArray,List.map_cons,List.map_nil,hx];refine bh ?_;unfold Builtin.len_;simp only[List.getElem?_toArray,List.getElem?_cons_zero];rw[ar (run_underlying ht w)];simp only[];have hg:(getObj r).run P w=.ok (.map es cl) w:=by
  show Sem.run P (.getObj r .pure) w=_;simp only[Sem.run,hb]
 rw[ar hg];simp only[hlen];rfl
theorem tz{kt vt:TypeId}{r:Nat}{m:List (κ×Value)}(ht:P.underlying t=some (.map kt vt))(hx:ev E x=.map (some r))(hm:MapAt w r m) :
  ∃w',exec P E (.call { callee:=.builtin .clear,args:=#[x],argTypes:=#[t] }) ty w=.ok (.value (.tuple #[])) w'/\MapAt w' r ([]:List (κ×Value))/\Chg [r] w w'/\w'.heap.size=w.heap.size:=by
 obtain⟨es,cl,hb,he,hn,hbn,hcl⟩:=hm;have hg:(getObj r).run P w=.ok (.map es cl) w:=by
  show Sem.run P (.getObj r .pure) w=_;simp only[Sem.run,hb]
 refine⟨w.setB r (.map #[] cl),?_,⟨#[],cl,eB (cG hb),rfl,by simp,by simp,by simp⟩,Chg.set _ _ _,dS _ _ _⟩;rw[ud];simp only[List.map_toArray,List.map_cons,List.map_nil,hx];refine bh ?_;unfold Builtin.clear_;simp only[List.getElem?_toArray,List.getElem?_cons_zero];rw[ar (run_underlying ht w)];rw[ar hg];simp only[];rw[ar (im hb)];rfl
end
variable [DecidableEq κ]
theorem D8(k:κ):∀(es:List MapEntry) (m:List (κ×Value)) (i:Nat),es.map (λe=>(e.key,e.val))=m.map (λp=>(Key.enc p.1,p.2))->(js k es (m.map (·.1)) i).map (·.2)=cB k m:=by
 intro es
 induction es with
 | nil => intro m i h; cases m with | nil => rfl | cons _ _ => simp at h
 | cons e es ih =>
  intro m i h;cases m with
  | nil => simp at h
  | cons p m =>
   simp only[List.map_cons,List.cons.injEq,Prod.mk.injEq] at h;simp only[List.map_cons,js,cB]
   split
   ·simp[h.1.2]
   ·exact ih m (i+1) h.2
variable {P:Program}{E:Env}{w:World}{ty t t':TypeId}{x y z:Operand}
theorem Bl{ok:Bool}:exec P E (.lookup t x y ok) ty w=(jY (Instr.lookup t (ev E x) (ev E y) ok)).run P w:=rfl
theorem vK{kt vt:TypeId}{i:TypeInfo}{zv:Value}{r:Nat}{k:κ}{m:List (κ×Value)}{ok:Bool}(ht:P.underlying t=some (.map kt vt))(hk:KeyOk P kt κ)(hi:P.info? vt=some i)(hz:i.zero=some zv)(hm:MapAt w r m) :
  (Instr.lookup t (.map (some r)) (Key.enc k) ok).run P w=.ok (if ok then .tuple #[(cB k m).getD zv,.bool (cB k m).isSome] else (cB k m).getD zv) w:=by
 obtain⟨es,cl,hb,he,_⟩:=hm;unfold Instr.lookup;rw[ar (run_underlying ht w)];simp only;have hg:(getObj r).run P w=.ok (.map es cl) w:=by
  show Sem.run P (.getObj r .pure) w=_;simp only[Sem.run,hb]
 rw[ar hg];simp only[pure_bind];rw[ar (hk.chk _ k w),ar (hk.fnd k es.toList _ w (oY he))]
 have:=D8 k es.toList m 0 he
 cases hf:js k es.toList (m.map (·.1)) 0 with
 | none =>
  rw[hf] at this;simp only[Option.map_none] at this;simp only[];rw[ar (dq hi hz w),<-this];cases ok <;> rfl
 | some q =>
  rw[hf] at this;obtain⟨j,v⟩:=q;simp only[Option.map_some] at this;rw[<-this];cases ok <;> rfl
theorem fk{kt vt:TypeId}{i:TypeInfo}{zv:Value}{r:Nat}{k:κ}{m:List (κ×Value)}(ht:P.underlying t=some (.map kt vt))(hk:KeyOk P kt κ)(hi:P.info? vt=some i)(hz:i.zero=some zv)(hx:ev E x=.map (some r))(hy:ev E y=Key.enc k)(hm:MapAt w r m) :
  exec P E (.lookup t x y false) ty w=.ok (.value ((cB k m).getD zv)) w:=by
 rw[Bl,hx,hy];exact bh (vK (ok:=false) ht hk hi hz hm)
theorem jF{kt vt:TypeId}{i:TypeInfo}{zv:Value}{r:Nat}{k:κ}{m:List (κ×Value)}(ht:P.underlying t=some (.map kt vt))(hk:KeyOk P kt κ)(hi:P.info? vt=some i)(hz:i.zero=some zv)(hx:ev E x=.map (some r))(hy:ev E y=Key.enc k)(hm:MapAt w r m) :
  exec P E (.lookup t x y true) ty w=.ok (.value (.tuple #[(cB k m).getD zv,.bool (cB k m).isSome])) w:=by
 rw[Bl,hx,hy];exact bh (vK (ok:=true) ht hk hi hz hm)
theorem qw(k:κ)(v:Value):∀(es:List MapEntry) (m:List (κ×Value)) (i:Nat),es.map (λe=>(e.key,e.val))=m.map (λp=>(Key.enc p.1,p.2)) ->
  match js k es (m.map (·.1)) i with
  | some (j, _) => i <= j /\ j - i < es.length /\ (es.modify (j - i) λe => { e with key := Key.enc k, val := v }).map (λe => (e.key, e.val)) = (dU k v m).map (λp => (Key.enc p.1, p.2)) /\ (dU k v m).map (·.1) = m.map (·.1) /\ (es[j - i]?).map (·.key) = some (Key.enc k) /\
    (kx k m).map (λp=>(Key.enc p.1,p.2))=(es.eraseIdx (j-i)).map (λe=>(e.key,e.val))
  | none => k ∉ m.map (·.1) /\ dU k v m = m ++ [(k, v)] /\ kx k m = m := by
 intro es
 induction es with
 | nil => intro m i h; cases m with | nil => simp [js, dU, kx] | cons _ _ => simp at h
 | cons e es ih =>
  intro m i h;cases m with
  | nil => simp at h
  | cons p m =>
   obtain⟨x,u⟩:=p;simp only[List.map_cons,List.cons.injEq,Prod.mk.injEq] at h;simp only[List.map_cons,js];by_cases hk:k=x
   ·subst hk;simp only[if_true,Nat.sub_self,List.length_cons,Nat.zero_lt_succ,List.modify_zero_cons,List.map_cons,dU,List.getElem?_cons_zero,Option.map_some,h.1.1,kx,List.eraseIdx_zero,List.tail_cons];exact⟨Nat.le_refl _,trivial,by rw[h.2],trivial,trivial,h.2.symm⟩
   ·rw[if_neg hk]
    have:=ih m (i+1) h.2
    cases hf:js k es (m.map (·.1)) (i+1) with
    | none =>
     rw[hf] at this;simp only at this ⊢;refine⟨by simp[hk,this.1],by simp only[dU,if_neg hk,this.2.1];rfl,by simp only[kx,if_neg hk,this.2.2]⟩
    | some q =>
     rw[hf] at this;obtain⟨j,v'⟩:=q;simp only at this ⊢;obtain⟨h1,h2,h3,h4,h5,h6⟩:=this;have hj:j-i=(j-(i+1))+1:=by omega
     refine⟨by omega,by rw[hj];simp;omega,?_,?_,?_,?_⟩
     ·rw[hj,List.modify_succ_cons];simp only[List.map_cons,dU,if_neg hk,h.1.1,h.1.2,h3]
     ·simp only[dU,if_neg hk,List.map_cons,h4]
     ·rw[hj];simpa using h5
     ·rw[hj];simp only[kx,if_neg hk,List.map_cons,List.eraseIdx_cons_succ,h6,h.1.1,h.1.2]
theorem Bj:exec P E (.mapUpdate t x y z) ty w=(GC (Instr.mapUpdate t (ev E x) (ev E y) (ev E z))).run P w:=rfl
theorem gz{kt vt:TypeId}{r:Nat}{k:κ}{v:Value}{m:List (κ×Value)}(ht:P.underlying t=some (.map kt vt))(hk:KeyOk P kt κ)(hx:ev E x=.map (some r))(hy:ev E y=Key.enc k)(hv:ev E z=v)(hm:MapAt w r m) :
  ∃w',exec P E (.mapUpdate t x y z) ty w=.ok .skip w'/\MapAt w' r (dU k v m)/\Chg [r] w w'/\w'.heap.size=w.heap.size:=by
 obtain⟨es,cl,hb,he,hn,hbn,hcl⟩:=hm;have hg:(getObj r).run P w=.ok (.map es cl) w:=by
  show Sem.run P (.getObj r .pure) w=_;simp only[Sem.run,hb]
 have hset:=qw k v es.toList m 0 he;have key:∃o,(Instr.mapUpdate t (.map (some r)) (Key.enc k) v).run P w=.ok () (w.setB r o)/\MapAt (w.setB r o) r (dU k v m):=by
  unfold Instr.mapUpdate;rw[ar (run_underlying ht w)];simp only[];rw[ar hg];simp only[];rw[ar (hk.chk _ k w),ar (hk.fnd k es.toList _ w (oY he))];cases hf:js k es.toList (m.map (·.1)) 0 with
  | none =>
   rw[hf] at hset;simp only at hset ⊢;obtain⟨h1,h2,_⟩:=hset;refine⟨_,im hb,_,_,eB (cG hb),?_,?_,?_,?_⟩
   ·rw[h2];simp[he]
   ·rw[h2];simp only[List.map_append,List.map_cons,List.map_nil];exact List.nodup_append.2 ⟨hn,by simp,by simpa using λa b hab=>by intro hh;subst hh;exact h1 (List.mem_map.2 ⟨_,hab,rfl⟩)⟩
   ·simp only[Array.toList_push,List.map_append,List.map_cons,List.map_nil];refine List.nodup_append.2 ⟨hbn,by simp,?_⟩;intro a ha b hb';simp only[List.mem_singleton] at hb';obtain⟨e,he',rfl⟩:=List.mem_map.1 ha
    have:=hcl e he'
    omega
   ·intro e he';simp only[Array.toList_push,List.mem_append,List.mem_singleton] at he';rcases he' with he'|rfl
    ·have:=hcl e he';omega
    ·simp
  | some q =>
   rw[hf] at hset;obtain⟨j,v'⟩:=q;simp only[Nat.sub_zero] at hset ⊢;obtain⟨_,h2,h3,h4,h5,_⟩:=hset;have hkey:((es[j]?).map (·.key)).getD (Key.enc k)=Key.enc k:=by
    have:es[j]?=es.toList[j]?:=by simp
    rw[this,h5];rfl
   rw[hkey];have hst:(Instr.keyThatStays (Key.enc k) (Key.enc k)).run P w=.ok (Key.enc k) w:=by
    unfold Instr.keyThatStays;rw[if_pos (Key.bits k)];rfl
   rw[ar hst];refine⟨_,im hb,_,_,eB (cG hb),?_,by rw[h4];exact hn,?_,?_⟩
   ·rw[Array.toList_modify];exact h3
   ·rw[Array.toList_modify]
    have:(es.toList.modify j λe=>{ e with key:=Key.enc k,val:=v }).map (·.born)=es.toList.map (·.born):=by
     apply List.ext_getElem?;intro i;simp only[List.getElem?_map,List.getElem?_modify]
     split
     ·cases es.toList[i]? <;> rfl
     ·cases es.toList[i]? <;> rfl
    rw[this];exact hbn
   ·intro e he';rw[Array.toList_modify] at he';obtain⟨i,hi⟩:=List.mem_iff_getElem?.1 he';rw[List.getElem?_modify] at hi;cases hh:es.toList[i]? with
    | none => rw [hh] at hi; simp at hi
    | some e0 =>
     rw[hh] at hi
     have:=hcl e0 (List.mem_of_getElem? hh)
     by_cases hij:j=i
     ·subst hij;simp at hi;subst hi;exact this
     ·simp[hij] at hi;subst hi;exact this
 obtain⟨o,h1,h2⟩:=key;refine⟨_,?_,h2,Chg.set _ _ _,dS _ _ _⟩;rw[Bj,hx,hy,hv];exact vH h1
theorem vc{kt vt:TypeId}{r:Nat}{k:κ}{m:List (κ×Value)}(ht:P.underlying t=some (.map kt vt))(hk:KeyOk P kt κ)(hx:ev E x=.map (some r))(hy:ev E y=Key.enc k)(hm:MapAt w r m) :
  ∃w',exec P E (.call { callee:=.builtin .delete,args:=#[x,y],argTypes:=#[t,t'] }) ty w=.ok (.value (.tuple #[])) w'/\MapAt w' r (kx k m)/\Chg [r] w w'/\w'.heap.size=w.heap.size:=by
 obtain⟨es,cl,hb,he,hn,hbn,hcl⟩:=hm;have hg:(getObj r).run P w=.ok (.map es cl) w:=by
  show Sem.run P (.getObj r .pure) w=_;simp only[Sem.run,hb]
 have hset:=qw k undef es.toList m 0 he;have key:∃o,(Builtin.delete_ #[t,t'] ty #[.map (some r),Key.enc k]).run P w=.ok (.tuple #[]) (w.setB r o)/\MapAt (w.setB r o) r (kx k m):=by
  unfold Builtin.delete_;simp only[List.getElem?_toArray,List.getElem?_cons_zero,List.getElem?_cons_succ];rw[ar (run_underlying ht w)];simp only;rw[ar hg];simp only[];rw[ar (hk.chk _ k w),ar (hk.fnd k es.toList _ w (oY he))];cases hf:js k es.toList (m.map (·.1)) 0 with
  | none =>
   rw[hf] at hset;simp only at hset ⊢;obtain⟨h1,_,h2⟩:=hset;refine⟨_,by rw[ar (im hb)];rfl,_,_,eB (cG hb),?_,?_,hbn,hcl⟩
   ·rw[h2];exact he
   ·rw[h2];exact hn
  | some q =>
   rw[hf] at hset;obtain⟨j,v'⟩:=q;simp only[Nat.sub_zero] at hset ⊢;obtain⟨_,h2,_,_,_,h6⟩:=hset;refine⟨_,by rw[ar (im hb)];rfl,_,_,eB (cG hb),?_,?_,?_,?_⟩
   ·rw[Array.toList_eraseIdxIfInBounds,h6]
   ·have:∀m:List (κ×Value),((kx k m).map (·.1)).Sublist (m.map (·.1)):=by
     intro m
     induction m with
     | nil => simp [kx]
     | cons p m ih =>
      obtain⟨a,b⟩:=p;simp only[kx]
      split
      ·simp only[List.map_cons];exact List.sublist_cons_self _ _
      ·simp only[List.map_cons];exact ih.cons_cons _
    exact hn.sublist (this m)
   ·rw[Array.toList_eraseIdxIfInBounds];exact hbn.sublist ((List.eraseIdx_sublist _ _).map _)
   ·intro e he';rw[Array.toList_eraseIdxIfInBounds] at he';exact hcl e ((List.eraseIdx_sublist _ _).subset he')
 obtain⟨o,h1,h2⟩:=key;refine⟨_,?_,h2,Chg.set _ _ _,dS _ _ _⟩;rw[ud];simp only[List.map_toArray,List.map_cons,List.map_nil,hx,hy];exact bh h1
end
section
variable {κ:Type}[Key κ]
def eW(seen:Array Nat)(es:Array MapEntry):List MapEntry:=es.toList.filter λe => !seen.contains e.born
def IterAt(w:World)(q r:Nat)(m left:List (κ×Value)):Prop :=
 ∃es clock since seen last,w.heap[r]?=some (.map es clock)/\w.heap[q]?=some (.mapIter (some r) since seen last) /\
  es.toList.map (λe=>(e.key,e.val))=m.map (λp=>(Key.enc p.1,p.2))/\(m.map (·.1)).Nodup/\(es.toList.map (·.born)).Nodup/\(∀e∈es.toList,e.born<clock) /\
  (∀e∈es.toList,e.born<since)/\last=clock/\(eW seen es).map (λe=>(e.key,e.val))=left.map (λp=>(Key.enc p.1,p.2))
def CurAt(w:World)(q r:Nat)(k:κ)(v:Value):Prop :=
 ∃es clock since seen stamp e,w.heap[r]?=some (.map es clock)/\w.heap[q]?=some (.mapIter (some r) since seen clock)/\seen.back?=some stamp/\es.find? (·.born==stamp)=some e/\e.key=Key.enc k/\e.val=v
theorem IterAt.mod{S:List Nat}{w w':World}{q r:Nat}{m left:List (κ×Value)}(h:IterAt w q r m left)(hm:Chg S w w')(hq:q∉S)(hr:r∉S):IterAt w' q r m left:=by
 obtain⟨es,cl,si,se,la,h1,h2,h⟩:=h;exact⟨es,cl,si,se,la,hm.blk h1 hr,hm.blk h2 hq,h⟩
theorem CurAt.mod{S:List Nat}{w w':World}{q r:Nat}{k:κ}{v:Value}(h:CurAt w q r k v)(hm:Chg S w w')(hq:q∉S)(hr:r∉S):CurAt w' q r k v:=by
 obtain⟨es,cl,si,se,st,e,h1,h2,h⟩:=h;exact⟨es,cl,si,se,st,e,hm.blk h1 hr,hm.blk h2 hq,h⟩
theorem IterAt.map{w:World}{q r:Nat}{m left:List (κ×Value)}(h:IterAt w q r m left):MapAt w r m:=by
 obtain⟨es,cl,si,se,la,h1,h2,h3,h4,h5,h6,_⟩:=h;exact⟨es,cl,h1,h3,h4,h5,h6⟩
theorem rZ:∀(l m:List (κ×Value)),l.map (λp=>(Key.enc p.1,p.2))=m.map (λp=>(Key.enc p.1,p.2))->l=m
 | [], [], _ => rfl
 | [], _ :: _, h => by simp at h
 | _ :: _, [], h => by simp at h
 | (a, x) :: l, (b, y) :: m, h => by
  simp only[List.map_cons,List.cons.injEq,Prod.mk.injEq] at h;rw[Key.inj a b h.1.1,h.1.2,rZ l m h.2]
theorem IterAt.sub{w:World}{q r:Nat}{m left:List (κ×Value)}(h:IterAt w q r m left):left.Sublist m:=by
 obtain⟨es,cl,si,se,la,h1,h2,h3,h4,h5,h6,h7,h8,h9⟩:=h;have hs:((eW se es).map (λe=>(e.key,e.val))).Sublist (es.toList.map (λe=>(e.key,e.val))):=List.filter_sublist.map _;rw[h9,h3] at hs
 have:∀(l m:List (κ×Value)),(l.map (λp=>(Key.enc p.1,p.2))).Sublist (m.map (λp=>(Key.enc p.1,p.2)))->l.Sublist m:=by
  intro l m h;obtain⟨l',hl',he⟩:=List.sublist_map_iff.1 h;rw[rZ l l' he];exact hl'
 exact this _ _ hs
variable {P:Program}{E:Env}{w:World}{ty t:TypeId}{x:Operand}
theorem e_range:exec P E (.range t x) ty w=(jY (Instr.range t (ev E x))).run P w:=rfl
theorem oN{kt vt:TypeId}{r:Nat}{m:List (κ×Value)}(ht:P.underlying t=some (.map kt vt))(hx:ev E x=.map (some r))(hm:MapAt w r m) :
  ∃w',exec P E (.range t x) ty w=.ok (.value (.pointer (some ⟨w.heap.size,0,none⟩))) w'/\IterAt w' w.heap.size r m m/\Chg [] w w'/\w'.heap.size=w.heap.size+1:=by
 obtain⟨es,cl,hb,he,hn,hbn,hcl⟩:=hm;have hg:(getObj r).run P w=.ok (.map es cl) w:=by
  show Sem.run P (.getObj r .pure) w=_;simp only[Sem.run,hb]
 refine⟨w.pushB (.mapIter (some r) cl #[] cl),?_,⟨es,cl,cl,#[],cl,?_,fS _ _,he,hn,hbn,hcl,hcl,rfl,?_⟩,Chg.push _ _,g8 _ _⟩
 ·rw[e_range,hx];refine bh ?_;unfold Instr.range;rw[ar (run_underlying ht w)];simp only[];rw[ar hg];rfl
 ·rw[vV (cG hb)];exact hb
 ·have:eW #[] es=es.toList:=by simp[eW]
  rw[this,he]
theorem e_next{b:Bool}:exec P E (.next x b) ty w=(jY (Instr.next (ev E x) b ty)).run P w:=rfl
theorem tf(seen:Array Nat)(n:Nat)(es:Array MapEntry)(hn:(es.toList.map (·.born)).Nodup):∀(a b:List MapEntry) (e:MapEntry),eW seen es=a++e::b->e.born=n->eW (seen.push n) es=a++b:=by
 intro a b e h he;have h1:eW (seen.push n) es=(eW seen es).filter (λx => !(x.born==n)):=by
  unfold eW;rw[List.filter_filter];congr 1
  funext x
  rw[Array.contains_push,Bool.not_or,Bool.and_comm]
 have hnd:((eW seen es).map (·.born)).Nodup:=hn.sublist (List.filter_sublist.map _);rw[h] at hnd;simp only[List.map_append,List.map_cons,List.nodup_append,List.nodup_cons,List.mem_map] at hnd;rw[h1,h,List.filter_append,List.filter_cons];simp only[he,beq_self_eq_true,Bool.not_true,Bool.false_eq_true,if_false];have ka:a.filter (λx => !(x.born==n))=a:=by
  rw[List.filter_eq_self];intro x hx;simp only[Bool.not_eq_true',beq_eq_false_iff_ne];intro hxn;exact hnd.2.2 x.born ⟨x,hx,rfl⟩ e.born (by simp) (by rw[hxn,he])
 have kb:b.filter (λx => !(x.born==n))=b:=by
  rw[List.filter_eq_self];intro x hx;simp only[Bool.not_eq_true',beq_eq_false_iff_ne];intro hxn;exact hnd.2.1.1 ⟨x,hx,by rw[hxn,he]⟩
 rw[ka,kb]
theorem x_next{q r:Nat}{m left:List (κ×Value)}(hx:ev E x=.pointer (some ⟨q,0,none⟩))(h:IterAt w q r m left) :
  (left=[]/\exec P E (.next x false) ty w=.ok (.value (.tuple #[.bool false])) w) ∨
  ∃a k v b w',left=a++(k,v)::b/\exec P E (.next x false) ty w=.ok (.value (.tuple #[.bool true,Key.enc k,v])) w'/\IterAt w' q r m (a++b)/\CurAt w' q r k v/\Chg [q] w w'/\w'.heap.size=w.heap.size:=by
 obtain⟨es,cl,si,se,la,h1,h2,h3,h4,h5,h6,h7,h8,h9⟩:=h;subst h8;have hgq:∀w0:World,w0.heap=w.heap->(getObj q).run P w0=.ok (.mapIter (some r) si se la) w0:=by
  intro w0 hw0;show Sem.run P (.getObj q .pure) w0=_;simp only[Sem.run,hw0,h2]
 have hgr:(getObj r).run P w=.ok (.map es la) w:=by
  show Sem.run P (.getObj r .pure) w=_;simp only[Sem.run,h1]
 have hold:(((es.filter λe => !se.contains e.born).filter (·.born<si)).toList)=eW se es:=by
  simp only[Array.toList_filter,eW];rw[List.filter_eq_self];intro e he
  have:=h7 e (List.mem_filter.1 he).1
  simpa using this
 have hnew:((es.filter λe => !se.contains e.born).filter (·.born≥si))=#[]:=by
  apply Array.ext';simp only[Array.toList_filter];rw[List.filter_eq_nil_iff.2];intro e he
  have:=h7 e (List.mem_filter.1 he).1
  simpa using this
 have hguard:(!se.isEmpty && !es.isEmpty&&es.all (·.born≥la))=false:=by
  cases hes:es.toList with
  | nil =>
   have:es=#[]:=by apply Array.ext';simpa using hes
   subst this;simp
  | cons e0 rest =>
   have:=h6 e0 (by rw[hes];simp)
   have:es.all (·.born≥la)=false:=by
    rw[<-Array.all_toList,hes];simp only[List.all_cons,Bool.and_eq_false_iff]
    left;simpa using this
   rw[this];simp
 rw[e_next,hx]
 generalize hc:((if ((es.filter λe => !se.contains e.born).filter (·.born<si)).isEmpty then #[none] else #[])++(((es.filter λe => !se.contains e.born).filter (·.born<si))++((es.filter λe => !se.contains e.born).filter (·.born≥si))).map some:Array (Option MapEntry))=cand
 have hcand:cand.toList=(if eW se es=[] then [none] else (eW se es).map some):=by
  rw[<-hc,hnew];simp only[Array.toList_append,Array.append_empty,Array.toList_map,hold];have hemp:((es.filter λe => !se.contains e.born).filter (·.born<si)).isEmpty=decide (eW se es=[]):=by
   rw[Bool.eq_iff_iff];simp only[Array.isEmpty_iff,decide_eq_true_eq];rw[<-hold]
   constructor
   ·intro h;rw[h]
   ·intro h;apply Array.ext';exact h
  rw[hemp];by_cases hu:eW se es=[]
  ·simp[hu]
  ·simp[hu]
 obtain⟨idx,w1,hch,hidx,hw1⟩:∃idx w1,(choose (.mapNext cand.size)).run P w=.ok idx w1/\idx<cand.size/\Hp w1 w:=by
  have hpos:0<cand.size:=by
   have:=congrArg List.length hcand
   simp only[Array.length_toList] at this;rw[this]
   split
   ·simp
   ·rename_i hu;simp;exact List.length_pos_iff.2 hu
  by_cases hf:(Question.mapNext cand.size).forced=true
  ·refine⟨0,w,?_,hpos,rfl⟩;show Sem.run P (.choose _ .pure) w=_;simp only[Sem.run,hf,if_true]
  ·refine⟨(w.tape w.drawn (.mapNext cand.size)) % cand.size,{ w with drawn:=w.drawn+1 },?_,Nat.mod_lt _ hpos,rfl⟩
   show Sem.run P (.choose _ .pure) w=_;simp only[Sem.run,hf,Question.cut];rfl
 have hw1':=hw1;have hw1:=hw1'.heap;have hrun:(Instr.next (.pointer (some ⟨q,0,none⟩)) false ty).run P w=(match cand[idx]? with
   | some (some e) => (do setObj q (.mapIter (some r) si (se.push e.born) la); pure (.tuple #[.bool true, e.key, e.val]) : Sem Value)
   | some none => pure (.tuple #[.bool false])
   | none => stuck "Next: no such candidate").run P w1 := by
  unfold Instr.next;simp only[];rw[ar (hgq w rfl)];simp only[];rw[ar hgr];simp only[hguard,Bool.false_eq_true,if_false,hc];rw[ar hch];rcases cand[idx]? with _|(_|e) <;> rfl
 by_cases hu:eW se es=[]
 ·left
  have hleft:left=[]:=by rw[hu] at h9;simpa using h9.symm
  refine⟨hleft,?_⟩;rw[if_pos hu] at hcand;have hsz:cand.size=1:=by have:=congrArg List.length hcand;simpa using this
  have hforced:(Question.mapNext cand.size).forced=true:=by rw[hsz];rfl
  have hw:w1=w:=by
   have:(choose (.mapNext cand.size)).run P w=.ok 0 w:=by
    show Sem.run P (.choose _ .pure) w=_;simp only[Sem.run,hforced,if_true]
   rw[this] at hch;injection hch with _ hh;exact hh.symm
  have hi0:idx=0:=by omega
  have hcand0:cand=#[none]:=by apply Array.ext';rw[hcand]
  refine bh ?_;rw[hrun,hw,hi0,hcand0];rfl
 ·right
  rw[if_neg hu] at hcand;have hlen:cand.size=(eW se es).length:=by have:=congrArg List.length hcand;simpa using this
  have hidx':idx<(eW se es).length:=by omega
  have hget:cand[idx]?=some (some (eW se es)[idx]):=by
   have:cand[idx]?=cand.toList[idx]?:=by simp
   rw[this,hcand];simp[hidx']
  obtain⟨a,b,hab,hlena⟩:∃a b,eW se es=a++(eW se es)[idx]::b/\a.length=idx:=by
   refine⟨(eW se es).take idx,(eW se es).drop (idx+1),?_,by rw[List.length_take];omega⟩;rw[<-List.drop_eq_getElem_cons hidx',List.take_append_drop]
  generalize he0:(eW se es)[idx]=e at hget hab
  have h9':=h9;rw[hab,List.map_append,List.map_cons] at h9';obtain⟨la',lb',hl,hla,hlb⟩:=List.map_eq_append_iff.1 h9'.symm;obtain⟨kv,lb,hlb',hkv,hlb2⟩:=List.map_eq_cons_iff.1 hlb;obtain⟨k,v⟩:=kv;simp only[Prod.mk.injEq] at hkv;subst hlb';have hmem:e∈es.toList:=by
   have:e∈eW se es:=by rw[hab];simp
   exact(List.mem_filter.1 this).1
  refine⟨la',k,v,lb,w1.setB q (.mapIter (some r) si (se.push e.born) la),hl,?_,?_,?_,?_,?_⟩
  ·refine bh ?_;rw[hrun,hget];simp only[];have hset:(setObj q (.mapIter (some r) si (se.push e.born) la)).run P w1=.ok () (w1.setB q (.mapIter (some r) si (se.push e.born) la)):=by
    show Sem.run P (.setObj q _ (.pure ())) w1=_;simp only[Sem.run,hw1,h2,World.setB]
   rw[ar hset,hkv.1,hkv.2];rfl
  ·have hqr:r≠q:=by intro hh;subst hh;rw[h1] at h2;cases h2
   refine⟨es,la,si,se.push e.born,la,?_,eB (by rw[hw1];exact cG h2),h3,h4,h5,h6,h7,rfl,?_⟩
   ·rw[uA hqr,hw1];exact h1
   ·rw[tf se e.born es h5 a b e hab rfl,List.map_append,List.map_append,hla,hlb2]
  ·have hqr:r≠q:=by intro hh;subst hh;rw[h1] at h2;cases h2
   refine⟨es,la,si,se.push e.born,e.born,e,?_,eB (by rw[hw1];exact cG h2),by simp,?_,hkv.1.symm,hkv.2.symm⟩
   ·rw[uA hqr,hw1];exact h1
   ·rw[<-Array.find?_toList];have hfind:∀l:List MapEntry,(l.map (·.born)).Nodup->e∈l->l.find? (·.born==e.born)=some e:=by
     intro l
     induction l with
     | nil => intro _ h; simp at h
     | cons x l ih =>
      intro hn hm;simp only[List.map_cons,List.nodup_cons] at hn;rw[List.find?_cons];rcases List.mem_cons.1 hm with rfl|hm
      ·simp
      ·have:(x.born==e.born)=false:=by
        simp only[beq_eq_false_iff_ne];intro hh;exact hn.1 (by rw[hh];exact List.mem_map_of_mem hm)
       rw[this];exact ih hn.2 hm
    exact hfind _ h5 hmem
  ·have:=(Chg.set w1 q (.mapIter (some r) si (se.push e.born) la))
   exact⟨by rw[dS,hw1];exact Nat.le_refl _,λb hb hn=>by rw[uA (by simpa using hn),hw1],hw1'.os,hw1'.output⟩
  ·rw[dS,hw1]
theorem e_entry:exec P E (.entry x) ty w=(jY (Instr.entry (ev E x))).run P w:=rfl
theorem oP{q r:Nat}{k:κ}{v:Value}(hx:ev E x=.pointer (some ⟨q,0,none⟩))(h:CurAt w q r k v):exec P E (.entry x) ty w=.ok (.value (.tuple #[Key.enc k,v])) w:=by
 obtain⟨es,cl,si,se,st,e,h1,h2,h3,h4,h5,h6⟩:=h;have hgq:(getObj q).run P w=.ok (.mapIter (some r) si se cl) w:=by
  show Sem.run P (.getObj q .pure) w=_;simp only[Sem.run,h2]
 have hgr:(getObj r).run P w=.ok (.map es cl) w:=by
  show Sem.run P (.getObj r .pure) w=_;simp only[Sem.run,h1]
 rw[e_entry,hx];refine bh ?_;unfold Instr.entry;simp only[];rw[ar hgq];simp only[h3];rw[ar hgr];simp only[bne_self_eq_false,Bool.false_eq_true,if_false,h4,h5,h6];rfl
end
theorem cV{rs:List Nat}{R:Value->World->Prop}{E:Env}{w:World}(h:R (Cw rs E) w):FB rs R .ret E w:=h
theorem fV{rs:List Nat}{R:Value->World->Prop}{E:Env}{w:World}(h:R (Cw rs E) w):FB rs R .normal E w:=h
section
variable {next:Env->World->Prop}{Q:ji}{E:Env}{w:World}{id id':Nat}
theorem aj(h:next E w):ij next Q .normal E w:=h
theorem aL(h:Q .ret E w):ij next Q .ret E w:=h
theorem an(h:Q (.exit id) E w):ij next Q (.exit id) E w:=h
theorem ax(h:Q .normal E w):lZ id Q .normal E w:=h
theorem aR(h:Q .ret E w):lZ id Q .ret E w:=h
theorem aE(h:Q .normal E w):lZ id Q (.exit id) E w:=by simp only[lZ,if_true];exact h
theorem jt(hn:(id'==id)=false)(h:Q (.exit id') E w):lZ id Q (.exit id') E w:=by
 have:¬id'=id:=by simpa using hn
 simp only[lZ,if_neg this];exact h
end
section
variable {P:Program}{n:Nat}{ops:Array Oper}{Q:ji}{E:Env}{w w':World}{T:jB}
theorem ez(h:Q .normal E w):wpP P n ops Q .nil T E w:=h
theorem az{next:Env->World->Prop}(h:next E w):wpP P n ops (ij next Q) .nil T E w:=h
variable {i:Nat}{p:Plan}{d:Option Nat}{op:Op}{ty:TypeId}{pos:String}{af:Array Edge}{g:Option (Nat×Bool)}{v:Value}{un:List Nat}
theorem m8(ho:ops[i]?=some ⟨d,op,ty,pos,af,g⟩)(hd:dW d n=true)(hw:cR ops E ⟨d,op,ty,pos,af,g⟩=true)(hr:∀w',exec P E op ty w'=.ok (.value v) w')
  (h:wpP P n ops Q p T (dI d v E) w):wpP P n ops Q (.pure i p) T E w:=⟨_,ho,hd,v,.inl ⟨hw,hr⟩,h⟩
theorem wpP_no(ho:ops[i]?=some ⟨d,op,ty,pos,af,g⟩)(hd:dW d n=true)(hw:cR ops E ⟨d,op,ty,pos,af,g⟩=false)(h:wpP P n ops Q p T (dI d undef E) w):wpP P n ops Q (.pure i p) T E w :=
 ⟨_,ho,hd,undef,.inr ⟨hw,rfl⟩,h⟩
theorem dE(ho:ops[i]?=some ⟨d,op,ty,pos,af,g⟩)(hd:dW d n=true)(hw:cR ops E ⟨d,op,ty,pos,af,g⟩=true)(I:World->Prop)(hI:I w)(hr:∀w',I w'->exec P E op ty w'=.ok (.value v) w')
  (h:wpP P n ops Q p ((i,I)::T) (dI d v E) w):wpP P n ops Q (.read i p) T E w:=⟨_,ho,hd,v,I,hI,.inl ⟨hw,hr⟩,h⟩
theorem cA(ho:ops[i]?=some ⟨d,op,ty,pos,af,g⟩)(hd:dW d n=true)(hw:cR ops E ⟨d,op,ty,pos,af,g⟩=false)(h:wpP P n ops Q p ((i,λ_=>True)::T) (dI d undef E) w):wpP P n ops Q (.read i p) T E w :=
 ⟨_,ho,hd,undef,λ_=>True,trivial,.inr ⟨hw,rfl⟩,h⟩
theorem xQ(ho:ops[i]?=some ⟨d,op,ty,pos,af,g⟩)(hd:dW d n=true)(hw:cR ops E ⟨d,op,ty,pos,af,g⟩=true)(hr:exec P E op ty w=.ok (.value v) w')(hob:obl T un w')
  (h:wpP P n ops Q p T (dI d v E) w'):wpP P n ops Q (.eff i un p) T E w:=⟨_,ho,.inl ⟨hw,hd,by simp only[hr];exact⟨hob,h⟩⟩⟩
theorem Gy(ho:ops[i]?=some ⟨d,op,ty,pos,af,g⟩)(hd:dW d n=true)(hw:cR ops E ⟨d,op,ty,pos,af,g⟩=true)(hr:exec P E op ty w=.ok .skip w')(hob:obl T un w')
  (h:wpP P n ops Q p T (dI d undef E) w'):wpP P n ops Q (.eff i un p) T E w:=⟨_,ho,.inl ⟨hw,hd,by simp only[hr];exact⟨hob,h⟩⟩⟩
theorem iY(ho:ops[i]?=some ⟨d,op,ty,pos,af,g⟩)(hd:dW d n=true)(hw:cR ops E ⟨d,op,ty,pos,af,g⟩=false)(h:wpP P n ops Q p T (dI d undef E) w):wpP P n ops Q (.eff i un p) T E w :=
 ⟨_,ho,.inr ⟨hw,hd,h⟩⟩
theorem Gz{f:FuncId}{args:Array Value}{R:Value->World->Prop}(ho:ops[i]?=some ⟨d,op,ty,pos,af,g⟩)(hd:dW d n=true)(hw:cR ops E ⟨d,op,ty,pos,af,g⟩=true)
  (hr:exec P E op ty w=.ok (.enter f args) w') (hc:Ret P f args w' R) (h:∀v w'',R v w''->obl T un w''/\wpP P n ops Q p T (dI d v E) w''):wpP P n ops Q (.eff i un p) T E w :=
 ⟨_,ho,.inl ⟨hw,hd,by simp only[hr];exact hc.mono h⟩⟩
theorem eK{q:Plan}(h1:wpP P n ops Q p T E w)(h2:wpP P n ops Q q T E w):wpP P n ops Q (.alt p q) T E w:=⟨h1,h2⟩
end
theorem x_callL{P : Program}{E : Env}{w : World}{ty : TypeId}{f : FuncId}{args : List Operand}{ats : Array TypeId}{fn : Func}(hf : P.funcs[f]? = some fn)(hn : (fn.name == "runtime.NumGoroutine") = false)(hb : fn.body.isNone = false) :
  exec P E (.call { callee:=.value (.func f),args:=args.toArray,argTypes:=ats }) ty w=.ok (.enter f (args.map (ev E)).toArray) w:=by
 rw[x_call hf hn hb,List.map_toArray]
section
variable {P:Program}{n:Nat}{ops:Array Oper}{Q:ji}{E:Env}{w:World}{rest:List Oper}{T:jB}{i:Nat}{p:Plan}{d:Option Nat}{op:Op}{ty:TypeId}{pos:String}{af:Array Edge}{g:Option (Nat×Bool)}{un:List Nat}
theorem bD{F:Value->Prop}(hd:dW d n=true)(hr:∃v,(∀w',exec P E op ty w'=.ok (.value v) w')/\F v)(h:∀v,F v->wpL P n ops Q rest (dI d v E) w) :
  wpL P n ops Q (⟨d,op,ty,pos,af,none⟩::rest) E w:=by
 obtain⟨v,h1,h2⟩:=hr;exact a7 hd (h1 w) (h v h2)
theorem aY{F:Value->World->Prop}(hd:dW d n=true)(hr:∃v w',exec P E op ty w=.ok (.value v) w'/\F v w')(h:∀v w',F v w'->wpL P n ops Q rest (dI d v E) w') :
  wpL P n ops Q (⟨d,op,ty,pos,af,none⟩::rest) E w:=by
 obtain⟨v,w',h1,h2⟩:=hr;exact a7 hd h1 (h v w' h2)
theorem dO{v:Value}{F:World->Prop}(hd:dW d n=true)(hr:∃w',exec P E op ty w=.ok (.value v) w'/\F w')(h:∀w',F w'->wpL P n ops Q rest (dI d v E) w') :
  wpL P n ops Q (⟨d,op,ty,pos,af,none⟩::rest) E w:=by
 obtain⟨w',h1,h2⟩:=hr;exact a7 hd h1 (h w' h2)
theorem aQ{F:World->Prop}(hd:dW d n=true)(hr:∃w',exec P E op ty w=.ok .skip w'/\F w')(h:∀w',F w'->wpL P n ops Q rest (dI d undef E) w') :
  wpL P n ops Q (⟨d,op,ty,pos,af,none⟩::rest) E w:=by
 obtain⟨w',h1,h2⟩:=hr;exact GB hd h1 (h w' h2)
theorem wpP_ex{F:Value->Prop}(ho:ops[i]?=some ⟨d,op,ty,pos,af,g⟩)(hd:dW d n=true)(hw:cR ops E ⟨d,op,ty,pos,af,g⟩=true)(hr:∃v,(∀w',exec P E op ty w'=.ok (.value v) w')/\F v)
  (h:∀v,F v->wpP P n ops Q p T (dI d v E) w):wpP P n ops Q (.pure i p) T E w:=by
 obtain⟨v,h1,h2⟩:=hr;exact m8 ho hd hw h1 (h v h2)
theorem wpP_exw{F:Value->World->Prop}(ho:ops[i]?=some ⟨d,op,ty,pos,af,g⟩)(hd:dW d n=true)(hw:cR ops E ⟨d,op,ty,pos,af,g⟩=true)(hr:∃v w',exec P E op ty w=.ok (.value v) w'/\F v w')
  (h:∀v w',F v w'->obl T un w'/\wpP P n ops Q p T (dI d v E) w'):wpP P n ops Q (.eff i un p) T E w:=by
 obtain⟨v,w',h1,h2⟩:=hr;exact xQ ho hd hw h1 (h v w' h2).1 (h v w' h2).2
theorem cj{v:Value}{F:World->Prop}(ho:ops[i]?=some ⟨d,op,ty,pos,af,g⟩)(hd:dW d n=true)(hw:cR ops E ⟨d,op,ty,pos,af,g⟩=true)(hr:∃w',exec P E op ty w=.ok (.value v) w'/\F w')
  (h:∀w',F w'->obl T un w'/\wpP P n ops Q p T (dI d v E) w'):wpP P n ops Q (.eff i un p) T E w:=by
 obtain⟨w',h1,h2⟩:=hr;exact xQ ho hd hw h1 (h w' h2).1 (h w' h2).2
theorem wpP_exs{F:World->Prop}(ho:ops[i]?=some ⟨d,op,ty,pos,af,g⟩)(hd:dW d n=true)(hw:cR ops E ⟨d,op,ty,pos,af,g⟩=true)(hr:∃w',exec P E op ty w=.ok .skip w'/\F w')
  (h:∀w',F w'->obl T un w'/\wpP P n ops Q p T (dI d undef E) w'):wpP P n ops Q (.eff i un p) T E w:=by
 obtain⟨w',h1,h2⟩:=hr;exact Gy ho hd hw h1 (h w' h2).1 (h w' h2).2
end
theorem cell_of{w:World}{b off:Nat}{cs:Array Value}{e:TypeId}{fr:Nat×Nat}{v:Value}(h:w.heap[b]?=some (.cells cs e fr))(hc:cs[off]?=some v):w.cell? ⟨b,off,none⟩=some v:=by
 simp[World.cell?,h,hc]
section
variable {P:Program}{n:Nat}{ops:Array Oper}{Q:ji}{E:Env}{w:World}{rest:List Oper}{d:Option Nat}{ty t:TypeId}{x y:Operand}{pos:String}{af:Array Edge}
theorem EL{i:TypeInfo}{z:Value}(hi:P.info? t=some i)(hz:i.zero=some z)(hd:dW d n=true)
  (h:∀w1 b,w.heap.size<=b->w1.heap[b]?=some (.cells z.cells t (0,0))->Chg [] w w1->b<w1.heap.size->wpL P n ops Q rest (dI d (.pointer (some ⟨b,0,none⟩)) E) w1) :
  wpL P n ops Q (⟨d,.alloc t,ty,pos,af,none⟩::rest) E w :=
 a7 hd (zp hi hz) (h _ _ (Nat.le_refl _) (fS _ _) (Chg.push _ _) (by rw[g8];omega))
theorem wpL_box{v:Value}(hx:ev E x=v)(hd:dW d n=true)
  (h:∀w1 b,w.heap.size<=b->w1.heap[b]?=some (.cells v.cells t (0,0))->Chg [] w w1->b<w1.heap.size->wpL P n ops Q rest (dI d (.pointer (some ⟨b,0,none⟩)) E) w1) :
  wpL P n ops Q (⟨d,.box t x,ty,pos,af,none⟩::rest) E w :=
 a7 hd (x_box hx) (h _ _ (Nat.le_refl _) (fS _ _) (Chg.push _ _) (by rw[g8];omega))
end
theorem dY{P:Program}{n:Nat}{Q:ji}{E:Env}{w:World}{x y:Code}(S:List Nat)(R:List Value->World->Prop)
  (h1:wpE P n x (ij (λE' w'=>R (S.map E') w') Q) E w) (h2:∀vs J w',R vs w'->wpE P n y Q (xn S vs J) w'):wpE P n (.seq x y) Q E w :=
 lH S (writes x) R (List.all_eq_true.2 λs hs=>by simpa using hs) h1 (λvs J w' h=>h2 vs _ w' h)
theorem aX{P:Program}{n:Nat}{Q:ji}{E:Env}{w:World}{c:Code}(S:List Nat)(I:Nat->List Value->World->Prop)(m0:Nat)(h0:I m0 (S.map E) w)
  (round:∀m vs J w',I m vs w'->wpE P n c (ij (λE' w''=>∃m',m'<m/\I m' (S.map E') w'') Q) (xn S vs J) w'):wpE P n (.loop c) Q E w :=
 cD S (writes c) I m0 (List.all_eq_true.2 λs hs=>by simpa using hs) h0 (λm vs J w' h=>round m vs _ w' h)
universe u
section
variable {P:Program}{n:Nat}{ops:Array Oper}{Q Q':ji}{E:Env}{w:World}{rest l:List Oper}{T:jB}{i id:Nat}{p:Plan}{d:Option Nat}{ty:TypeId}{pos:String}{af:Array Edge}{g:Option (Nat×Bool)}{x:Operand}{y:Code}{next:Env->World->Prop}
theorem zSR(h:wpL P n l.toArray (ij (λE w=>wpE P n y Q E w) Q) l E w):wpE P n (.seq (.region id l.toArray false) y) Q E w:=aa (ae h)
theorem zNR(h:wpL P n l.toArray (ij (λE w=>wpE P n y Q E w) Q) l E w):wpL P n ops (ij (λE w=>wpE P n (.seq (.region id l.toArray false) y) Q E w) Q') [] E w:=bA (aj (zSR h))
theorem zKR(h:wpL P n l.toArray (ij (λE w=>wpE P n y Q E w) Q) l E w):wpE P n .skip (ij (λE w=>wpE P n (.seq (.region id l.toArray false) y) Q E w) Q') E w:=bQ (aj (zSR h))
theorem zPR(h:wpL P n l.toArray (ij (λE w=>wpE P n y Q E w) Q) l E w):wpP P n ops (ij (λE w=>wpE P n (.seq (.region id l.toArray false) y) Q E w) Q') .nil T E w:=ez (aj (zSR h))
theorem zKN(h:next E w):wpE P n .skip (ij next Q') E w:=bQ (aj h)
theorem bT{p:Prop}[Decidable p](h:p):Value.bool (decide p)=.bool true:=congrArg Value.bool (decide_eq_true h)
theorem bF{p:Prop}[Decidable p](h:¬p):Value.bool (decide p)=.bool false:=congrArg Value.bool (decide_eq_false h)
theorem O{α:Sort u}{a:α}:a=a:=rfl
theorem zm(hd:dW d n=true)(h:wpL P n ops Q rest (dI d (ev E x) E) w):wpL P n ops Q (⟨d,.move x,ty,pos,af,none⟩::rest) E w:=a7 hd C0 h
theorem za(hd:dW d n=true)(h:wpL P n ops Q rest (dI d (ev E x) E) w):wpL P n ops Q (⟨d,.assign x,ty,pos,af,none⟩::rest) E w:=a7 hd vf h
theorem zn{q:Addr}(hd:dW d n=true)(hx:ev E x=.pointer (some q))(h:wpL P n ops Q rest (dI d (.pointer (some q)) E) w):wpL P n ops Q (⟨d,.nilCheck x,ty,pos,af,none⟩::rest) E w:=a7 hd (x_nil hx) h
theorem zxx{id:Nat}{a b next:Env->World->Prop}(h:next E w):wpE P n (.exit id) (ij a (ij b (lZ id (ij next Q)))) E w:=aO (an (an (aE (aj h))))
theorem zrf{rs:List Nat}{R:Value->World->Prop}(h:R (Cw rs E) w):wpE P n .ret (FB rs R) E w:=bC (cV h)
theorem zrt{rs:List Nat}{R:Value->World->Prop}(h:R (Cw rs E) w):wpE P n .ret (ij next (FB rs R)) E w:=bC (aL (cV h))
theorem zrb{rs:List Nat}{R:Value->World->Prop}(h:R (Cw rs E) w):wpE P n .ret (lZ id (ij next (FB rs R))) E w:=bC (aR (aL (cV h)))
theorem zmm{d':Option Nat}{ty':TypeId}{pos':String}{af':Array Edge}{x':Operand}(hd:(dW d n,dW d' n)=(true,true))(h:wpL P n ops Q rest (dI d' (ev (dI d (ev E x) E) x') (dI d (ev E x) E)) w):wpL P n ops Q (⟨d,.move x,ty,pos,af,none⟩::⟨d',.move x',ty',pos',af',none⟩::rest) E w:=zm (congrArg Prod.fst hd) (zm (congrArg Prod.snd hd) h)
theorem zaa{d':Option Nat}{ty':TypeId}{pos':String}{af':Array Edge}{x':Operand}(hd:(dW d n,dW d' n)=(true,true))(h:wpL P n ops Q rest (dI d' (ev (dI d (ev E x) E) x') (dI d (ev E x) E)) w):wpL P n ops Q (⟨d,.assign x,ty,pos,af,none⟩::⟨d',.assign x',ty',pos',af',none⟩::rest) E w:=za (congrArg Prod.fst hd) (za (congrArg Prod.snd hd) h)
theorem zma{d':Option Nat}{ty':TypeId}{pos':String}{af':Array Edge}{x':Operand}(hd:(dW d n,dW d' n)=(true,true))(h:wpL P n ops Q rest (dI d' (ev (dI d (ev E x) E) x') (dI d (ev E x) E)) w):wpL P n ops Q (⟨d,.move x,ty,pos,af,none⟩::⟨d',.assign x',ty',pos',af',none⟩::rest) E w:=zm (congrArg Prod.fst hd) (za (congrArg Prod.snd hd) h)
theorem zmv{d':Option Nat}{op:Op}{ty':TypeId}{pos':String}{af':Array Edge}{v:Value}(hd:(dW d n,dW d' n)=(true,true))(hr:exec P (dI d (ev E x) E) op ty' w=.ok (.value v) w)(h:wpL P n ops Q rest (dI d' v (dI d (ev E x) E)) w):wpL P n ops Q (⟨d,.move x,ty,pos,af,none⟩::⟨d',op,ty',pos',af',none⟩::rest) E w:=zm (congrArg Prod.fst hd) (a7 (congrArg Prod.snd hd) hr h)
theorem zx{vs:Array Value}{j:Nat}{v:Value}(hd:(dW d n,ev E x,vs[j]?)=(true,Value.tuple vs,some v))(h:wpL P n ops Q rest (dI d v E) w):wpL P n ops Q (⟨d,.extract x j,ty,pos,af,none⟩::rest) E w:=a7 (congrArg Prod.fst hd) (xN (congrArg (λq=>q.2.1) hd) (congrArg (λq=>q.2.2) hd)) h
theorem ym(ho:(ops[i]?,dW d n,cR ops E ⟨d,.move x,ty,pos,af,g⟩)=(some ⟨d,.move x,ty,pos,af,g⟩,true,true))
  (h:wpP P n ops Q p T (dI d (ev E x) E) w):wpP P n ops Q (.pure i p) T E w:=m8 (congrArg Prod.fst ho) (congrArg (λq=>q.2.1) ho) (congrArg (λq=>q.2.2) ho) (λ_=>C0) h
theorem ya(ho:(ops[i]?,dW d n,cR ops E ⟨d,.assign x,ty,pos,af,g⟩)=(some ⟨d,.assign x,ty,pos,af,g⟩,true,true))
  (h:wpP P n ops Q p T (dI d (ev E x) E) w):wpP P n ops Q (.pure i p) T E w:=m8 (congrArg Prod.fst ho) (congrArg (λq=>q.2.1) ho) (congrArg (λq=>q.2.2) ho) (λ_=>vf) h
theorem yx{vs:Array Value}{j:Nat}{v:Value}(ho:(ops[i]?,dW d n,cR ops E ⟨d,.extract x j,ty,pos,af,g⟩,ev E x,vs[j]?)=(some ⟨d,.extract x j,ty,pos,af,g⟩,true,true,Value.tuple vs,some v))
  (h:wpP P n ops Q p T (dI d v E) w):wpP P n ops Q (.pure i p) T E w:=m8 (congrArg Prod.fst ho) (congrArg (λq=>q.2.1) ho) (congrArg (λq=>q.2.2.1) ho) (λ_=>xN (congrArg (λq=>q.2.2.2.1) ho) (congrArg (λq=>q.2.2.2.2) ho)) h
theorem yn{q:Addr}(ho:(ops[i]?,dW d n,cR ops E ⟨d,.nilCheck x,ty,pos,af,g⟩,ev E x)=(some ⟨d,.nilCheck x,ty,pos,af,g⟩,true,true,Value.pointer (some q)))
  (h:wpP P n ops Q p T (dI d (.pointer (some q)) E) w):wpP P n ops Q (.pure i p) T E w:=m8 (congrArg Prod.fst ho) (congrArg (λq=>q.2.1) ho) (congrArg (λq=>q.2.2.1) ho) (λ_=>x_nil (congrArg (λq=>q.2.2.2) ho)) h
theorem yp{op:Op}{v:Value}(ho:(ops[i]?,dW d n,cR ops E ⟨d,op,ty,pos,af,g⟩)=(some ⟨d,op,ty,pos,af,g⟩,true,true))(hr:∀w',exec P E op ty w'=.ok (.value v) w')
  (h:wpP P n ops Q p T (dI d v E) w):wpP P n ops Q (.pure i p) T E w:=m8 (congrArg Prod.fst ho) (congrArg (λq=>q.2.1) ho) (congrArg (λq=>q.2.2) ho) hr h
theorem yex{op:Op}{F:Value->Prop}(ho:(ops[i]?,dW d n,cR ops E ⟨d,op,ty,pos,af,g⟩)=(some ⟨d,op,ty,pos,af,g⟩,true,true))(hr:∃v,(∀w',exec P E op ty w'=.ok (.value v) w')/\F v)
  (h:∀v,F v->wpP P n ops Q p T (dI d v E) w):wpP P n ops Q (.pure i p) T E w:=wpP_ex (congrArg Prod.fst ho) (congrArg (λq=>q.2.1) ho) (congrArg (λq=>q.2.2) ho) hr h
theorem fj{op:Op}{un:List Nat}{F:Value->World->Prop}(ho:(ops[i]?,dW d n,cR ops E ⟨d,op,ty,pos,af,g⟩)=(some ⟨d,op,ty,pos,af,g⟩,true,true))(hr:∃v w',exec P E op ty w=.ok (.value v) w'/\F v w')
  (h:∀v w',F v w'->obl T un w'/\wpP P n ops Q p T (dI d v E) w'):wpP P n ops Q (.eff i un p) T E w:=wpP_exw (congrArg Prod.fst ho) (congrArg (λq=>q.2.1) ho) (congrArg (λq=>q.2.2) ho) hr h
theorem dx{op:Op}{un:List Nat}{F:World->Prop}(ho:(ops[i]?,dW d n,cR ops E ⟨d,op,ty,pos,af,g⟩)=(some ⟨d,op,ty,pos,af,g⟩,true,true))(hr:∃w',exec P E op ty w=.ok .skip w'/\F w')
  (h:∀w',F w'->obl T un w'/\wpP P n ops Q p T (dI d undef E) w'):wpP P n ops Q (.eff i un p) T E w:=wpP_exs (congrArg Prod.fst ho) (congrArg (λq=>q.2.1) ho) (congrArg (λq=>q.2.2) ho) hr h
theorem ycl{op:Op}{un:List Nat}{w':World}{f:FuncId}{args:Array Value}{R:Value->World->Prop}(ho:(ops[i]?,dW d n,cR ops E ⟨d,op,ty,pos,af,g⟩)=(some ⟨d,op,ty,pos,af,g⟩,true,true))
  (hr:exec P E op ty w=.ok (.enter f args) w') (hc:Ret P f args w' R) (h:∀v w'',R v w''->obl T un w''/\wpP P n ops Q p T (dI d v E) w''):wpP P n ops Q (.eff i un p) T E w:=Gz (congrArg Prod.fst ho) (congrArg (λq=>q.2.1) ho) (congrArg (λq=>q.2.2) ho) hr hc h
theorem yno{op:Op}(ho:(ops[i]?,dW d n,cR ops E ⟨d,op,ty,pos,af,g⟩)=(some ⟨d,op,ty,pos,af,g⟩,true,false))
  (h:wpP P n ops Q p T (dI d undef E) w):wpP P n ops Q (.pure i p) T E w:=wpP_no (congrArg Prod.fst ho) (congrArg (λq=>q.2.1) ho) (congrArg (λq=>q.2.2) ho) h
end
abbrev bq:=@And.intro
abbrev G9:=@Array.ext_getElem?
abbrev DB:=@Array.length_toList
abbrev uO:=@Array.toList_modify
abbrev G8:=@Array.toList_push
abbrev j9:=@Bool.and_eq_true
abbrev qI:=@Bool.eq_iff_iff
abbrev DA:=@Bool.false_eq_true
abbrev qH:=@Bool.false_or
abbrev xK:=@Bool.not_eq_true'
abbrev sE:=@Bool.not_false
abbrev mR:=@Bool.or_eq_true
abbrev j4:=@Bool.true_and
abbrev aT:=@Exists.intro
abbrev uR:=@Int.natCast_nonneg
abbrev jk:=@Int.toNat_natCast
abbrev yZ:=@List.Pairwise.nil
abbrev pW:=@List.Perm.append_left
abbrev BV:=@List.Sublist.append_left
abbrev BU:=@List.all_append
abbrev bP:=@List.append_assoc
abbrev cE:=@List.append_nil
abbrev pV:=@List.cons.injEq
abbrev BT:=@List.cons_append
abbrev sD:=@List.count_append
abbrev uQ:=@List.count_cons
abbrev uP:=@List.count_nil
abbrev yY:=@List.dropLast_concat_getLast
abbrev BS:=@List.drop_append
abbrev sC:=@List.drop_append_of_le_length
abbrev gC:=@List.drop_drop
abbrev jE:=@List.drop_eq_getElem_cons
abbrev ej:=@List.drop_left'
abbrev sB:=@List.drop_length
abbrev gj:=@List.drop_of_length_le
abbrev jj:=@List.drop_replicate
abbrev gS:=@List.drop_zero
abbrev yX:=@List.elem_eq_true_of_mem
abbrev kj:=@List.eq_nil_of_length_eq_zero
abbrev BR:=@List.exists_cons_of_length_eq_add_one
abbrev yW:=@List.exists_mem_of_ne_nil
abbrev lS:=@List.ext_getElem?
abbrev pU:=@List.filter_append
abbrev yV:=@List.filter_cons
abbrev nO:=@List.flatMap_append
abbrev pT:=@List.flatMap_cons
abbrev yU:=@List.flatMap_nil
abbrev lR:=@List.flatten_append
abbrev hG:=@List.flatten_cons
abbrev l6:=@List.foldl_append
abbrev pS:=@List.foldl_cons
abbrev eI:=@List.getD_eq_getElem?_getD
abbrev iK:=@List.getElem?_append_left
abbrev fY:=@List.getElem?_append_right
abbrev uN:=@List.getElem?_cons_succ
abbrev sA:=@List.getElem?_cons_zero
abbrev kZ:=@List.getElem?_drop
abbrev bM:=@List.getElem?_eq_getElem
abbrev nN:=@List.getElem?_eq_none
abbrev mJ:=@List.getElem?_map
abbrev yT:=@List.getElem?_mapIdx
abbrev pR:=@List.getElem?_modify
abbrev yS:=@List.getElem?_set
abbrev ki:=@List.getElem?_take
abbrev mI:=@List.getElem?_toArray
abbrev uM:=@List.getElem_drop
abbrev lQ:=@List.getElem_mem
abbrev jD:=@List.getElem_of_mem
abbrev pQ:=@List.getElem_take
abbrev aF:=@List.length_append
abbrev cg:=@List.length_cons
abbrev bE:=@List.length_drop
abbrev uL:=@List.length_filter_le
abbrev dr:=@List.length_map
abbrev kY:=@List.length_nil
abbrev cN:=@List.length_replicate
abbrev gR:=@List.length_set
abbrev gB:=@List.length_singleton
abbrev bz:=@List.length_take
abbrev gi:=@List.map_append
abbrev sy:=@List.map_congr_left
abbrev eV:=@List.map_cons
abbrev fH:=@List.map_map
abbrev uK:=@List.map_nil
abbrev uJ:=@List.map_toArray
abbrev fX:=@List.mem_append
abbrev cL:=@List.mem_append_left
abbrev cf:=@List.mem_append_right
abbrev bZ:=@List.mem_cons
abbrev bN:=@List.mem_cons_of_mem
abbrev cM:=@List.mem_cons_self
abbrev uI:=@List.mem_filter
abbrev j1:=@List.mem_of_getElem?
abbrev BQ:=@List.mem_of_mem_take
abbrev uH:=@List.mem_range
abbrev gh:=@List.mem_singleton
abbrev yR:=@List.mergeSort_perm
abbrev dG:=@List.nil_append
abbrev kh:=@List.nodup_append
abbrev jC:=@List.nodup_cons
abbrev kG:=@List.nodup_nil
abbrev dD:=@List.not_mem_nil
abbrev oL:=@List.pairwise_append
abbrev ur:=@List.pairwise_map
abbrev zh:=@List.pairwise_singleton
abbrev zg:=@List.perm_append_singleton
abbrev zf:=@List.perm_ext_iff_of_nodup
abbrev oK:=@List.perm_iff_count
abbrev iA:=@List.range_succ
abbrev uq:=@List.replicate_append_replicate
abbrev uo:=@List.replicate_zero
abbrev gV:=@List.singleton_append
abbrev oJ:=@List.size_toArray
abbrev um:=@List.sublist_cons_self
abbrev gU:=@List.take_add_one
abbrev eZ:=@List.take_append_drop
abbrev fM:=@List.take_append_getElem
abbrev lE:=@List.take_append_of_le_length
abbrev cP:=@List.take_left'
abbrev cX:=@List.take_length
abbrev cd:=@List.take_of_length_le
abbrev oI:=@List.take_sublist
abbrev qO:=@List.take_take
abbrev mQ:=@List.take_zero
abbrev ze:=@List.toList_toArray
abbrev mP:=@Nat.add_assoc
abbrev eY:=@Nat.add_mul
abbrev qN:=@Nat.add_zero
abbrev al:=@Nat.le_of_ble_eq_true
abbrev kF:=@Nat.le_of_eq
abbrev mO:=@Nat.le_of_lt
abbrev aM:=@Nat.le_refl
abbrev bw:=@Nat.le_trans
abbrev iz:=@Nat.lt_of_lt_of_le
abbrev ey:=@Nat.min_eq_left
abbrev lD:=@Nat.min_eq_right
abbrev fp:=@Nat.mod_eq_of_lt
abbrev qM:=@Nat.mod_lt
abbrev oH:=@Nat.mul_comm
abbrev uk:=@Nat.mul_le_mul
abbrev ew:=@Nat.mul_le_mul_right
abbrev qL:=@Nat.mul_one
abbrev mN:=@Nat.pow_le_pow_right
abbrev zc:=@Nat.shiftRight_eq_div_pow
abbrev jO:=@Nat.zero_add
abbrev eh:=@Nat.zero_le
abbrev oG:=@Nat.zero_mul
abbrev zb:=@Option.getD_some
abbrev z8:=@Option.map_some
abbrev qK:=@Option.some.inj
abbrev oF:=@Option.some.injEq
abbrev lC:=@Prod.mk.injEq
abbrev qJ:=@UInt32.lt_iff_toNat_lt
abbrev z7:=@UInt32.ofNat_toNat
abbrev fL:=@UInt32.toNat_ofNat'
abbrev z6:=@UInt32.toNat_ofNat_of_lt'
abbrev mL:=@UInt64.lt_iff_toNat_lt
abbrev oE:=@UInt64.toNat_add
abbrev ef:=@UInt64.toNat_ofNat'
abbrev mK:=@UInt64.toNat_ofNat_of_lt'
abbrev uj:=@UInt8.lt_irrefl
abbrev iX:=@UInt8.toNat_ofNat'
def FX(P:Program)(w:World)(E:Env):List ResultVar->List Value->Prop
 | [], [] => True
 | .tmp t :: rs, v :: vs => E t = v /\ FX P w E rs vs
 | .cell a t :: rs, v :: vs => (∃ ad, E a = .pointer (some ad) /\ (loadVar t ad).run P w = .ok v w) /\ FX P w E rs vs
 | _, _ => False
def tup:List Value->Value
 | [v] => v
 | vs => .tuple vs.toArray
def endR(P:Program)(rs:List ResultVar)(R:Value->World->Prop):ji
 | .normal, E, w | .ret, E, w => ∃ vs, FX P w E rs vs /\ R (tup vs) w
 | _, _, _ => False
theorem GV{P:Program}{w:World}{t:Array Value}:∀(rs:List ResultVar) (vs:List Value),FX P w (ek t) rs vs->Sem.run P (rs.mapM (m:=Sem) fun
   | .tmp x => pure (t.getD x undef)
   | .cell a ty => do loadVar ty (<- asAddr (t.getD a undef))) w = .ok vs w := by
 intro rs
 induction rs with
 | nil => intro vs h; cases vs with | nil => rfl | cons _ _ => exact h.elim
 | cons r rs ih =>
  intro vs h;cases vs with
  | nil => cases r <;> exact h.elim
  | cons v vs =>
   cases r with
   | tmp x =>
    obtain⟨h1,h2⟩:=h;rw[List.mapM_cons];simp only[pure_bind];rw[ar (ih vs h2)];rw[<-h1];rfl
   | cell a ty =>
    obtain⟨⟨ad,h1,h2⟩,h3⟩:=h;rw[List.mapM_cons];have h1':t.getD a undef=.pointer (some ad):=h1;have h4:(do let ad <-asAddr (t.getD a undef);loadVar ty ad:Sem Value).run P w=.ok v w:=by
     rw[h1',ar (show(asAddr (.pointer (some ad))).run P w=.ok ad w from rfl)];exact h2
    simp only[];rw[ar h4,ar (ih vs h3)];rfl
theorem AD(fn:Func)(rs:List ResultVar)(hr:fn.results=rs.toArray)(t:Array Value)(P:Program)(w:World)(vs:List Value)(h:FX P w (ek t) rs vs) :
  (results fn t).run P w=.ok (tup vs) w:=by
 have h':=GV rs vs h;unfold results;rw[hr];simp only[List.mapM_toArray]
 revert h'
 generalize rs.mapM (m:=Sem) (fun
   | .tmp x => pure (t.getD x undef)
   | .cell a ty => do loadVar ty (<- asAddr (t.getD a undef))) = s
 intro h';simp only[map_eq_pure_bind,bind_assoc,pure_bind];rw[ar h'];cases vs with
 | nil => rfl
 | cons x vs => cases vs with
  | nil => rfl
  | cons y vs => simp [tup]
theorem fF{P:Program}{f:FuncId}{fn:Func}{c:Code}{args:List Value}{w:World}{R:Value->World->Prop}(rs:List ResultVar)
  (hf:P.funcs[f]?=some fn) (hb:fn.body=some c) (hr:fn.results=rs.toArray) (hs:args.length<=fn.ntmps)
  (h:wpE P fn.ntmps c (endR P rs R) (env0 args) w):Ret P f args.toArray w R:=by
 refine calls_of_wp hf hb ?_;refine wp_mono (h _ ?_ O (Eh _ _)) ?_
 ·simp;omega
 ·rintro e a w' ⟨k1,k2,k3,k4⟩;cases e with
  | normal => obtain ⟨vs, h1, h2⟩ := k4; exact ⟨k2, _, AD fn rs hr _ _ _ vs h1, _, rfl, h2⟩
  | ret => obtain ⟨vs, h1, h2⟩ := k4; exact ⟨k2, _, AD fn rs hr _ _ _ vs h1, _, rfl, h2⟩
  | exit id => exact k4.elim
  | goto l => exact k4.elim
  | panic c => exact k4.elim
  | outgrown => exact k4.elim
theorem di{P:Program}{rs:List ResultVar}{R:Value->World->Prop}{E:Env}{w:World}(h:∃vs,FX P w E rs vs/\R (tup vs) w):endR P rs R .ret E w:=h
theorem fu{P:Program}{w:World}{t:TypeId}{d:TypeDesc}{i:TypeInfo}{b off:Nat}{l:List Value}(ht:P.underlying t=some d)(hd:iu d=true)(hi:P.info? t=some i)(h:At w b off l)(hl:i.size=l.length) :
  (loadVar t ⟨b,off,none⟩).run P w=.ok (.agg l.toArray) w:=by
 unfold loadVar;rw[ar (oT ht w),hd];simp only[if_true];rw[ar (cx hi w),hl,ar (iQ h)];rfl
section
variable {α:Type}[Flat α]{P:Program}{n:Nat}{ops:Array Oper}{Q:ji}{E:Env}{w:World}{rest:List Oper}{d d1:Option Nat}{ty ty1 t t':TypeId}{x y:Operand}{pos pos1:String}{af af1:Array Edge}
theorem cJ{e:TypeId}{i:TypeInfo}{z:Value}{dd:TypeDesc}{vx vy:Value}{l m:List α}(ht:P.underlying t=some (.slice e))(ht':P.underlying t'=some dd)(hi:P.info? e=some i)
  (hdd:dd=.string∨∃e',dd=.slice e') (hz:i.zero=some z) (hsz:i.size=Flat.sz α) (hzs:z.cells.size=Flat.sz α) (hby:i.bytes<=1024) (hd:dW d n=true) (hl:Own w vx l) (hm:Src α P w vy m) (hx:ev E x=vx) (hy:ev E y=vy)
  (hb:l.length+m.length<=1073741824)
  (h:∀v' w',Appended vx l m w v' w'->wpL P n ops Q rest (dI d v' E) w') :
  wpL P n ops Q (⟨d,.call { callee:=.builtin .append,args:=#[x,y],argTypes:=#[t,t'] },ty,pos,af,none⟩::rest) E w:=by
 obtain⟨v',w',h1,h2⟩:=vg (ty:=ty) ht ht' hdd hi hz hsz hzs hby hx hy hl hm hb;exact a7 hd h1 (h v' w' h2)
theorem iO{e:TypeId}{i:TypeInfo}{z:Value}{v:Value}{vy:Value}{k:Nat}(a:α){l:List α}(ht:P.underlying t=some (.slice e))(hi:P.info? e=some i)(hz:i.zero=some z)(hsz:i.size=Flat.sz α)(hzs:z.cells.size=Flat.sz α)(hby:i.bytes<=1024)(hb1:Flat.sz α<=16777216)
  (hd1:dW (some k) n=true) (hd:dW d n=true) (hx:ev E x=v) (hv:v.cells.toList=Flat.enc a) (hl:Own w vy l) (hy:∀s,ev (upd k s E) y=vy) (hb:l.length<1073741824)
  (h:∀s v' w',Appended vy l [a] w v' w'->wpL P n ops Q rest (dI d v' (upd k s E)) w') :
  wpL P n ops Q (⟨some k,.buildSlice t 1 #[(0,x)],ty1,pos1,af1,none⟩::⟨d,.call { callee:=.builtin .append,args:=#[y,.tmp k],argTypes:=#[t,t] },ty,pos,af,none⟩::rest) E w:=by
 obtain⟨s,h1,h2,h3⟩:=qT (ty:=ty1) (w:=w) (ps:=#[(0,x)]) (E:=E) [v] [a] ht hi hz hsz hzs (by simp[hx]) (by simp[hv]) rfl (by simpa using hb1);refine a7 hd1 h1 ?_;have hm:Chg [] w (w.pushB (.cells (bl [a]).toArray e)):=Chg.push _ _;obtain⟨v',w',k1,k2⟩:=vg (ty:=ty) (E:=upd k s E) (x:=y) (y:=.tmp k) (vy:=s) (m:=[a]) ht ht (.inr ⟨_,rfl⟩) hi hz hsz hzs hby (hy s) (by simp[ev,upd]) (hl.mod0 hm) h2.sl.src (by simp;omega);refine a7 hd k1 (h s v' w' ⟨k2.own,hm.tr0' k2.mod,?_⟩);exact k2.inn.mono (λb hb=>.inl hb) hm.1
end
def cy{α:Type}[Flat α](l:List α):Value:=.agg (bl l).toArray
def Arr{α:Type}[Flat α](w:World)(b:Nat)(l:List α):Prop:=∃e,w.heap[b]?=some (.cells (bl l).toArray e (0,0))
def spl{α:Type}(l:List α)(i:Nat)(m:List α):List α:=l.take i++m++l.drop (i+m.length)
section
variable {α:Type}[Flat α]
theorem vT{l m:List α}{i:Nat}(h:i+m.length<=l.length):gn (bl l).toArray (i*Flat.sz α) (bl m)=(bl (spl l i m)).toArray:=by
 apply G9;intro k;have hsz:i*Flat.sz α+(bl m).length<=(bl l).toArray.size:=by
  rw[aV,oJ,aV,<-eY];exact ew _ h
 rw[iT _ _ _ _ hsz];have e:bl (spl l i m)=(bl l).take (i*Flat.sz α)++bl m++(bl l).drop ((i+m.length)*Flat.sz α):=by
  rw[gP,fg,spl,dP,dP]
 simp only[mI];rw[e];have h1:((bl l).take (i*Flat.sz α)).length=i*Flat.sz α:=by
  rw[bz,aV];exact ey (ew _ (by omega))
 have h2:(bl m).length=m.length*Flat.sz α:=aV m;have h3:(i+m.length)*Flat.sz α=i*Flat.sz α+m.length*Flat.sz α:=eY _ _ _;by_cases ha:k<i*Flat.sz α
 ·rw[if_neg (by omega),bP,iK (by omega),ki,if_pos ha]
 ·by_cases hb:k<i*Flat.sz α+(bl m).length
  ·rw[if_pos (by omega),iK (by rw[aF];omega),fY (by omega),h1]
  ·rw[if_neg (by omega),fY (by rw[aF];omega),aF,h1,kZ];congr 1;omega
variable {w w':World}{b:Nat}{l:List α}{S:List Nat}
theorem Arr.chg(h:Arr w b l)(hm:Chg S w w')(hn:b∉S):Arr w' b l:=by
 obtain⟨e,h⟩:=h;exact⟨e,hm.blk h hn⟩
theorem Arr.chg0(h:Arr w b l)(hm:Chg [] w w'):Arr w' b l:=h.chg hm (by simp)
theorem Arr.at(h:Arr w b l):At w b 0 (bl l):=by
 obtain⟨e,h⟩:=h;exact⟨_,e,_,h,λi v hi=>by simpa using hi⟩
theorem Arr.lt(h:Arr w b l):b<w.heap.size:=h.at.lt
theorem Arr.sl(h:Arr w b l){n c:Nat}(hn:l.length=n)(hc:n<=c):Sl w (.slice (some ⟨b,0,none⟩) n c) l:=Sl.of_at h.at hn hc
theorem Arr.slc(h:Arr w b l){i n c off:Nat}(ho:off=i*Flat.sz α)(hn:i+n<=l.length)(hc:n<=c):Sl w (.slice (some ⟨b,off,none⟩) n c) ((l.drop i).take n):=by
 subst ho
 have:=(h.at.drop (i*Flat.sz α)).take (n*Flat.sz α)
 rw[fg,gP,jO] at this;exact Sl.of_at this (by rw[bz,bE];omega) hc
theorem Arr.cell(h:Arr w b l){i:Nat}{a:α}(hi:l[i]?=some a){j off:Nat}(ho:off=i*Flat.sz α+j)(hj:j<Flat.sz α){v:Value}(hv:(Flat.enc a)[j]?=some v):w.cell? ⟨b,off,none⟩=some v:=by
 subst ho
 have:=h.at.cell (i:=i*Flat.sz α+j) (v:=v) (by rw[s9 l hi j hj];exact hv)
 simpa using this
theorem Arr.own(h:Arr w b l):Own w (.slice (some ⟨b,0,none⟩) l.length l.length) l:=by
 obtain⟨e,h⟩:=h;exact⟨_,_,rfl,aM _,rfl,_,e,_,h,jc _,by simp[aV],λi x hi=>by simpa using hi⟩
variable {P:Program}{n:Nat}{ops:Array Oper}{Q:ji}{E:Env}{rest:List Oper}{d:Option Nat}{ty t t':TypeId}{x y:Operand}{pos:String}{af:Array Edge}
theorem aU{i:TypeInfo}{z:Value}(l0:List α)(hi:P.info? t=some i)(hz:i.zero=some z)(hl:z.cells=(bl l0).toArray)(hd:dW d n=true)
  (h:∀w1 b,w.heap.size<=b->Arr w1 b l0->Chg [] w w1->b<w1.heap.size->wpL P n ops Q rest (dI d (.pointer (some ⟨b,0,none⟩)) E) w1) :
  wpL P n ops Q (⟨d,.alloc t,ty,pos,af,none⟩::rest) E w :=
 EL hi hz hd λw1 b h1 h2 h3 h4=>h w1 b h1 ⟨t,by rw[<-hl];exact h2⟩ h3 h4
theorem cW{l:List α}(hx:ev E x=cy l)(hd:dW d n=true)
  (h:∀w1 b,w.heap.size<=b->Arr w1 b l->Chg [] w w1->b<w1.heap.size->wpL P n ops Q rest (dI d (.pointer (some ⟨b,0,none⟩)) E) w1) :
  wpL P n ops Q (⟨d,.box t x,ty,pos,af,none⟩::rest) E w :=
 wpL_box hx hd λw1 b h1 h2 h3 h4=>h w1 b h1 ⟨t,h2⟩ h3 h4
theorem BZ{i:TypeInfo}{l':List α}(hi:P.info? t=some i)(hx:ev E x=.pointer (some ⟨b,0,none⟩))(hy:ev E y=cy l')(hb:Arr w b l)(hs:i.size=l'.length*Flat.sz α)(hl:l'.length=l.length) :
  ∃w1,exec P E (.store t x y) ty w=.ok .skip w1/\Arr w1 b l'/\Chg [b] w w1/\w1.heap.size=w.heap.size:=by
 obtain⟨e,hb⟩:=hb;have hc:(cy l').cells.toList=bl l':=by simp[cy,Value.cells]
 have hcs:(cy l').cells.size=l'.length*Flat.sz α:=by simp[cy,Value.cells,aV]
 have h1:=uu (ty:=ty) hi hx hy (by rw[hcs,hs]) hb (by rw[hcs,oJ,aV,hl];omega) (jc _) (by rw[hc];exact gx l');refine⟨_,h1,⟨e,?_⟩,Chg.set _ _ _,dS _ _ _⟩;rw[eB (cG hb),hc]
 have:=vT (l:=l) (m:=l') (i:=0) (by omega)
 rw[oG] at this;rw[this];congr 4;simp[spl,hl]
theorem gJ{i:TypeInfo}{a:α}{v:Value}{k off:Nat}(hi:P.info? t=some i)(hx:ev E x=.pointer (some ⟨b,off,none⟩))(ho:off=k*Flat.sz α)(hy:ev E y=v)(hv:v.cells.toList=Flat.enc a)(hb:Arr w b l)(hs:i.size=Flat.sz α)(hk:k<l.length) :
  ∃w1,exec P E (.store t x y) ty w=.ok .skip w1/\Arr w1 b (l.set k a)/\Chg [b] w w1/\w1.heap.size=w.heap.size:=by
 obtain⟨e,hb⟩:=hb;subst ho;have hc:v.cells.toList=bl [a]:=by rw[hv];simp[bl]
 have hcs:v.cells.size=Flat.sz α:=by rw[<-DB,hv,Flat.len]
 have h1:=uu (ty:=ty) hi hx hy (by rw[hcs,hs]) hb (by
  rw[hcs,oJ,aV]
  have:(k+1)*Flat.sz α<=l.length*Flat.sz α:=ew _ hk
  rw[eY] at this;omega) (jc _) (by rw[hc];exact gx _)
 refine⟨_,h1,⟨e,?_⟩,Chg.set _ _ _,dS _ _ _⟩;rw[eB (cG hb),hc,vT (by simp only[gB];omega)];congr 4;apply lS;intro j;simp only[spl,gB,bP,yS];by_cases h1:j<k
 ·rw[iK (by rw[bz];omega),ki,if_pos h1,if_neg (by omega)]
 ·rw[fY (by rw[bz];omega),bz,ey (by omega)];by_cases h2:k=j
  ·subst h2;simp[hk]
  ·obtain⟨m,rfl⟩:∃m,j=k+1+m:=⟨j-k-1,by omega⟩
   rw[if_neg h2,show k+1+m-k=m+1 from by omega];simp[List.getElem?_drop]
theorem EH{dd:TypeDesc}{i:TypeInfo}(ht:P.underlying t=some dd)(hd:iu dd=true)(hi:P.info? t=some i)(hx:ev E x=.pointer (some ⟨b,0,none⟩))(h:Arr w b l)(hs:i.size=l.length*Flat.sz α) :
  exec P E (.load t x) ty w=.ok (.value (cy l)) w:=cK ht hd hi hx h.at (by rw[aV];exact hs)
theorem AB{dd:TypeDesc}{i:TypeInfo}(ht:P.underlying t=some dd)(hd:iu dd=true)(hi:P.info? t=some i)(h:Arr w b l)(hs:i.size=l.length*Flat.sz α) :
  (loadVar t ⟨b,0,none⟩).run P w=.ok (cy l) w:=fu ht hd hi h.at (by rw[aV];exact hs)
theorem fa{e:TypeId}{i:TypeInfo}{off dl dcap k:Nat}{vy:Value}{m:List α}(ht:P.underlying t=some (.slice e))(hi:P.info? e=some i)(hsz:i.size=Flat.sz α)
  (hx:ev E x=.slice (some ⟨b,off,none⟩) dl dcap) (ho:off=k*Flat.sz α) (hy:ev E y=vy) (hm:Src α P w vy m) (hb:Arr w b l) (hr:k+dl<=l.length) :
  ∃w1,exec P E (.call { callee:=.builtin .copy,args:=#[x,y],argTypes:=#[t,t'] }) ty w=.ok (.value (.int .i64 (min m.length dl:Nat))) w1/\Arr w1 b (spl l k (m.take (min m.length dl)))/\Chg [b] w w1/\w1.heap.size=w.heap.size:=by
 obtain⟨be,hb⟩:=hb;subst ho;have h1:=Cb (t':=t') (ty:=ty) ht hi hsz hx hy hm hb (jc _) (by
  rw[oJ,aV,<-eY];exact ew _ hr)
 refine⟨_,h1,⟨be,?_⟩,Chg.set _ _ _,dS _ _ _⟩;rw[eB (cG hb),vT (by rw[bz];omega)]
end
section
variable {P:Program}{E:Env}{w:World}{ty t u:TypeId}{x y:Operand}
theorem uE(l:List UInt8):cy l=.agg (l.map u8v).toArray:=by rw[cy,s8]
theorem x_eqArr{e:TypeId}{n:Nat}{i:TypeInfo}{k:IntKind}{l m:List UInt8}(ht:P.underlying t=some (.array n e))(hi:P.info? e=some i)(hs:i.size=1)(he:P.underlying e=some (.int k))(hg:P.eqGuardType P.depth t=false)
  (hx:ev E x=cy l) (hy:ev E y=cy m) (hl:l.length=n) (hm:m.length=n):exec P E (.binOp .eql t x y u) ty w=.ok (.value (.bool (decide (l=m)))) w :=
 x_eqlA ht hi hs he hg (by rw[hx,uE]) (by rw[hy,uE]) hl hm
theorem x_neArr{e:TypeId}{n:Nat}{i:TypeInfo}{k:IntKind}{l m:List UInt8}(ht:P.underlying t=some (.array n e))(hi:P.info? e=some i)(hs:i.size=1)(he:P.underlying e=some (.int k))(hg:P.eqGuardType P.depth t=false)
  (hx:ev E x=cy l) (hy:ev E y=cy m) (hl:l.length=n) (hm:m.length=n):exec P E (.binOp .neq t x y u) ty w=.ok (.value (.bool (decide (l≠m)))) w :=
 x_neqA ht hi hs he hg (by rw[hx,uE]) (by rw[hy,uE]) hl hm
end
theorem Chg.t1{w w1 w2:World}{b:Nat}(h:Chg [] w w1)(h':Chg [b] w1 w2)(hb:w.heap.size<=b):Chg [] w w2 :=
 h.trans h' (λ_ h _=>h) (by simp only[gh,forall_eq];omega)
theorem Chg.t0{w w1 w2:World}{S:List Nat}(h:Chg [] w w1)(h':Chg S w1 w2)(hb:∀b∈S,w.heap.size<=b):Chg [] w w2 :=
 h.trans h' (λ_ h _=>h) (λb hs hl=>by have:=hb b hs;omega)
theorem Chg.tn{w w1 w2:World}{S:List Nat}{b:Nat}(h:Chg S w w1)(h':Chg [b] w1 w2)(hb:w.heap.size<=b):Chg S w w2 :=
 h.trans h' (λ_ h _=>h) (by simp only[gh,forall_eq];omega)
theorem In.ge{v:Value}{n:Nat}(h:In v [] n):∀b∈ay v,n<=b:=λb hb=>by
 rcases h b hb with h|h
 ·simp at h
 ·exact h
theorem Arr.nb{α:Type}[Flat α]{w w':World}{b c:Nat}{l:List α}(h:Arr w b l)(hm:Chg [c] w w')(hn:b≠c):Arr w' b l:=h.chg hm (by simpa using hn)
theorem da{α:Type}{l m:List α}(h:m.length=l.length):spl l 0 m=m:=by
 simp[spl,h]
theorem spl_len{α:Type}{l m:List α}{k:Nat}(h:k+m.length<=l.length):(spl l k m).length=l.length:=by
 simp[spl];omega
def oy(v:Value)(k i:Nat):Option (Nat×Nat):=match v with|.slice (some a) _ _=>some (a.block,a.off+i*k)|_=>none
theorem getD_some{α:Type}{l:List α}{i:Nat}{d:α}(h:i<l.length):l[i]?=some (l.getD i d):=by
 rw[eI,bM h];rfl
theorem jb{α:Type}{l:List α}{i k:Nat}{d:α}(hk:i<k)(h:i<l.length):(l.take k)[i]?=some (l.getD i d):=by
 rw[ki,if_pos hk];exact getD_some h
theorem At.c0{w:World}{b off:Nat}{l:List Value}{v:Value}(h:At w b off l)(hv:l[0]?=some v):w.cell? ⟨b,off,none⟩=some v:=h.cell (i:=0) hv
theorem au{a b:Value}{l m:List Value}(h:a=b)(h':l=m):a::l=b::m:=by rw[h,h']
theorem bO:([]:List Value)=[]:=rfl
theorem bL{k:IntKind}{x y:Int}(h:x=y):Value.int k x=Value.int k y:=by rw[h]
theorem pZ{x y:UInt32}(h:x=y):Value.int .u32 x.toNat=Value.int .u32 y.toNat:=by rw[h]
theorem u64_eq{x y:UInt64}(h:x=y):Value.int .u64 x.toNat=Value.int .u64 y.toNat:=by rw[h]
theorem bool_eq{x y:Bool}(h:x=y):Value.bool x=Value.bool y:=by rw[h]
section
variable {α:Type}[Flat α]{P:Program}{E:Env}{w:World}{ty t t':TypeId}{x y:Operand}{l:List α}
theorem Sl.at{v:Value}{b off i:Nat}{a:α}(h:Sl w v l)(he:oy v (Flat.sz α) i=some (b,off))(ha:l[i]?=some a):At w b off (Flat.enc a):=by
 obtain⟨p,cap,rfl,hc,h⟩:=h;cases p with
 | none => simp [oy] at he
 | some q =>
  simp only[oy,oF,lC] at he;obtain⟨rfl,rfl⟩:=he
  have:=(h.2.drop (i*Flat.sz α)).take (Flat.sz α)
  rw[fg] at this;obtain⟨hi,rfl⟩:=List.getElem?_eq_some_iff.1 ha;rw[jE hi,iI,cP (Flat.len _)] at this;exact this
theorem aS(i:Nat){e:TypeId}{n:TypeInfo}{v:Value}{k:IntKind}{j:Int}(ht:P.underlying t=some (.slice e))(hi:P.info? e=some n)(hsz:n.size=Flat.sz α)(hs:Sl w v l)(hx:ev E x=v)(hy:ev E y=.int k j)(hj:j=i)(hl:i<l.length) :
  ∃v',(∀w',exec P E (.indexAddr t x y) ty w'=.ok (.value v') w')/\∃b off,v'=.pointer (some ⟨b,off,none⟩)/\oy v (Flat.sz α) i=some (b,off)/\ay v=[b]:=by
 subst hj;obtain⟨p,cap,rfl,hlc,h⟩:=hs;cases p with
 | none => simp only at h; subst h; simp at hl
 | some q =>
  obtain⟨b,off,sp⟩:=q;obtain⟨h1,h2⟩:=h;simp only at h1;subst h1;refine⟨_,λw'=>Ag ht hi hx hy (by omega),b,_,rfl,?_,rfl⟩;simp only[oy,hsz,jk]
theorem cQ(i:Nat){e:TypeId}{n:Nat}{nf:TypeInfo}{b:Nat}{k:IntKind}{j:Int}(ht:P.underlying t=some (.array n e))(hi:P.info? e=some nf)(hx:ev E x=.pointer (some ⟨b,0,none⟩))(hy:ev E y=.int k j)(hj:j=i)(hl:i<n) :
  exec P E (.indexAddr t x y) ty w=.ok (.value (.pointer (some ⟨b,i*nf.size,none⟩))) w:=by
 subst hj
 have:=zj (w:=w) (ty:=ty) ht hi hx hy (by omega)
 rw[jk,jO] at this;exact this
theorem Arr.c{b i k:Nat}{a:α}(h:Arr w b l)(hi:l[i]?=some a)(hk:k=Flat.sz α){v:Value}(hv:(Flat.enc a)[0]?=some v):w.cell? ⟨b,i*k,none⟩=some v:=by
 have h0:0<(Flat.enc a).length:=(List.getElem?_eq_some_iff.1 hv).1;rw[Flat.len] at h0;exact h.cell hi (j:=0) (by rw[hk];omega) h0 hv
theorem fillV(l:List α)(ps:List (Nat×Value))(qs:List (Nat×α))(k:Nat)(hk:k=Flat.sz α)(hps:ps.map (λp=>(p.1,p.2.cells.toList))=qs.map (λq=>(q.1,Flat.enc q.2)))(hl:∀q∈qs,q.1<l.length) :
  Instr.fill (λi=>some (i*k,k)) (bl l).toArray ps=some (bl (qs.foldl (λl q=>l.set q.1 q.2) l)).toArray:=by
 subst hk
 induction ps generalizing l qs with
 | nil => cases qs with
  | nil => rfl
  | cons q qs => simp at hps
 | cons p ps ih =>
  cases qs with
  | nil => simp at hps
  | cons q qs =>
   obtain⟨i,v⟩:=p;obtain⟨j,a⟩:=q;simp only[eV,pV,lC] at hps;obtain⟨⟨rfl,hv⟩,hps⟩:=hps;have hi:i<l.length:=hl (i,a) (by simp);have hcs:v.cells.size=Flat.sz α:=by rw[<-DB,hv,Flat.len]
   have hroom:i*Flat.sz α+Flat.sz α<=l.length*Flat.sz α:=by
    have:(i+1)*Flat.sz α<=l.length*Flat.sz α:=ew _ hi
    rw[eY] at this;omega
   unfold Instr.fill;simp only[hcs,ne_eq,not_true_eq_false,oJ,aV,gt_iff_lt,Nat.not_lt.2 hroom,decide_false,Bool.or_self,DA,if_false];have hf:v.cells.zipIdx.foldl (λcs (x:Value×Nat)=>cs.setIfInBounds (i*Flat.sz α+x.2) x.1) (bl l).toArray=(bl (l.set i a)).toArray:=by
    rw[<-Array.foldl_toList];have h1:v.cells.zipIdx.toList=(Flat.enc a).zipIdx:=by rw[<-hv];simp
    rw[h1];have key:∀(vs:List Value) (c:Array Value) (off n:Nat),off+n+vs.length<=c.size->∀m,((vs.zipIdx n).foldl (λcs (x:Value×Nat)=>cs.setIfInBounds (off+x.2) x.1) c)[m]?=if off+n<=m/\m<off+n+vs.length then vs[m-(off+n)]? else c[m]?:=by
     intro vs
     induction vs with
     | nil => intro c off n _ m; simp; omega
     | cons x vs ih =>
      intro c off n hr m;simp only[cg] at hr;rw[List.zipIdx_cons,pS,ih _ _ _ (by simp;omega)];simp only[cg];by_cases h2:off+(n+1)<=m/\m<off+(n+1)+vs.length
      ·rw[if_pos h2,if_pos (by omega)];rw[show m-(off+n)=(m-(off+(n+1)))+1 from by omega,uN]
      ·rw[if_neg h2,Array.getElem?_setIfInBounds];by_cases h3:off+n=m
       ·subst h3;rw[if_pos rfl,if_pos (by omega),if_pos (by omega)];simp
       ·rw[if_neg h3,if_neg (by omega)]
    apply G9;intro m
    have:=key (Flat.enc a) (bl l).toArray (i*Flat.sz α) 0 (by simp[Flat.len,aV];exact hroom) m
    rw[this];simp only[qN,Flat.len,mI];have hle:bl (l.set i a)=(bl l).take (i*Flat.sz α)++Flat.enc a++(bl l).drop ((i+1)*Flat.sz α):=by
     rw[gP,fg]
     have:l.set i a=l.take i++[a]++l.drop (i+1):=by rw[List.set_eq_take_append_cons_drop,if_pos hi];simp
     rw[this,dP,dP];simp[bl]
    rw[hle];have hl1:((bl l).take (i*Flat.sz α)).length=i*Flat.sz α:=by rw[bz,aV];omega
    by_cases h1:m<i*Flat.sz α
    ·rw[if_neg (by omega),bP,iK (by omega),ki,if_pos h1]
    ·by_cases h2:m<i*Flat.sz α+Flat.sz α
     ·rw[if_pos (by omega),iK (by rw[aF,hl1,Flat.len];omega),fY (by omega),hl1]
     ·rw[if_neg (by omega),fY (by rw[aF,hl1,Flat.len];omega),aF,hl1,Flat.len,kZ];rw[eY];congr 1;omega
   have:=ih (l.set i a) qs hps (λq hq=>by rw[gR];exact hl q (by simp[hq]))
   rw[pS,<-this];exact congrArg (λz=>Instr.fill (λi=>some (i*Flat.sz α,Flat.sz α)) z ps) hf
theorem lf(l0:List α)(qs:List (Nat×α)){l:List α}{e:TypeId}{n:Nat}{i ie:TypeInfo}{z:Value}{ps:List (Nat×Operand)}(ht:P.underlying t=some (.array n e))(hi:P.info? t=some i)(hz:i.zero=some z)(hie:P.info? e=some ie)
  (hzc:z.cells=(bl l0).toArray) (hs:ie.size=Flat.sz α) (hps:ps.map (λp=>(p.1,(ev E p.2).cells.toList))=qs.map (λq=>(q.1,Flat.enc q.2))) (hl:qs.all (λq=>q.1.blt l0.length)=true) (hr:qs.foldl (λl q=>l.set q.1 q.2) l0=l) :
  exec P E (.build t ps.toArray) ty w=.ok (.value (cy l)) w:=by
 refine Gp ht hi hz hie ?_;subst hr;rw[hzc,uJ,ze];exact fillV l0 _ qs _ hs (by rw[fH];exact hps) (λq hq=>by simpa using List.all_eq_true.1 hl q hq)
theorem x_neg64{a:Int}{u:TypeId}(hx:ev E x=.int .i64 a)(h : -9223372036854775808<a/\a<=9223372036854775808):exec P E (.unOp .neg u x) ty w=.ok (.value (.int .i64 (-a))) w:=by
 rw[x_neg hx,jW (by omega),Int.zero_sub]
theorem cF{b:Nat}(n:Nat){dd:TypeDesc}{i:TypeInfo}(ht:P.underlying t=some dd)(hd:iu dd=true)(hi:P.info? t=some i)(hx:ev E x=.pointer (some ⟨b,0,none⟩))(hs:i.size=n*Flat.sz α)(h:Arr w b l)(hn:l.length=n) :
  exec P E (.load t x) ty w=.ok (.value (cy l)) w:=EH ht hd hi hx h (by rw[hs,hn])
theorem dH{b:Nat}(n:Nat){dd:TypeDesc}{i:TypeInfo}(ht:P.underlying t=some dd)(hd:iu dd=true)(hi:P.info? t=some i)(hs:i.size=n*Flat.sz α)(h:Arr w b l)(hn:l.length=n) :
  (loadVar t ⟨b,0,none⟩).run P w=.ok (cy l) w:=AB ht hd hi h (by rw[hs,hn])
theorem bH{b:Nat}(n:Nat){i:TypeInfo}{l':List α}(hi:P.info? t=some i)(hs:i.size=n*Flat.sz α)(hb:Arr w b l)(hx:ev E x=.pointer (some ⟨b,0,none⟩))(hy:ev E y=cy l')(hn:l.length=n)(hn':l'.length=n) :
  ∃w1,exec P E (.store t x y) ty w=.ok .skip w1/\Arr w1 b l'/\Chg [b] w w1/\w1.heap.size=w.heap.size:=BZ hi hx hy hb (by rw[hs,hn']) (by rw[hn,hn'])
theorem C1(i:Nat){e:TypeId}{n:Nat}{d:TypeDesc}{nf:TypeInfo}{k:IntKind}{j:Int}{a:α}{v:Value}(ht:P.underlying t=some (.array n e))(hd:P.underlying e=some d)(ha:iu d=false)(hi:P.info? e=some nf)(hs:nf.size=Flat.sz α)
  (hx:ev E x=cy l) (hy:ev E y=.int k j) (hj:j=i) (hn:i<n) (hl:l[i]?=some a) (hv:(Flat.enc a)[0]?=some v):exec P E (.index t x y) ty w=.ok (.value v) w:=by
 subst hj;have h0:0<(Flat.enc a).length:=(List.getElem?_eq_some_iff.1 hv).1;rw[Flat.len] at h0;refine Gk ht hd ha hi hx hy (by omega) ?_
 have:=s9 l hl 0 h0
 rw[qN,hv] at this;rw[jk,hs]
 simpa using this
theorem Ae(n cp:Nat){e:TypeId}{i:TypeInfo}{z:Value}{k k':IntKind}{j j':Int}(a:α)(ht:P.underlying t=some (.slice e))(hi:P.info? e=some i)(hz:i.zero=some z)(hsz:i.size=Flat.sz α)(hza:z.cells.toList=Flat.enc a)(hpos:0<Flat.sz α)
  (hx:ev E x=.int k j) (hy:ev E y=.int k' j') (hb:i.bytes<=1024) (hj:j=n) (hj':j'=cp) (hn:n<=cp) (hc:cp<=1073741824) :
  ∃v' w',exec P E (.makeSlice t x y) ty w=.ok (.value v') w'/\(∃p c,v'=.slice p n c)/\Own w' v' (List.replicate n a)/\Chg [] w w'/\In v' [] w.heap.size:=by
 subst hj hj';obtain⟨v',w',h1,h2,h3⟩:=Af (ty:=ty) a ht hi hz hsz hza hpos hx hy hb hn hc;refine⟨v',w',h1,?_,h2,h3⟩;obtain⟨p,c,rfl,_⟩:=h2;exact⟨p,c,by rw[cN]⟩
theorem bU{nf:TypeInfo}{v u:Value}{i b off:Nat}{a:α}(hi:P.info? t=some nf)(hs:nf.size=Flat.sz α)(ho:Own w v l)(hx:ev E x=.pointer (some ⟨b,off,none⟩))(he:oy v (Flat.sz α) i=some (b,off))(hy:ev E y=u)(hu:u.cells.toList=Flat.enc a)(hl:i<l.length) :
  ∃w1,exec P E (.store t x y) ty w=.ok .skip w1/\Own w1 v (l.set i a)/\Chg (ay v) w w1/\w1.heap.size=w.heap.size:=by
 obtain⟨p,cap,rfl,hlc,h⟩:=ho;cases p with
 | none => simp [oy] at he
 | some q =>
  simp only[oy,oF,lC] at he;obtain⟨rfl,rfl⟩:=he;obtain⟨h1,c,ee,fr,h2,h3,h4,h5⟩:=h;have hcs:u.cells.size=Flat.sz α:=by rw[<-DB,hu,Flat.len]
  have hlen:(Flat.enc a).length=Flat.sz α:=Flat.len a;have hroom:q.off+i*Flat.sz α+Flat.sz α<=c.size:=by
   have h6:(i+1)*Flat.sz α<=cap*Flat.sz α:=ew _ (by omega);rw[eY] at h6;omega
  have hst:=uu (ty:=ty) hi hx hy (by rw[hcs,hs]) h2 (by rw[hcs];exact hroom) h3 (by rw[hu];exact Flat.cell a);refine⟨_,hst,⟨some q,cap,by rw[gR],by rw[gR];exact hlc,h1,_,ee,fr,eB (cG h2),h3.size (cY _ _ _),by rw[cY];exact h4,?_⟩,?_,dS _ _ _⟩
  ·intro j z hj;rw[hu];have hroom':q.off+i*Flat.sz α+(Flat.enc a).length<=c.size:=by rw[hlen];exact hroom
   rw[iT _ _ _ _ hroom',hlen];by_cases hin:q.off+i*Flat.sz α<=q.off+j/\q.off+j<q.off+i*Flat.sz α+Flat.sz α
   ·rw[if_pos hin,<-hj]
    have:=s9 (l.set i a) (i:=i) (a:=a) (by rw[List.getElem?_set_self hl]) (j-i*Flat.sz α) (by omega)
    rw[show i*Flat.sz α+(j-i*Flat.sz α)=j from by omega] at this;rw[this];congr 1;omega
   ·rw[if_neg hin];refine h5 j z ?_;rw[<-hj];by_cases hji:j<i*Flat.sz α
    ·have h6:=gP l i;have h7:=gP (l.set i a) i;have h8:(l.set i a).take i=l.take i:=by rw[List.take_set_of_le (aM _)]
     rw[h8] at h7;rw[<-h7] at h6
     have:=congrArg (λz=>z[j]?) h6
     simpa [List.getElem?_take,hji] using this
    ·have h6:=fg l (i+1);have h7:=fg (l.set i a) (i+1);have h8:(l.set i a).drop (i+1)=l.drop (i+1):=by rw[List.drop_set_of_lt (by omega)]
     rw[h8] at h7;rw[<-h7] at h6
     have:=congrArg (λz=>z[j-(i+1)*Flat.sz α]?) h6
     rw[eY] at this;simp only[kZ] at this
     rwa [show i*Flat.sz α+1*Flat.sz α+(j-(i*Flat.sz α+1*Flat.sz α))=j from by omega] at this
  ·refine(Chg.set _ _ _).mono λb hb _=>?_
   simpa [ay] using hb
end
section
variable {P:Program}{n:Nat}{ops:Array Oper}{Q:ji}{E:Env}{w:World}{T:jB}{i:Nat}{p:Plan}{d:Option Nat}{ty t:TypeId}{x:Operand}{pos:String}{af:Array Edge}{g:Option (Nat×Bool)}
theorem aG{dd:TypeDesc}{b off:Nat}{v:Value}(ho:ops[i]?=some ⟨d,.load t x,ty,pos,af,g⟩)(hd:dW d n=true)(hw:cR ops E ⟨d,.load t x,ty,pos,af,g⟩=true)(ht:P.underlying t=some dd)(ha:iu dd=false)
  (hx:ev E x=.pointer (some ⟨b,off,none⟩)) (hc:w.cell? ⟨b,off,none⟩=some v) (h:wpP P n ops Q p ((i,λw'=>w'.cell? ⟨b,off,none⟩=some v)::T) (dI d v E) w):wpP P n ops Q (.read i p) T E w :=
 dE ho hd hw (λw'=>w'.cell? ⟨b,off,none⟩=some v) hc (λ_ h1=>aD ht ha hx h1) h
theorem ft{α:Type}[Flat α]{dd:TypeDesc}{nf:TypeInfo}{b:Nat}{l:List α}(k:Nat)(ho:ops[i]?=some ⟨d,.load t x,ty,pos,af,g⟩)(hd:dW d n=true)(hw:cR ops E ⟨d,.load t x,ty,pos,af,g⟩=true)(ht:P.underlying t=some dd)(ha:iu dd=true)(hi:P.info? t=some nf)
  (hx:ev E x=.pointer (some ⟨b,0,none⟩)) (hs:nf.size=k*Flat.sz α) (hc:Arr w b l) (hn:l.length=k) (h:wpP P n ops Q p ((i,λw'=>Arr w' b l)::T) (dI d (cy l) E) w):wpP P n ops Q (.read i p) T E w :=
 dE ho hd hw (λw'=>Arr w' b l) hc (λ_ h1=>cF k ht ha hi hx hs h1 hn) h
end
end Go.Sac
namespace Go.Sac
def be(k:Nat)(x:Nat):List UInt8:=match k with|0=>[]|k+1=>UInt8.ofNat (x >>> (8*k))::be k x
theorem aP(k x:Nat):(be k x).length=k:=by
 induction k with
 | zero => rfl
 | succ k ih => simp [be, ih]
def dB(l:List UInt8):Nat:=l.foldl (λn c=>n*256+c.toNat) 0
theorem Fi(l:List UInt8):∀n,l.foldl (λn c=>n*256+c.toNat) n=n*256 ^ l.length+dB l:=by
 induction l with
 | nil => intro n; simp [dB]
 | cons a l ih =>
  intro n;simp only[pS,cg];rw[ih];have h:dB (a::l)=a.toNat*256 ^ l.length+dB l:=by
   show List.foldl _ (0*256+a.toNat) l=_;rw[ih,oG,jO]
  rw[h,Nat.pow_succ,eY,Nat.mul_assoc,oH 256,mP]
theorem Fh(l:List UInt8)(c:UInt8):dB (l++[c])=dB l*256+c.toNat:=by
 simp[dB,List.foldl_append]
theorem yi(l:List UInt8)(c:UInt8):dB (c::l)=c.toNat*256 ^ l.length+dB l:=by
 have:=Fi l c.toNat
 unfold dB;simp only[pS,oG,jO];exact this
theorem oX(l:List UInt8):dB l<256 ^ l.length:=by
 induction l with
 | nil => simp [dB]
 | cons a l ih =>
  rw[yi,cg,Nat.pow_succ];have h1:=a.toNat_lt;have h2:a.toNat*256 ^ l.length<=255*256 ^ l.length:=ew _ (by omega);omega
theorem gF(k x:Nat):dB (be k x)=x % 256 ^ k:=by
 induction k with
 | zero => simp [be, dB, Nat.mod_one]
 | succ k ih =>
  rw[be,yi,ih,aP,iX,zc,Nat.pow_mul];rw[show(2:Nat) ^ 8=256 from rfl,Nat.mod_pow_succ]
  have:256 ^ k*(x / 256 ^ k % 256)=x / 256 ^ k % 256*256 ^ k:=oH _ _
  omega
theorem or_byte(n:UInt64)(c:UInt8)(h:n.toNat<72057594037927936):(UInt64.ofNat (n.toNat <<< 8) ||| c.toUInt64)=UInt64.ofNat (n.toNat*256+c.toNat):=by
 apply UInt64.toNat_inj.1;have hc:=c.toNat_lt;have h1:n.toNat <<< 8=n.toNat*256:=by rw[Nat.shiftLeft_eq]
 rw[UInt64.toNat_or,ef,ef,UInt8.toNat_toUInt64,h1,fp (by omega),fp (by omega),<-h1];rw[<-Nat.shiftLeft_add_eq_or_of_lt (by omega:c.toNat<2 ^ 8)]
def nI(a b:List UInt8):List UInt8:=List.zipWith (· ^^^ ·) a b
theorem lF(a b:List UInt8):(nI a b).length=min a.length b.length:=by simp[nI]
theorem xL(a b:List UInt8)(h:a.length<=b.length):nI (nI a b) b=a:=by
 unfold nI
 induction a generalizing b with
 | nil => rfl
 | cons x a ih =>
  cases b with
  | nil => simp at h
  | cons y b =>
   simp only[List.zipWith_cons_cons];rw[ih b (by simpa using h)];congr 1;rw[UInt8.xor_assoc,UInt8.xor_self,UInt8.xor_zero]
def bigL(l:List UInt8):UInt32:=rm (l.getD 0 0).toUInt32 24 ||| rm (l.getD 1 0).toUInt32 16 ||| rm (l.getD 2 0).toUInt32 8 ||| (l.getD 3 0).toUInt32
def nh(l:List UInt8):UInt32:=rm (l.getD 3 0).toUInt32 24 ||| rm (l.getD 2 0).toUInt32 16 ||| rm (l.getD 1 0).toUInt32 8 ||| (l.getD 0 0).toUInt32
def fR(x:UInt32):List UInt8:=[(jo x 24).toUInt8,(jo x 16).toUInt8,(jo x 8).toUInt8,x.toUInt8]
def gE(x:UInt32):List UInt8:=[x.toUInt8,(jo x 8).toUInt8,(jo x 16).toUInt8,(jo x 24).toUInt8]
def GX(x:UInt32)(s:Nat):UInt32:=rm x s ||| jo x (32-s)
def vM(x:UInt32)(n:Nat):UInt32:=GX x ((32-n % 32) % 32)
def zJ(x:UInt32)(n:Nat):UInt32:=GX x (n % 32)
def shaFirst:List UInt32:=[0x6a09e667,0xbb67ae85,0x3c6ef372,0xa54ff53a,0x510e527f,0x9b05688c,0x1f83d9ab,0x5be0cd19]
def shaK:List UInt32:=[0x428a2f98,0x71374491,0xb5c0fbcf,0xe9b5dba5,0x3956c25b,0x59f111f1,0x923f82a4,0xab1c5ed5,
 0xd807aa98,0x12835b01,0x243185be,0x550c7dc3,0x72be5d74,0x80deb1fe,0x9bdc06a7,0xc19bf174,
 0xe49b69c1,0xefbe4786,0x0fc19dc6,0x240ca1cc,0x2de92c6f,0x4a7484aa,0x5cb0a9dc,0x76f988da,
 0x983e5152,0xa831c66d,0xb00327c8,0xbf597fc7,0xc6e00bf3,0xd5a79147,0x06ca6351,0x14292967,
 0x27b70a85,0x2e1b2138,0x4d2c6dfc,0x53380d13,0x650a7354,0x766a0abb,0x81c2c92e,0x92722c85,
 0xa2bfe8a1,0xa81a664b,0xc24b8b70,0xc76c51a3,0xd192e819,0xd6990624,0xf40e3585,0x106aa070,
 0x19a4c116,0x1e376c08,0x2748774c,0x34b0bcb5,0x391c0cb3,0x4ed8aa4a,0x5b9cca4f,0x682e6ff3,
 0x748f82ee,0x78a5636f,0x84c87814,0x8cc70208,0x90befffa,0xa4506ceb,0xbef9a3f7,0xc67178f2]
def oR(b:List UInt8)(w:List UInt32)(i:Nat):List UInt32 :=
 if i<16 then w.set i (bigL (b.drop (4*i)))
 else
  let x:=w.getD (i-15) 0
  let y:=w.getD (i-2) 0
  w.set i ((vM y 17 ^^^ vM y 19 ^^^ jo y 10)+w.getD (i-7) 0+(vM x 7 ^^^ vM x 18 ^^^ jo x 3)+w.getD (i-16) 0)
def fZ(b:List UInt8)(n:Nat):List UInt32:=(List.range n).foldl (oR b) (List.replicate 64 0)
def rn(w:List UInt32)(v:List UInt32)(i:Nat):List UInt32 :=
 let a:=v.getD 0 0
 let e:=v.getD 4 0
 let t1:=v.getD 7 0+(vM e 6 ^^^ vM e 11 ^^^ vM e 25)+((e &&& v.getD 5 0) ^^^ ((~~~ e) &&& v.getD 6 0))+shaK.getD i 0+w.getD i 0
 let t2:=(vM a 2 ^^^ vM a 13 ^^^ vM a 22)+((a &&& v.getD 1 0) ^^^ (a &&& v.getD 2 0) ^^^ (v.getD 1 0 &&& v.getD 2 0))
 [t1+t2,a,v.getD 1 0,v.getD 2 0,v.getD 3 0+t1,e,v.getD 5 0,v.getD 6 0]
def fy(w:List UInt32)(s:List UInt32)(n:Nat):List UInt32:=(List.range n).foldl (rn w) s
def jQ(s v:List UInt32)(n:Nat):List UInt32:=(List.range n).foldl (λv i=>v.set i (v.getD i 0+s.getD i 0)) v
def kL(s:List UInt32)(b:List UInt8):List UInt32:=jQ s (fy (fZ b 64) s 64) 8
theorem vF(b:List UInt8)(w:List UInt32)(i:Nat):(oR b w i).length=w.length:=by
 unfold oR;split <;> simp
theorem jR(b:List UInt8)(n:Nat):(fZ b n).length=64:=by
 unfold fZ
 induction n with
 | zero => simp
 | succ n ih => rw [iA, l6]; simp only [pS, List.foldl_nil]; rw [vF, ih]
theorem tF(b:List UInt8)(n:Nat):fZ b (n+1)=oR b (fZ b n) n:=by
 unfold fZ;rw[iA,l6];rfl
theorem nU(w s:List UInt32)(n:Nat):fy w s (n+1)=rn w (fy w s n) n:=by
 unfold fy;rw[iA,l6];rfl
theorem mi(w s:List UInt32)(h:s.length=8)(n:Nat):(fy w s n).length=8:=by
 cases n with
 | zero => exact h
 | succ n => rw [nU]; rfl
theorem rp(s v:List UInt32)(n:Nat):jQ s v (n+1)=(jQ s v n).set n ((jQ s v n).getD n 0+s.getD n 0):=by
 unfold jQ;rw[iA,l6];rfl
theorem nV(s v:List UInt32)(n:Nat):(jQ s v n).length=v.length:=by
 induction n with
 | zero => rfl
 | succ n ih => rw [rp, gR, ih]
theorem jq(s:List UInt32)(b:List UInt8)(h:s.length=8):(kL s b).length=8:=by
 unfold kL;rw[nV,mi _ _ h]
def dX:Nat->List UInt32->List UInt8->List UInt32
 | 0, s, _ => s
 | k + 1, s, l => dX k (kL s (l.take 64)) (l.drop 64)
theorem jS(k:Nat)(s:List UInt32)(l:List UInt8)(h:s.length=8):(dX k s l).length=8:=by
 induction k generalizing s l with
 | zero => exact h
 | succ k ih => exact ih _ _ (jq _ _ h)
theorem xD(k:Nat)(s:List UInt32)(l m:List UInt8)(h:64*k<=l.length):dX k s (l++m)=dX k s l:=by
 induction k generalizing s l with
 | zero => rfl
 | succ k ih =>
  unfold dX;rw[lE (by omega),sC (by omega),ih _ _ (by rw[bE];omega)]
theorem wS(j k:Nat)(s:List UInt32)(l:List UInt8):dX (j+k) s l=dX k (dX j s l) (l.drop (64*j)):=by
 induction j generalizing s l with
 | zero => simp [dX]
 | succ j ih =>
  rw[show j+1+k=(j+k)+1 from by omega];show dX (j+k) _ _=dX k (dX j _ _) _;rw[ih,gC,show 64+64*j=64*(j+1) from by omega]
def fv(l:List UInt8):List UInt8:=l.drop (64*(l.length / 64))
def fc(l:List UInt8):List UInt32:=dX (l.length / 64) shaFirst l
def xJ(n:Nat):Nat:=(119-n % 64) % 64
def jZ(n:Nat):List UInt8:=0x80::(List.replicate (xJ n) 0++be 8 (n*8))
def lk(l:List UInt8):List UInt8:=(dX ((l++jZ l.length).length / 64) shaFirst (l++jZ l.length)).flatMap fR
theorem iS(l:List UInt8):(fv l).length=l.length % 64:=by
 unfold fv;rw[bE];omega
theorem CG(n:Nat):(n+(jZ n).length) % 64=0:=by
 unfold jZ xJ;simp[aP];omega
theorem j6(l:List UInt32):(l.flatMap fR).length=4*l.length:=by
 induction l with
 | nil => rfl
 | cons a l ih => simp only [pT, aF, ih, cg]; simp [fR]; omega
theorem eT(l:List UInt8):(lk l).length=32:=by
 unfold lk;rw[j6,jS _ _ _ rfl]
theorem y5(l m:List UInt8):fc (l++m)=dX (((fv l)++m).length / 64) (fc l) (fv l++m):=by
 have h1:(l++m).length / 64=l.length / 64+(fv l++m).length / 64:=by
  rw[aF,aF,iS];omega
 unfold fc;rw[h1,wS,xD _ _ _ _ (by omega),sC (by omega)];rfl
theorem H2(l m:List UInt8):fv (l++m)=(fv l++m).drop (64*((fv l++m).length / 64)):=by
 unfold fv;rw[<-sC (by omega),gC];congr 1;simp only[aF,bE];omega
theorem GM(l:List UInt8):dX ((fv l++jZ l.length).length / 64) (fc l) (fv l++jZ l.length)=dX ((l++jZ l.length).length / 64) shaFirst (l++jZ l.length) :=
 (y5 l (jZ l.length)).symm
theorem Az(b:List UInt8):fZ b 0=List.replicate 64 0:=rfl
theorem vD(w s:List UInt32):fy w s 0=s:=rfl
theorem zB(s v:List UInt32):jQ s v 0=v:=rfl
theorem Ax(s:List UInt32)(b:List UInt8):kL s b=jQ s (fy (fZ b 64) s 64) 8:=rfl
theorem u0(s:List UInt32)(l:List UInt8):dX 0 s l=s:=rfl
theorem u3(k:Nat)(s:List UInt32)(l:List UInt8):dX (k+1) s l=kL (dX k s l) ((l.drop (64*k)).take 64):=by
 rw[wS];rfl
theorem Cq(l:List UInt8):lk l=(dX ((l++jZ l.length).length / 64) shaFirst (l++jZ l.length)).flatMap fR:=rfl
theorem Ap:fc []=shaFirst:=rfl
theorem Cx:fv []=[]:=rfl
theorem lj(l:List UInt8):(fc l).length=8:=jS _ _ _ rfl
attribute [irreducible] fZ fy jQ kL dX lk fc fv
def om(k:List UInt8)(c:UInt8):List UInt8:=(k++List.replicate (64-k.length) 0).map (· ^^^ c)
def qn(k m:List UInt8):List UInt8:=lk (om k 0x5c++lk (om k 0x36++m))
def bm(k label:List UInt8)(n:Nat):List UInt8:=qn k (label++be 4 n++[1])
theorem gN(k:List UInt8)(c:UInt8)(h:k.length<=64):(om k c).length=64:=by
 unfold om;simp;omega
theorem ea(k m:List UInt8):(qn k m).length=32:=eT _
theorem dL(k l:List UInt8)(n:Nat):(bm k l n).length=32:=ea _ _
theorem HD(k m:List UInt8):qn k m=lk (om k 0x5c++lk (om k 0x36++m)):=rfl
theorem Br(k label:List UInt8)(n:Nat):bm k label n=qn k (label++be 4 n++[1]):=rfl
attribute [irreducible] qn bm
def fD(a b c d:UInt32):UInt32×UInt32×UInt32×UInt32 :=
 let a:=a+b
 let d:=zJ (d ^^^ a) 16
 let c:=c+d
 let b:=zJ (b ^^^ c) 12
 let a:=a+b
 let d:=zJ (d ^^^ a) 8
 let c:=c+d
 let b:=zJ (b ^^^ c) 7
 (a,b,c,d)
def iE(w:List UInt32)(a b c d:Nat):List UInt32 :=
 let q:=fD (w.getD a 0) (w.getD b 0) (w.getD c 0) (w.getD d 0)
 (((w.set a q.1).set b q.2.1).set c q.2.2.1).set d q.2.2.2
def oA(w:List UInt32)(n:Nat):List UInt32:=(List.range n).foldl (λw i=>iE w i (i+4) (i+8) (i+12)) w
def nq(w:List UInt32)(n:Nat):List UInt32:=(List.range n).foldl (λw i=>iE w i (4+(i+1) % 4) (8+(i+2) % 4) (12+(i+3) % 4)) w
def qc(w:List UInt32):List UInt32:=nq (oA w 4) 4
def jr(w:List UInt32)(n:Nat):List UInt32:=(List.range n).foldl (λw _=>qc w) w
def zu:List UInt32:=[0x61707865,0x3320646e,0x79622d32,0x6b206574,0,0,0,0,0,0,0,0,0,0,0,0]
def ly(k:List UInt8)(n:Nat):List UInt32:=(List.range n).foldl (λw i=>w.set (4+i) (nh (k.drop (4*i)))) zu
def lY(w:List UInt32)(nonce:List UInt8)(n:Nat):List UInt32:=(List.range n).foldl (λw i=>w.set (13+i) (nh (nonce.drop (4*i)))) w
def lx(k nonce:List UInt8)(counter:UInt32):List UInt32:=lY ((ly k 8).set 12 counter) nonce 3
def xo(was w:List UInt32)(n:Nat):List UInt8:=(List.range n).flatMap λi=>gE (w.getD i 0+was.getD i 0)
def lz(k nonce:List UInt8)(counter:UInt32):List UInt8:=xo (lx k nonce counter) (jr (lx k nonce counter) 10) 16
def jL(k nonce:List UInt8):Nat->UInt32->List UInt8->List UInt8
 | 0, _, _ => []
 | n + 1, c, b => nI (b.take 64) (lz k nonce c) ++ jL k nonce n (c + 1) (b.drop 64)
def nr(k nonce:List UInt8)(c:UInt32)(b:List UInt8):List UInt8:=jL k nonce ((b.length+63) / 64) c b
theorem mj(w:List UInt32)(a b c d:Nat):(iE w a b c d).length=w.length:=by simp[iE]
theorem wM(w:List UInt32)(n:Nat):oA w (n+1)=iE (oA w n) n (n+4) (n+8) (n+12):=by
 unfold oA;rw[iA,l6];rfl
theorem tZ(w:List UInt32)(n:Nat):nq w (n+1)=iE (nq w n) n (4+(n+1) % 4) (8+(n+2) % 4) (12+(n+3) % 4):=by
 unfold nq;rw[iA,l6];rfl
theorem rB(w:List UInt32)(n:Nat):jr w (n+1)=qc (jr w n):=by
 unfold jr;rw[iA,l6,pS,List.foldl_nil]
theorem tW(k:List UInt8)(n:Nat):ly k (n+1)=(ly k n).set (4+n) (nh (k.drop (4*n))):=by
 unfold ly;rw[iA,l6];rfl
theorem tV(w:List UInt32)(k:List UInt8)(n:Nat):lY w k (n+1)=(lY w k n).set (13+n) (nh (k.drop (4*n))):=by
 unfold lY;rw[iA,l6];rfl
theorem Dc(w:List UInt32):oA w 0=w:=rfl
theorem Bq(w:List UInt32):nq w 0=w:=rfl
theorem zI(w:List UInt32):jr w 0=w:=rfl
theorem Bd(k:List UInt8):ly k 0=zu:=rfl
theorem Bc(w:List UInt32)(k:List UInt8):lY w k 0=w:=rfl
theorem sj(w:List UInt32)(n:Nat):(oA w n).length=w.length:=by
 induction n with
 | zero => rfl
 | succ n ih => rw [wM, mj, ih]
theorem pN(w:List UInt32)(n:Nat):(nq w n).length=w.length:=by
 induction n with
 | zero => rfl
 | succ n ih => rw [tZ, mj, ih]
theorem Cu(w:List UInt32):qc w=nq (oA w 4) 4:=rfl
theorem xk(w:List UInt32):(qc w).length=w.length:=by rw[qc,pN,sj]
theorem vL(w:List UInt32)(n:Nat):(jr w n).length=w.length:=by
 induction n with
 | zero => rfl
 | succ n ih => rw [rB, xk, ih]
theorem pM(k:List UInt8)(n:Nat):(ly k n).length=16:=by
 induction n with
 | zero => rfl
 | succ n ih => rw [tW, gR, ih]
theorem pL(w:List UInt32)(k:List UInt8)(n:Nat):(lY w k n).length=w.length:=by
 induction n with
 | zero => rfl
 | succ n ih => rw [tV, gR, ih]
theorem D6(k nonce:List UInt8)(counter:UInt32):lx k nonce counter=lY ((ly k 8).set 12 counter) nonce 3:=rfl
theorem xv(k nonce:List UInt8)(c:UInt32):(lx k nonce c).length=16:=by rw[lx,pL,gR,pM]
theorem yf(was w:List UInt32)(n:Nat):xo was w (n+1)=xo was w n++gE (w.getD n 0+was.getD n 0):=by
 unfold xo;rw[iA,nO];simp
theorem Fe(was w:List UInt32):xo was w 0=[]:=rfl
theorem tL(was w:List UInt32)(n:Nat):(xo was w n).length=4*n:=by
 induction n with
 | zero => rfl
 | succ n ih => rw [yf, aF, ih]; simp [gE]; omega
theorem De(k nonce:List UInt8)(c:UInt32):lz k nonce c=xo (lx k nonce c) (jr (lx k nonce c) 10) 16:=rfl
theorem et(k nonce:List UInt8)(c:UInt32):(lz k nonce c).length=64:=tL _ _ _
theorem xy(k nonce:List UInt8)(n:Nat)(c:UInt32)(b:List UInt8)(h:b.length<=64*n):(jL k nonce n c b).length=b.length:=by
 induction n generalizing c b with
 | zero =>
  have:b=[]:=kj (by omega)
  subst this;rfl
 | succ n ih =>
  rw[jL,aF,ih _ _ (by rw[bE];omega),lF,et,bz,bE];omega
theorem pO(k nonce:List UInt8)(c:UInt32)(b:List UInt8):(nr k nonce c b).length=b.length:=xy _ _ _ _ _ (by omega)
theorem kf(k nonce:List UInt8)(n:Nat)(c:UInt32)(b:List UInt8):jL k nonce (n+1) c b=nI (b.take 64) (lz k nonce c)++jL k nonce n (c+1) (b.drop 64):=rfl
theorem Bx(k nonce:List UInt8)(c:UInt32)(b:List UInt8):jL k nonce 0 c b=[]:=rfl
theorem qy(k nonce:List UInt8)(c:UInt32)(b:List UInt8):nr k nonce c b=jL k nonce ((b.length+63) / 64) c b:=rfl
theorem xz(k nonce:List UInt8)(n:Nat)(c:UInt32)(b:List UInt8)(h:b.length<=64*n):jL k nonce n c (jL k nonce n c b)=b:=by
 induction n generalizing c b with
 | zero =>
  have:b=[]:=kj (by omega)
  subst this;rfl
 | succ n ih =>
  rw[kf k nonce n c b];have hx:(nI (b.take 64) (lz k nonce c)).length=min 64 b.length:=by rw[lF,et,bz];omega
  by_cases h64:64<=b.length
  ·rw[kf,cP (by omega),ej (by omega),ih _ _ (by rw[bE];omega),xL _ _ (by rw[bz,et];omega),eZ]
  ·have hd:b.drop 64=[]:=gj (by omega);have hn:∀n c,jL k nonce n c []=[]:=by
    intro n
    induction n with
    | zero => intro c; rfl
    | succ n ih => intro c; rw [kf]; simp [ih, nI]
   rw[hd,hn,cE,kf,cd (by omega),gj (by omega),hn,cE,cd (by omega),xL _ _ (by rw[et];omega)]
theorem xA(k nonce:List UInt8)(c:UInt32)(b:List UInt8):nr k nonce c (nr k nonce c b)=b:=by
 rw[qy,pO,qy];exact xz _ _ _ _ _ (by omega)
theorem zK(a b c d:UInt32):fD a b c d =
 (let a:=a+b
 let d:=zJ (d ^^^ a) 16
 let c:=c+d
 let b:=zJ (b ^^^ c) 12
 let a:=a+b
 let d:=zJ (d ^^^ a) 8
 let c:=c+d
 let b:=zJ (b ^^^ c) 7
 (a,b,c,d)):=rfl
theorem xl(w:List UInt32)(a b c d:Nat):iE w a b c d =
 (((w.set a (fD (w.getD a 0) (w.getD b 0) (w.getD c 0) (w.getD d 0)).1).set b (fD (w.getD a 0) (w.getD b 0) (w.getD c 0) (w.getD d 0)).2.1).set c (fD (w.getD a 0) (w.getD b 0) (w.getD c 0) (w.getD d 0)).2.2.1).set d (fD (w.getD a 0) (w.getD b 0) (w.getD c 0) (w.getD d 0)).2.2.2:=rfl
attribute [irreducible] fD iE oA nq qc jr ly lY lx xo lz jL nr
def EO:List UInt8:=[109,97,99]
def tEnc:List UInt8:=[101,110,99]
def tWrap:List UInt8:=[119,114,97,112]
def db(page gen:Nat):List UInt8:=be 4 page++be 8 gen
def xe(k nonce aad cipher:List UInt8):List UInt8:=(qn (bm k EO 0) (be 8 aad.length++aad++nonce++cipher)).take 16
def gH(k nonce b:List UInt8):List UInt8:=nr (bm k tEnc 0) nonce 1 b
def gd(k nonce aad plain:List UInt8):List UInt8:=gH k nonce plain++xe k nonce aad (gH k nonce plain)
def r8(kek:List UInt8)(slot gen:Nat)(key:List UInt8):List UInt8:=gd kek (db slot gen) tWrap key
def pK(k nonce aad b:List UInt8):Prop:=b.drop (b.length-16)=xe k nonce aad (b.take (b.length-16))
instance (k nonce aad b:List UInt8):Decidable (pK k nonce aad b):=inferInstanceAs (Decidable (_=_))
theorem lV(p g:Nat):(db p g).length=12:=by simp[db,aP]
theorem lL(k nonce aad c:List UInt8):(xe k nonce aad c).length=16:=by simp[xe,ea]
theorem gQ(k nonce b:List UInt8):(gH k nonce b).length=b.length:=pO _ _ _ _
theorem xB(k nonce b:List UInt8):gH k nonce (gH k nonce b)=b:=xA _ _ _ _
theorem iD(k nonce aad b:List UInt8):(gd k nonce aad b).length=b.length+16:=by simp[gd,gQ,lL]
theorem iC(k:List UInt8)(s g:Nat)(key:List UInt8)(h:key.length=32):(r8 k s g key).length=48:=by rw[r8,iD,h]
theorem GL(k nonce aad c:List UInt8):xe k nonce aad c=(qn (bm k EO 0) (be 8 aad.length++aad++nonce++c)).take 16:=rfl
theorem Da(k nonce b:List UInt8):gH k nonce b=nr (bm k tEnc 0) nonce 1 b:=rfl
theorem sK(k nonce aad plain:List UInt8):gd k nonce aad plain=gH k nonce plain++xe k nonce aad (gH k nonce plain):=rfl
theorem CM(page gen:Nat):db page gen=be 4 page++be 8 gen:=rfl
theorem EX(k nonce aad p:List UInt8):pK k nonce aad (gd k nonce aad p):=by
 have h:(gd k nonce aad p).length-16=(gH k nonce p).length:=by rw[iD,gQ];omega
 unfold pK;rw[h,sK,ej,cP] <;> rfl
theorem Cr(k nonce aad p:List UInt8):gH k nonce ((gd k nonce aad p).take ((gd k nonce aad p).length-16))=p:=by
 have h:(gd k nonce aad p).length-16=(gH k nonce p).length:=by rw[iD,gQ];omega
 rw[h,sK,cP,xB];rfl
attribute [irreducible] db xe gH gd
theorem HB{α:Type}(f:α->α)(l:List α)(i:Nat)(d:α)(h:i<l.length):((l.take i).map f++l.drop i).set i (f (l.getD i d))=(l.take (i+1)).map f++l.drop (i+1):=by
 have h1:((l.take i).map f).length=i:=by simp;omega
 rw[List.set_append_right _ _ (by omega),h1,Nat.sub_self,jE h,List.set_cons_zero,List.take_succ_eq_append_getElem h,gi]
 have:l.getD i d=l[i]:=by rw[eI,bM h];rfl
 rw[this];simp
theorem map_at{α:Type}(f:α->α)(l:List α)(i:Nat)(d:α)(h:i<l.length):((l.take i).map f++l.drop i)[i]?=some (l.getD i d):=by
 have h1:((l.take i).map f).length=i:=by simp;omega
 rw[fY (by omega),h1,Nat.sub_self,kZ,qN,bM h];rw[eI,bM h];rfl
end Go.Sac
