/- Part 8 of rules for walks through the code of a program, and of such walks; what each part proves is said by its theorems. -/
import Derived.Test.YtijnechfhdlgiaaGreatDoorS7
set_option linter.unusedVariables false
set_option linter.unusedSimpArgs false
namespace Go.Ev
structure iH(H:az)(X:Nat→Prop)(H':az)(X':Nat→Prop):Prop where
 next:H.next≤H'.next
 same:∀f,f<H.next→¬X f→¬X' f∧H'.t.get f=H.t.get f
section
variable{H H':az}{X X':Nat→Prop}
mutual
theorem cN.lift(z:iH H X H' X'):∀{d:DC}{a:an},cN H X d a→cN H' X' d a
 |.i _ _,_,h=>h
 |.b _,_,h=>h
 |.s _ _,_,h=>h
 |.nil,_,h=>h
 |.sl rows,a,h=>by
  simp only[cN] at h⊢
  obtain⟨f,g,off,es,I,h2⟩:=h
  exact⟨f,g,off,es,I,h2.imp id fun⟨G,A,q,ho,J⟩=>⟨(z.same f A G).1,mI A z.next,q,ho,fv.lift z G A J⟩⟩
theorem fv.lift(z:iH H X H' X'){f g es:Nat}(A:¬X f)(G:f<H.next):∀{q:Nat}{rows:List (List DC)},fv H X f g es q rows→fv H' X' f g es q rows
 |_,[],_=>trivial
 |q,row::r,h=>by
  simp only[fv] at h⊢
  obtain⟨⟨l,I,h2,J⟩,K⟩:=h
  exact⟨⟨l,I.iU (z.same f G A).2,h2,cY.lift z J⟩,fv.lift z A G K⟩
theorem cY.lift(z:iH H X H' X'):∀{row:List DC}{l:List an},cY H X row l→cY H' X' row l
 |[],_,h=>h
 |d::r,l,h=>by
  simp only[cY] at h⊢
  obtain⟨a,s,A,h2,G⟩:=h
  exact⟨a,s,A,cN.lift z h2,cY.lift z G⟩
end
end
inductive VV where
 |d (x:DC)
 |agg (l:List VV)
 |tuple (l:List VV)
 |vp (b off:Nat)
 |bp (b g q off es:Nat)
 |rp (row:List DC) (off:Nat)
 |bs (b n es:Nat)
 |ac (b n es:Nat)
 |fn (f:Nat) (eJ:List VV)
 |k (a:an)
 |jB
 |undef
inductive BS where
 |one (elem aP:Nat) (row:List VV)
 |arr (elem aP es lo:Nat) (rows:List (List DC))
 |acc (elem aP es:Nat) (rows:List (List DC))
def BS.born:BS→Prop
 |.acc _ _ _ rows=>rows≠[]
 |_=>True
abbrev b0:=List (Nat×VV)
abbrev bo:=List (Nat×BS)
def aY{α:Type}:List (Nat×α)→Nat→Option α
 |[],_=>none
 |(i,v)::r,k=>bif Nat.beq i k then some v else aY r k
theorem eu{α:Type}(i:Nat)(v:α)(r:List (Nat×α))(k:Nat):aY ((i,v)::r) k=if i=k then some v else aY r k:=by
 show(bif Nat.beq i k then some v else aY r k)=_
 by_cases h:i=k
 ·rw[aw h,h,show Nat.beq k k=true from iR k];rfl
 rw[aj h]
 cases z:Nat.beq i k
 ·rfl
 exact absurd (eb z) h
def ia{α:Type}:List (Nat×α)→Nat→List (Nat×α)
 |[],_=>[]
 |(i,v)::r,k=>bif Nat.beq i k then ia r k else(i,v)::ia r k
theorem vJ{α:Type}(b k:Nat):∀l:List (Nat×α),aY (ia l b) k=if b=k then none else aY l k
 |[]=>by by_cases h:b=k<;>simp[ia,aY,h]
 |(i,v)::r=>by
  rw[eu]
  show aY (bif Nat.beq i b then ia r b else(i,v)::ia r b) k=_
  by_cases h:i=b
  ·subst h
   rw[show Nat.beq i i=true from iR i]
   show aY (ia r i) k=_
   rw[vJ i k r]
   by_cases hk:i=k
   ·simp[hk]
   simp[hk]
  have z:Nat.beq i b=false:=by
   cases z:Nat.beq i b
   ·rfl
   exact absurd (eb z) h
  rw[z]
  show aY ((i,v)::ia r b) k=_
  rw[eu,vJ b k r]
  by_cases hk:i=k
  ·subst hk;rw[aw rfl,aj (fun e=>h e.symm),aw rfl]
  rw[aj hk,aj hk]
mutual
def aM(H:az)(X:Nat→Prop)(β:Nat→Nat):VV→an→Prop
 |.d x,a=>cN H X x a
 |.agg l,a=>∃cs,a= .agg cs∧bm H X β l cs
 |.tuple l,a=>∃cs,a= .tuple cs∧bm H X β l cs
 |.vp b off,a=>a= .ptr (β b) 1 off
 |.bp b g q off es,a=>a= .ptr (β b) g (q*es+off)
 |.rp row off,a=>∃f g Q l,a= .ptr f g (Q*l.length+off)∧mB H f g Q l∧cY H X row l∧¬X f∧f<H.next
 |.bs b n es,a=>a= .slice (β b) n 0 n es
 |.ac b n es,a=>(n=0∧a= .cg)∨(0<n∧a= .slice (β b) n 0 n es)
 |.fn f eJ,a=>∃cs,a= .func f [] cs∧bm H X β eJ cs
 |.k x,a=>a=x
 |.jB,a=>∃t x,a= .iface t x
 |.undef,_=>True
def bm(H:az)(X:Nat→Prop)(β:Nat→Nat):List VV→List an→Prop
 |[],l=>l=[]
 |v::r,l=>∃a s,l=a::s∧aM H X β v a∧bm H X β r s
end
mutual
def VV.nb:VV→Prop
 |.d _=>True
 |.agg l=>mu l
 |.tuple l=>mu l
 |.vp _ _=>False
 |.bp _ _ _ _ _=>False
 |.rp _ _=>True
 |.bs _ _ _=>False
 |.ac _ _ _=>False
 |.fn _ eJ=>mu eJ
 |.k _=>True
 |.jB=>True
 |.undef=>True
def mu:List VV→Prop
 |[]=>True
 |v::r=>v.nb∧mu r
end
mutual
def VV.no(b:Nat):VV→Bool
 |.d _=>true
 |.agg l=>pw b l
 |.tuple l=>pw b l
 |.vp c _=>!Nat.beq c b
 |.bp c _ _ _ _=>!Nat.beq c b
 |.rp _ _=>true
 |.bs c _ _=>!Nat.beq c b
 |.ac c _ _=>!Nat.beq c b
 |.fn _ eJ=>pw b eJ
 |.k _=>true
 |.jB=>true
 |.undef=>true
def pw(b:Nat):List VV→Bool
 |[]=>true
 |v::r=>v.no b&&pw b r
end
def BS.no(b:Nat):BS→Bool
 |.one _ _ row=>pw b row
 |.arr _ _ _ _ _=>true
 |.acc _ _ _ _=>true
def oi(b:Nat):b0→Bool
 |[]=>true
 |(_,v)::r=>v.no b&&oi b r
def lX(b:Nat):Bool:=Nat.ble 1000 b&&Nat.ble b 1049
def oj(b:Nat):bo→Bool
 |[]=>!lX b
 |(c,s)::r=>!Nat.beq c b&&s.no b&&oj b r
section
variable{H H':az}{X X':Nat→Prop}{β β':Nat→Nat}
theorem o0{c b:Nat}(h:(!Nat.beq c b)=true):c≠b:=by
 rintro rfl
 rw[show Nat.beq c c=true from iR c] at h
 cases h
mutual
theorem aM.lift(z:iH H X H' X'):∀{v:VV}{a:an},aM H X β v a→aM H' X' β v a
 |.d x,_,h=>by simp only[aM] at h⊢;exact cN.lift z h
 |.agg l,_,h=>by
  simp only[aM] at h⊢
  obtain⟨cs,e,h⟩:=h
  exact⟨cs,e,bm.lift z h⟩
 |.tuple l,_,h=>by
  simp only[aM] at h⊢
  obtain⟨cs,e,h⟩:=h
  exact⟨cs,e,bm.lift z h⟩
 |.vp b off,_,h=>by simp only[aM] at h⊢;exact h
 |.bp b g q off es,_,h=>by simp only[aM] at h⊢;exact h
 |.rp row off,_,h=>by
  simp only[aM] at h⊢
  obtain⟨f,g,Q,l,e,I,h2,G,A⟩:=h
  exact⟨f,g,Q,l,e,I.iU (z.same f A G).2,cY.lift z h2,(z.same f A G).1,mI A z.next⟩
 |.bs b n es,_,h=>by simp only[aM] at h⊢;exact h
 |.ac b n es,_,h=>by simp only[aM] at h⊢;exact h
 |.fn f eJ,_,h=>by
  simp only[aM] at h⊢
  obtain⟨cs,e,h⟩:=h
  exact⟨cs,e,bm.lift z h⟩
 |.k x,_,h=>by simp only[aM] at h⊢;exact h
 |.jB,_,h=>by simp only[aM] at h⊢;exact h
 |.undef,_,_=>by simp only[aM]
theorem bm.lift(z:iH H X H' X'):∀{l:List VV}{s:List an},bm H X β l s→bm H' X' β l s
 |[],_,h=>by simp only[bm] at h⊢;exact h
 |v::r,_,h=>by
  simp only[bm] at h⊢
  obtain⟨a,s,e,A,h2⟩:=h
  exact⟨a,s,e,aM.lift z A,bm.lift z h2⟩
end
mutual
theorem aM.nb:∀{v:VV}{a:an},v.nb→aM H X β v a→aM H X β' v a
 |.d x,_,_,h=>by simp only[aM] at h⊢;exact h
 |.agg l,_,n,h=>by
  simp only[aM,VV.nb] at h n⊢
  obtain⟨cs,e,h⟩:=h
  exact⟨cs,e,bm.nb n h⟩
 |.tuple l,_,n,h=>by
  simp only[aM,VV.nb] at h n⊢
  obtain⟨cs,e,h⟩:=h
  exact⟨cs,e,bm.nb n h⟩
 |.vp b off,_,n,_=>by simp only[VV.nb] at n
 |.bp b g q off es,_,n,_=>by simp only[VV.nb] at n
 |.rp row off,_,_,h=>by simp only[aM] at h⊢;exact h
 |.bs b m es,_,n,_=>by simp only[VV.nb] at n
 |.ac b m es,_,n,_=>by simp only[VV.nb] at n
 |.fn f eJ,_,n,h=>by
  simp only[aM,VV.nb] at h n⊢
  obtain⟨cs,e,h⟩:=h
  exact⟨cs,e,bm.nb n h⟩
 |.k x,_,_,h=>by simp only[aM] at h⊢;exact h
 |.jB,_,_,h=>by simp only[aM] at h⊢;exact h
 |.undef,_,_,_=>by simp only[aM]
theorem bm.nb:∀{l:List VV}{s:List an},mu l→bm H X β l s→bm H X β' l s
 |[],_,_,h=>by simp only[bm] at h⊢;exact h
 |v::r,_,n,h=>by
  simp only[bm,mu] at h n⊢
  obtain⟨a,s,e,z,h2⟩:=h
  exact⟨a,s,e,aM.nb n.1 z,bm.nb n.2 h2⟩
end
mutual
theorem aM.no{b f:Nat}:∀{v:VV}{a:an},v.no b=true→aM H X β v a→aM H X (fun c=>if c=b then f else β c) v a
 |.d x,_,_,h=>by simp only[aM] at h⊢;exact h
 |.agg l,_,n,h=>by
  simp only[aM,VV.no] at h n⊢
  obtain⟨cs,e,h⟩:=h
  exact⟨cs,e,bm.no n h⟩
 |.tuple l,_,n,h=>by
  simp only[aM,VV.no] at h n⊢
  obtain⟨cs,e,h⟩:=h
  exact⟨cs,e,bm.no n h⟩
 |.vp c off,_,n,h=>by simp only[aM,VV.no] at h n⊢;rw[aj (o0 n)];exact h
 |.bp c g q off es,_,n,h=>by simp only[aM,VV.no] at h n⊢;rw[aj (o0 n)];exact h
 |.rp row off,_,_,h=>by simp only[aM] at h⊢;exact h
 |.bs c m es,_,n,h=>by simp only[aM,VV.no] at h n⊢;rw[aj (o0 n)];exact h
 |.ac c m es,_,n,h=>by simp only[aM,VV.no] at h n⊢;rw[aj (o0 n)];exact h
 |.fn f eJ,_,n,h=>by
  simp only[aM,VV.no] at h n⊢
  obtain⟨cs,e,h⟩:=h
  exact⟨cs,e,bm.no n h⟩
 |.k x,_,_,h=>by simp only[aM] at h⊢;exact h
 |.jB,_,_,h=>by simp only[aM] at h⊢;exact h
 |.undef,_,_,_=>by simp only[aM]
theorem bm.no{b f:Nat}:∀{l:List VV}{s:List an},pw b l=true→bm H X β l s→bm H X (fun c=>if c=b then f else β c) l s
 |[],_,_,h=>by simp only[bm] at h⊢;exact h
 |v::r,_,n,h=>by
  simp only[bm,pw,fc] at h n⊢
  obtain⟨a,s,e,z,h2⟩:=h
  exact⟨a,s,e,aM.no n.1 z,bm.no n.2 h2⟩
end
theorem bm.length:∀{l:List VV}{s:List an},bm H X β l s→s.length=l.length
 |[],_,h=>by simp only[bm] at h;subst h;rfl
 |v::r,_,h=>by
  simp only[bm] at h
  obtain⟨a,s,rfl,_,h2⟩:=h
  simp[bm.length h2]
theorem bm.get:∀{l:List VV}{s:List an},bm H X β l s→∀{i:Nat}{v:VV},l[i]?=some v→∃a,s[i]?=some a∧aM H X β v a
 |[],_,_,i,v,hi=>by simp at hi
 |x::r,_,h,i,v,hi=>by
  simp only[bm] at h
  obtain⟨a,s,rfl,z,h2⟩:=h
  cases i with
  |zero=>simp at hi;subst hi;exact⟨a,rfl,z⟩
  |succ i=>simpa using bm.get h2 (i:=i) (v:=v) (by simpa using hi)
theorem bm.append:∀{l m:List VV}{s t:List an},bm H X β l s→bm H X β m t→bm H X β (l++m) (s++t)
 |[],_,_,_,h,k=>by simp only[bm] at h;subst h;exact k
 |x::r,_,_,_,h,k=>by
  simp only[bm] at h
  obtain⟨a,s,rfl,z,h2⟩:=h
  simp only[yV,bm]
  exact⟨a,_,rfl,z,bm.append h2 k⟩
theorem bm.drop:∀{l:List VV}{s:List an}(n:Nat),bm H X β l s→bm H X β (l.drop n) (s.drop n)
 |_,_,0,h=>h
 |[],_,n+1,h=>by simp only[bm] at h;subst h;simp[bm]
 |x::r,_,n+1,h=>by
  simp only[bm] at h
  obtain⟨a,s,rfl,_,h2⟩:=h
  simpa using bm.drop n h2
theorem bm.take:∀{l:List VV}{s:List an}(n:Nat),bm H X β l s→bm H X β (l.take n) (s.take n)
 |_,_,0,h=>by simp[bm]
 |[],_,n+1,h=>by simp only[bm] at h;subst h;simp[bm]
 |x::r,_,n+1,h=>by
  simp only[bm] at h
  obtain⟨a,s,rfl,z,h2⟩:=h
  simp only[wa,bm]
  exact⟨a,_,rfl,z,bm.take n h2⟩
theorem bm.tR:∀{row:List DC}{l:List an},cY H X row l→bm H X β (row.map .d) l
 |[],_,h=>by simp only[cY] at h;subst h;simp[bm]
 |d::r,_,h=>by
  simp only[cY] at h
  obtain⟨a,s,rfl,z,h2⟩:=h
  simp only[eF,bm,aM]
  exact⟨a,s,rfl,z,bm.tR h2⟩
theorem cY.zQ:∀{row:List DC}{l:List an},bm H X β (row.map .d) l→cY H X row l
 |[],_,h=>by simpa[bm,cY] using h
 |d::r,_,h=>by
  simp only[eF,bm,aM] at h
  obtain⟨a,s,rfl,z,h2⟩:=h
  simp only[cY]
  exact⟨a,s,rfl,z,cY.zQ h2⟩
end
def XB(X0:Nat→Prop)(B:bo)(β:Nat→Nat)(f:Nat):Prop:=X0 f∨∃b s,aY B b=some s∧s.born∧β b=f
def gU(H:az)(X:Nat→Prop)(β:Nat→Nat)(f:Nat):BS→Prop
 |.one elem aP row=>∃l lo cs,H.t.get f=some (.row elem l.length aP 1 lo 0 cs)∧lo≤1∧cs.get 0=some l∧bm H X β row l
 |.arr elem aP es lo rows=>∃z cs,H.t.get f=some (.row elem es aP rows.length z 0 cs)∧z≤lo∧lo≤rows.length∧∀q row,rows[q]?=some row→∃l,cs.get q=some l∧l.length=es∧cY H X row l
 |.acc elem aP es rows=>rows=[]∨∃lo cs,H.t.get f=some (.row elem es aP rows.length lo 0 cs)∧lo≤rows.length∧∀q row,rows[q]?=some row→∃l,cs.get q=some l∧l.length=es∧cY H X row l
theorem LN{b:Nat}:∀{B:bo},oj b B=true→lX b=false
 |[],h=>by simpa[oj] using h
 |(_,_)::r,h=>by
  simp only[oj,fc] at h
  exact LN h.2
structure Rel(H0:Nat→Nat)(X0:Nat→Prop)(VE:b0)(B:bo)(E:Env)(H:az)(β:Nat→Nat):Prop where
 om:∀b,lX b=true→β b=H0 b
 bc:H.bc≤H.next
 x0:∀f,X0 f→f<H.next
 new:∀b s,aY B b=some s→s.born→¬X0 (β b)∧β b<H.next
 inj:∀b c s t,aY B b=some s→aY B c=some t→s.born→t.born→β b=β c→b=c
 env:∀k v,aY VE (Key.n k)=some v→∃a,E.get k=some a∧aM H (XB X0 B β) β v a
 box:∀b s,aY B b=some s→gU H (XB X0 B β) β (β b) s
theorem gU.lift{H H':az}{X X':Nat→Prop}{β:Nat→Nat}(I:iH H X H' X'){f:Nat}(J:H'.t.get f=H.t.get f):∀{s:BS},gU H X β f s→gU H' X' β f s
 |.one _ _ _,h=>by
  obtain⟨l,lo,cs,A,h2,K,G⟩:=h
  exact⟨l,lo,cs,J.trans A,h2,K,bm.lift I G⟩
 |.arr _ _ _ _ _,h=>by
  obtain⟨z,cs,A,h2,K,G⟩:=h
  refine⟨z,cs,J.trans A,h2,K,fun q row O=>?_⟩
  obtain⟨l,U,Y,Z⟩:=G q row O
  exact⟨l,U,Y,cY.lift I Z⟩
 |.acc _ _ _ _,h=>by
  rcases h with h|⟨z,cs,A,h2,G⟩
  ·exact .inl h
  refine .inr ⟨z,cs,J.trans A,h2,fun q row O=>?_⟩
  obtain⟨l,U,Y,Z⟩:=G q row O
  exact⟨l,U,Y,cY.lift I Z⟩
theorem gU.VX{H:az}{X:Nat→Prop}{β:Nat→Nat}{f:Nat}:∀{s:BS},¬s.born→gU H X β f s
 |.one _ _ _,h=>absurd trivial h
 |.arr _ _ _ _ _,h=>absurd trivial h
 |.acc _ _ _ rows,h=>.inl (by
  cases rows with
  |nil=>rfl
  |cons x r=>exact absurd (fun e:x::r=[]=>by cases e) h)
theorem gU.wm{H H':az}{X X':Nat→Prop}{β:Nat→Nat}(A:iH H X H' X'){f:Nat}{s:BS}(G:s.born→H'.t.get f=H.t.get f)(h:gU H X β f s):gU H' X' β f s:=by
 by_cases z:s.born
 ·exact h.lift A (G z)
 exact .VX z
section
variable{T:bd}{H0:Nat→Nat}{X0:Nat→Prop}{VE:b0}{B:bo}{E:Env}{H:az}{β:Nat→Nat}
theorem Rel.grow(h:Rel H0 X0 VE B E H β){H':az}(A:H.next≤H'.next)(I:∀f,f<H.next→H'.t.get f=H.t.get f)(K:H'.bc≤H'.next):Rel H0 X0 VE B E H' β:=by
 have J:iH H (XB X0 B β) H' (XB X0 B β):=⟨A,fun f G O=>⟨O,I f G⟩⟩
 refine⟨h.om,K,fun f G=>mI (h.x0 f G) A,fun b s z ho=>⟨(h.new b s z ho).1,mI (h.new b s z ho).2 A⟩,h.inj,fun k v hk=>?_,fun b s z=>(h.box b s z).wm J fun ho=>I _ (h.new b s z ho).2⟩
 obtain⟨a,U,h2⟩:=h.env k v hk
 exact⟨a,U,h2.lift J⟩
theorem Rel.set(h:Rel H0 X0 VE B E H β){d:Key}{v:VV}{a:an}(z:aM H (XB X0 B β) β v a):Rel H0 X0 ((d.n,v)::VE) B (E.set d a) H β:=by
 refine{h with env:=fun k w hk=>?_}
 rw[eu] at hk
 rw[T4.eY]
 by_cases e:d.n=k.n
 ·rw[aw e] at hk
  cases hk
  exact⟨a,by rw[aw (Key.inj e).symm],z⟩
 rw[aj e] at hk
 rw[aj (fun A=>e (by rw[A]))]
 exact h.env k w hk
theorem Rel.less(h:Rel H0 X0 VE B E H β){ep:b0}(z:∀k v,aY ep k=some v→aY VE k=some v):Rel H0 X0 ep B E H β:=
 {h with env:=fun k v hk=>h.env k v (z _ v hk)}
theorem Rel.drop(h:Rel H0 X0 VE B E H β)(b:Nat):Rel H0 X0 VE (ia B b) E H β:=by
 have A:∀c s,aY (ia B b) c=some s→aY B c=some s∧b≠c:=fun c s z=>by
  rw[vJ] at z
  by_cases e:b=c
  ·rw[aw e] at z;cases z
  rw[aj e] at z;exact⟨z,e⟩
 have I:iH H (XB X0 B β) H (XB X0 (ia B b) β):=⟨bV _,fun f _ J=>⟨fun k=>J (k.imp id fun⟨c,s,G,h2⟩=>⟨c,s,(A c s G).1,h2⟩),rfl⟩⟩
 refine⟨h.om,h.bc,h.x0,fun c s z ho=>h.new c s (A c s z).1 ho,fun c e s t z he K O=>h.inj c e s t (A c s z).1 (A e t he).1 K O,fun k v hk=>?_,fun c s z=>(h.box c s (A c s z).1).lift I rfl⟩
 obtain⟨a,G,h2⟩:=h.env k v hk
 exact⟨a,G,h2.lift I⟩
theorem CL{b:Nat}:∀{VE:b0},oi b VE=true→∀{k:Nat}{v:VV},aY VE k=some v→v.no b=true
 |[],_,_,_,h=>by cases h
 |(i,w)::r,z,k,v,h=>by
  simp only[oi,fc] at z
  rw[eu] at h
  by_cases e:i=k
  ·rw[aw e] at h;cases h;exact z.1
  rw[aj e] at h;exact CL z.2 h
theorem Mt{b:Nat}:∀{B:bo},oj b B=true→∀{c:Nat}{s:BS},aY B c=some s→c≠b∧s.no b=true
 |[],_,_,_,h=>by cases h
 |(i,w)::r,z,c,s,h=>by
  simp only[oj,fc] at z
  rw[eu] at h
  by_cases e:i=c
  ·rw[aw e] at h;cases h;exact⟨e▸o0 z.1.1,z.1.2⟩
  rw[aj e] at h;exact Mt z.2 h
theorem Rel.VY(h:Rel H0 X0 VE B E H β){b:Nat}(hE:oi b VE=true)(hB:oj b B=true){H':az}(hn:H'.next=H.next+1)(hs:∀f,f<H.next→H'.t.get f=H.t.get f)(hm:H'.bc=H.bc){s:BS}
  (IS:∀X β',(∀v a,v.no b=true→aM H (XB X0 B β) β v a→aM H' X β' v a)→(∀row l,cY H (XB X0 B β) row l→cY H' X row l)→gU H' X β' H.next s):
  ∃β',(β' b=H.next∧∀c,c≠b→β' c=β c)∧Rel H0 X0 VE ((b,s)::B) E H' β'∧∀v a,v.no b=true→aM H (XB X0 B β) β v a→aM H' (XB X0 ((b,s)::B) β') β' v a:=by
 let β':Nat→Nat:=fun c=>if c=b then H.next else β c
 have I:β' b=H.next:=aw rfl
 have z:∀c,c≠b→β' c=β c:=fun c A=>aj A
 have hg:∀c t,aY ((b,s)::B) c=some t→(c=b∧t=s)∨(c≠b∧aY B c=some t∧t.no b=true):=fun c t A=>by
  rw[eu] at A
  by_cases e:b=c
  ·rw[aw e] at A;cases A;exact .inl ⟨e.symm,rfl⟩
  rw[aj e] at A
  exact .inr ⟨fun k=>e k.symm,A,(Mt hB A).2⟩
 have hl:iH H (XB X0 B β) H' (XB X0 ((b,s)::B) β'):=⟨by omega,fun f hf hx=>⟨fun k=>by
  rcases k with k|⟨c,t,h1,ho,h2⟩
  ·exact hx (.inl k)
  rcases hg c t h1 with⟨rfl,rfl⟩|⟨A,O,_⟩
  ·rw[I] at h2;omega
  exact hx (.inr ⟨c,t,O,ho,by rw[←h2,z c A]⟩),hs f hf⟩⟩
 have hv:∀v a,v.no b=true→aM H (XB X0 B β) β v a→aM H' (XB X0 ((b,s)::B) β') β' v a:=fun v a Z hr=>(aM.no Z hr).lift hl
 have A:∀row l,cY H (XB X0 B β) row l→cY H' (XB X0 ((b,s)::B) β') row l:=fun row l hr=>hr.lift hl
 refine⟨β',⟨I,z⟩,⟨(fun c A=>(z c fun e=>by rw[e,LN hB] at A;cases A).trans (h.om c A)),by have:=h.bc;omega,(fun f hf=>by have:=h.x0 f hf;omega),fun c t K U=>?_,fun c e t u K Js U BE Y=>?_,fun k v hk=>?_,fun c t K=>?_⟩,hv⟩
 ·rcases hg c t K with⟨rfl,rfl⟩|⟨J,O,_⟩
  ·rw[I];exact⟨(fun hx=>by have:=h.x0 _ hx;omega),by omega⟩
  rw[z c J];have:=h.new c t O U;exact⟨this.1,by omega⟩
 ·rcases hg c t K with⟨rfl,rfl⟩|⟨J,O,_⟩<;>rcases hg e u Js with⟨rfl,rfl⟩|⟨BF,h4,_⟩
  ·rfl
  ·rw[I,z e BF] at Y;have:=h.new e u h4 BE;omega
  ·rw[I,z c J] at Y;have:=h.new c t O U;omega
  rw[z c J,z e BF] at Y;exact h.inj c e t u O h4 U BE Y
 ·obtain⟨a,h1,h2⟩:=h.env k v hk
  exact⟨a,h1,hv v a (CL hE hk) h2⟩
 rcases hg c t K with⟨rfl,rfl⟩|⟨J,O,Z⟩
 ·rw[I];exact IS _ _ hv A
 rw[z c J]
 have ho:=h.box c t O
 have G:t.born→H'.t.get (β c)=H.t.get (β c):=fun ho=>hs _ (h.new c t O ho).2
 cases t with
 |one elem aP row=>
  obtain⟨l,lo,cs,k1,k2,k3,k4⟩:=ho
  exact⟨l,lo,cs,(G trivial).trans k1,k2,k3,(bm.no Z k4).lift hl⟩
 |arr elem aP es lo rows=>exact gU.wm (X:=XB X0 B β) (β:=β') hl G ho
 |acc elem aP es rows=>exact gU.wm (X:=XB X0 B β) (β:=β') hl G ho
end
section
variable{T:bd}
theorem iV.mono{op:bG}{E:Env}{H:az}{Q z:an→az→Prop}(h:iV T op E H Q)(k:∀v H',Q v H'→z v H'):iV T op E H z:=
 let⟨N,v,H',a,b⟩:=h;⟨N,v,H',a,k _ _ b⟩
theorem oh.mono{ops:List bt}{E:Env}{H:az}{Q z:Env→az→Prop}(h:oh T ops E H Q)(k:∀v H',Q v H'→z v H'):oh T ops E H z:=
 let⟨N,v,H',a,b⟩:=h;⟨N,v,H',a,k _ _ b⟩
theorem BD.mono{ops:List bt}{E:Env}{H:az}{r:List FP}{Q z:Env→az→Prop}(h:BD T ops E H r Q)(k:∀v H',Q v H'→z v H'):BD T ops E H r z:=
 let⟨N,v,H',a,b⟩:=h;⟨N,v,H',a,k _ _ b⟩
structure iM(B:bo)(β:Nat→Nat)(H:az)(W:Nat→Prop)(B':bo)(β':Nat→Nat)(H':az):Prop where
 bc:H'.bc=H.bc
 next:H.next≤H'.next
 ws:∀f,f∈H'.ws→f∈H.ws∨(f<H.bc∧∃b s,W b∧aY B b=some s∧s.born∧β b=f)
 since:∀b s,aY B' b=some s→s.born→(∃t,aY B b=some t∧t.born∧β' b=β b)∨H.next≤β' b
 rU:∀f,f<H.next→(∀b s,aY B b=some s→s.born→β b≠f)→H'.t.get f=H.t.get f
theorem iM.refl{B:bo}{β:Nat→Nat}{H:az}{W:Nat→Prop}:iM B β H W B β H:=
 ⟨rfl,bV _,fun _ h=>.inl h,fun _ s z h2=>.inl ⟨s,z,h2,rfl⟩,fun _ _ _=>rfl⟩
theorem iM.dE{B B':bo}{β β':Nat→Nat}{H H':az}{W z:Nat→Prop}(h:iM B β H W B' β' H')(k:∀b,W b→z b):iM B β H z B' β' H':=
 ⟨h.bc,h.next,fun f A=>(h.ws f A).imp id fun⟨a,b,s,c,d⟩=>⟨a,b,s,k b c,d⟩,h.since,h.rU⟩
theorem iM.more{B J B':bo}{β β':Nat→Nat}{H H':az}{W:Nat→Prop}(h:iM J β H W B' β' H')(k:∀b s,aY J b=some s→s.born→∃t,aY B b=some t∧t.born):iM B β H W B' β' H':=
 ⟨h.bc,h.next,fun f G=>(h.ws f G).imp id fun⟨a,b,s,c,d,e,g⟩=>by obtain⟨t,z,A⟩:=k b s d e;exact⟨a,b,t,c,z,A,g⟩,
  fun b s I h2=>(h.since b s I h2).imp (fun⟨t,a,c,d⟩=>by obtain⟨u,z,A⟩:=k b t a c;exact⟨u,z,A,d⟩) id,
  fun f G K=>h.rU f G fun b s I h2=>by obtain⟨t,z,A⟩:=k b s I h2;exact K b t z A⟩
theorem iM.Ik{B z B':bo}{β β':Nat→Nat}{H H':az}{W:Nat→Prop}(h:iM B β H W z β' H')(k:∀b s,aY B' b=some s→s.born→∃t,aY z b=some t∧t.born):iM B β H W B' β' H':=
 ⟨h.bc,h.next,h.ws,fun b s A h2=>by obtain⟨t,G,I⟩:=k b s A h2;exact h.since b t G I,h.rU⟩
theorem iM.trans{B J K:bo}{β A G:Nat→Nat}{H H1 O:az}{W Z:Nat→Prop}(h:iM B β H W J A H1)(k:iM J A H1 Z K G O)(hm:H.bc≤H.next):iM B β H (fun _=>True) K G O:=by
 refine⟨k.bc.trans h.bc,j7 h.next k.next,fun f z=>?_,fun b s I h2=>?_,fun f z U=>?_⟩
 ·rcases k.ws f z with z|⟨a,b,s,_,c,d,e⟩
  ·rcases h.ws f z with z|⟨a,b,s,_,c,d,e⟩
   ·exact .inl z
   exact .inr ⟨a,b,s,trivial,c,d,e⟩
  rw[h.bc] at a
  rcases h.since b s c d with⟨t,Y,k2,k3⟩|Y
  ·exact .inr ⟨a,b,t,trivial,Y,k2,by rw[←k3,e]⟩
  omega
 ·rcases k.since b s I h2 with⟨t,a,c,d⟩|a
  ·rcases h.since b t a c with⟨u,a',c',d'⟩|a'
   ·exact .inl ⟨u,a',c',d.trans d'⟩
   exact .inr (by rw[d];exact a')
  exact .inr (j7 h.next a)
 rw[k.rU f (mI z h.next) fun b s I h2 he=>?_,h.rU f z U]
 rcases h.since b s I h2 with⟨t,a,c,d⟩|a
 ·exact U b t a c (by rw[←d];exact he)
 omega
def yl(H0:Nat→Nat)(X0:Nat→Prop)(VE:b0)(B:bo)(β:Nat→Nat)(E:Env)(H:az)(W:List Nat)(Q:VV→bo→Prop)(a:an)(H':az):Prop:=
 ∃v B' β',iM B β H (· ∈W) B' β' H'∧Rel H0 X0 VE B' E H' β'∧aM H' (XB X0 B' β') β' v a∧Q v B'
def VI(T:bd)(op:bG)(VE:b0)(B:bo)(W:List Nat)(Q:VV→bo→Prop):Prop:=
 ∀H0 X0 E H β,Rel H0 X0 VE B E H β→iV T op E H (yl H0 X0 VE B β E H W Q)
def sH(H0:Nat→Nat)(X0:Nat→Prop)(B:bo)(β:Nat→Nat)(H:az)(Q:b0→bo→Prop)(E':Env)(H':az):Prop:=
 ∃ep B' β',iM B β H (fun _=>True) B' β' H'∧Rel H0 X0 ep B' E' H' β'∧Q ep B'
def VO(T:bd)(ops:List bt)(VE:b0)(B:bo)(Q:b0→bo→Prop):Prop:=
 ∀H0 X0 E H β,Rel H0 X0 VE B E H β→oh T ops E H (sH H0 X0 B β H Q)
inductive FL where
 |rd (R:List Nat)
 |qt
 |un
def u6(n:Nat)(B:bo)(β:Nat→Nat):FL→FP→Prop
 |.rd R,r=>r.ws=[]∧r.lo=r.hi∧∃l,r.rd=some l∧∀f,f∈l→f<n∧∀b s,aY B b=some s→s.born→β b=f→b∈R
 |.qt,r=>r.ws=[]
 |.un,_=>True
def vm(n:Nat)(B:bo)(β:Nat→Nat)(fl:List FL)(bR:List FP):Prop:=
 bR.length=fl.length∧∀(i:Nat)x r,fl[i]?=some x→bR[i]?=some r→u6 n B β x r
theorem u6.step{B B':bo}{β β':Nat→Nat}{H H':az}{W:Nat→Prop}(G:iM B β H W B' β' H'):∀{x:FL}{r:FP},u6 H.next B β x r→u6 H'.next B' β' x r
 |.rd R,r,⟨I,h2,l,J,z⟩=>⟨I,h2,l,J,fun f A=>⟨mI (z f A).1 G.next,fun b s K O U=>by
  rcases G.since b s K O with⟨t,a,c,d⟩|a
  ·exact(z f A).2 b t a c (by rw[←d];exact U)
  have:=(z f A).1;omega⟩⟩
 |.qt,r,h=>h
 |.un,r,_=>trivial
theorem vm.step{B B':bo}{β β':Nat→Nat}{H H':az}{W:Nat→Prop}{fl:List FL}{bR:List FP}(z:iM B β H W B' β' H')(h:vm H.next B β fl bR):vm H'.next B' β' fl bR:=
 ⟨h.1,fun i x r A h2=>(h.2 i x r A h2).step z⟩
theorem vm.cons{n:Nat}{B:bo}{β:Nat→Nat}{fl:List FL}{bR:List FP}{x:FL}{r:FP}(h:vm n B β fl bR)(k:u6 n B β x r):vm n B β (x::fl) (r::bR):=
 ⟨by simp[h.1],fun i y z A h2=>by
  cases i with
  |zero=>simp at A h2;subst A;subst h2;exact k
  |succ i=>exact h.2 i y z (by simpa using A) (by simpa using h2)⟩
def VQ(T:bd)(ops:List bt)(VE:b0)(B:bo)(fl:List FL)(Q:b0→bo→Prop):Prop:=
 ∀H0 X0 E H β,Rel H0 X0 VE B E H β→∀bR:List FP,vm H.next B β fl bR→BD T ops E H bR (sH H0 X0 B β H Q)
def VC(T:bd)(c:IC)(VE:b0)(B:bo)(Q:Ex→b0→bo→Prop):Prop:=
 ∀H0 X0 E H β,Rel H0 X0 VE B E H β→lL T c E H fun x=>sH H0 X0 B β H (Q x)
variable{VE ep:b0}{B B':bo}
theorem sH.of{H0:Nat→Nat}{X0:Nat→Prop}{H H1:az}{A:bo}{β z:Nat→Nat}{W:Nat→Prop}{Q:b0→bo→Prop}{E':Env}{H':az}(h:sH H0 X0 A z H1 Q E' H')(G:iM B β H W A z H1)(I:H.bc≤H.next):sH H0 X0 B β H Q E' H':=by
 obtain⟨ep,B',β',J,h2,K⟩:=h
 exact⟨ep,B',β',G.trans J I,h2,K⟩
variable{Q:b0→bo→Prop}{W:List Nat}
theorem af(h:Q VE B):VO T [] VE B Q:=fun _ _ _ _ β z=>Uy ⟨VE,B,β,.refl,z,h⟩
theorem ak{d:Key}{G:Option (List Nat)}{op:bG}{r:List bt}(h:VI T op VE B W fun v B'=>VO T r ((d.n,v)::VE) B' Q):VO T (⟨some d,none,G,op⟩::r) VE B Q:=by
 intro H0 X0 E H β A
 refine LL ((h H0 X0 E H β A).mono fun a H' hp=>?_)
 obtain⟨v,B',β',I,z,J,K⟩:=hp
 exact(K H0 X0 _ H' β' (z.set J)).mono fun _ _ hp=>hp.of I A.bc
theorem Nt{G:Option (List Nat)}{op:bG}{r:List bt}(h:VI T op VE B W fun _ B'=>VO T r VE B' Q):VO T (⟨none,none,G,op⟩::r) VE B Q:=by
 intro H0 X0 E H β A
 refine SJ ((h H0 X0 E H β A).mono fun a H' hp=>?_)
 obtain⟨v,B',β',I,z,K,J⟩:=hp
 exact(J H0 X0 _ H' β' z).mono fun _ _ hp=>hp.of I A.bc
theorem Rel.bool{H0:Nat→Nat}{X0:Nat→Prop}{E:Env}{H:az}{β:Nat→Nat}(z:Rel H0 X0 VE B E H β){g:Key}{t:Bool}(A:aY VE g.n=some (.d (.b t))):E.get g=some (.bool t):=by
 obtain⟨a,G,h2⟩:=z.env g _ A
 simp only[aM,cN] at h2
 rw[G,h2]
theorem en{d g:Key}{want t:Bool}{A:Option (List Nat)}{op:bG}{r:List bt}(G:aY VE g.n=some (.d (.b t)))(I:t=!want)(h:VO T r ((d.n,.undef)::VE) B Q):VO T (⟨some d,some (g,want),A,op⟩::r) VE B Q:=by
 intro H0 X0 E H β z
 refine LM (z.bool G) (by rw[I];cases want<;>decide) ?_
 exact h H0 X0 _ H β (z.set (by simp only[aM]))
theorem UD{d g:Key}{want:Bool}{G:Option (List Nat)}{op:bG}{r:List bt}(I:aY VE g.n=some (.d (.b want)))(h:VI T op VE B W fun v B'=>VO T r ((d.n,v)::VE) B' Q):VO T (⟨some d,some (g,want),G,op⟩::r) VE B Q:=by
 intro H0 X0 E H β z
 refine Ts (z.bool I) ((h H0 X0 E H β z).mono fun a H' hp=>?_)
 obtain⟨v,B',β',J,A,K,O⟩:=hp
 exact(O H0 X0 _ H' β' (A.set K)).mono fun _ _ hp=>hp.of J z.bc
theorem sH.more{H0:Nat→Nat}{X0:Nat→Prop}{H:az}{z:bo}{β:Nat→Nat}{Q:b0→bo→Prop}{E':Env}{H':az}(h:sH H0 X0 z β H Q E' H')(k:∀b s,aY z b=some s→s.born→∃t,aY B b=some t∧t.born):sH H0 X0 B β H Q E' H':=by
 obtain⟨ep,B',β',A,h2,G⟩:=h
 exact⟨ep,B',β',A.more k,h2,G⟩
theorem LO{b:Nat}:∀c s,aY (ia B b) c=some s→s.born→∃t,aY B c=some t∧t.born:=fun c s z h2=>by
 rw[vJ] at z
 split at z
 ·cases z
 exact⟨s,z,h2⟩
theorem c6{fl:List FL}(h:Q VE B):VQ T [] VE B fl Q:=fun _ _ _ _ β z _ _=>⟨0,_,_,fun _ _ _ _=>rfl,VE,B,β,.refl,z,h⟩
theorem c8{fl:List FL}{d:Key}{op:bG}{r:List bt}(h:VI T op VE B W fun v B'=>VQ T r ((d.n,v)::VE) B' fl Q):VQ T (⟨some d,none,none,op⟩::r) VE B fl Q:=by
 intro H0 X0 E H β A bR I
 obtain⟨N,a,H',e,v,B',β',G,z,J,K⟩:=h H0 X0 E H β A
 obtain⟨O,U,Y,e2,hp⟩:=K H0 X0 _ H' β' (z.set J) bR (I.step G)
 refine⟨max N O,U,Y,fun lf n Z a2=>?_,hp.of G A.bc⟩
 show bt.ns (T.call lf n) ⟨some d,none,none,op⟩ E H bR (me (T.call lf n) r)=_
 rw[zn,Kw rfl,e lf n (by omega) (by omega),Cv]
 exact e2 lf n (by omega) (by omega)
theorem UE{fl:List FL}{d g:Key}{want:Bool}{op:bG}{r:List bt}(I:aY VE g.n=some (.d (.b want)))(h:VI T op VE B W fun v B'=>VQ T r ((d.n,v)::VE) B' fl Q):VQ T (⟨some d,some (g,want),none,op⟩::r) VE B fl Q:=by
 intro H0 X0 E H β z bR J
 obtain⟨N,a,H',e,v,B',β',G,A,K,O⟩:=h H0 X0 E H β z
 obtain⟨U,Y,Z,e2,hp⟩:=O H0 X0 _ H' β' (A.set K) bR (J.step G)
 refine⟨max N U,Y,Z,fun lf n a1 a2=>?_,hp.of G z.bc⟩
 show bt.ns (T.call lf n) ⟨some d,some (g,want),none,op⟩ E H bR (me (T.call lf n) r)=_
 rw[B6 (z.bool I),aw rfl,Kw rfl,e lf n (by omega) (by omega),Cv]
 exact e2 lf n (by omega) (by omega)
theorem cU{fl:List FL}{d g:Key}{want t:Bool}{op:bG}{r:List bt}(A:aY VE g.n=some (.d (.b t)))(G:t=!want)(h:VQ T r ((d.n,.undef)::VE) B fl Q):VQ T (⟨some d,some (g,want),none,op⟩::r) VE B fl Q:=by
 intro H0 X0 E H β z bR I
 obtain⟨J,K,O,e2,hp⟩:=h H0 X0 _ H β (z.set (d:=d) (v:=.undef) (a:=.undef) (by simp only[aM])) bR I
 refine⟨J,K,O,fun lf n U Y=>?_,hp⟩
 show bt.ns (T.call lf n) ⟨some d,some (g,want),none,op⟩ E H bR (me (T.call lf n) r)=_
 rw[B6 (z.bool A),aj (by rw[G];cases want<;>decide)]
 exact e2 lf n U Y
theorem iO{fl:List FL}{d g:Key}{want t:Bool}{l:List Nat}{op:bG}{r:List bt}(A:aY VE g.n=some (.d (.b t)))(G:t=!want)(h:VQ T r ((d.n,.undef)::VE) B (.rd []::fl) Q):VQ T (⟨some d,some (g,want),some l,op⟩::r) VE B fl Q:=by
 intro H0 X0 E H β z bR I
 obtain⟨J,K,O,e2,hp⟩:=h H0 X0 _ H β (z.set (d:=d) (v:=.undef) (a:=.undef) (by simp only[aM])) (⟨some [],[],0,0⟩::bR) (I.cons ⟨rfl,rfl,[],rfl,fun f h=>by cases h⟩)
 refine⟨J,K,O,fun lf n U Y=>?_,hp⟩
 show bt.ns (T.call lf n) ⟨some d,some (g,want),some l,op⟩ E H bR (me (T.call lf n) r)=_
 rw[B6 (z.bool A),aj (by rw[G];cases want<;>decide)]
 exact e2 lf n U Y
theorem zo{call:eI}{E:Env}{H:az}{d:Option Key}{g:Option (Key×Bool)}{l:List Nat}{op:bG}{bR:List FP}{K:Env→az→List FP→eG}{v:an}{H1:az}(h:op.ev call E H.mark= .ok v H1)(G:pI ⟨op.reads E,H1.ws,H.next,H1.next⟩ bR l=true):
  bt.qb call ⟨d,g,some l,op⟩ E H bR K=K (kq E d v) ⟨H1.next,H.bc,oJ H.bc H.ws H1.ws,H1.t⟩ (⟨op.reads E,H1.ws,H.next,H1.next⟩::bR):=by
 cases H with
 |mk next bc ws t=>cases H1 with
  |mk next' A z t'=>
   show dk next (fun next=>yF (op.reads E) l next bc ws bR d E K (op.ev call E ⟨next,next,[],t⟩))=_
   rw[ij]
   have h:op.ev call E ⟨next,next,[],t⟩= .ok v ⟨next',A,z,t'⟩:=h
   rw[h]
   have G:pI ⟨op.reads E,z,next,next'⟩ bR l=true:=G
   cases d with
   |none=>
    show aG (pI ⟨op.reads E,z,next,next'⟩ bR l) (K E ⟨next',bc,oJ bc ws z,t'⟩ (⟨op.reads E,z,next,next'⟩::bR)) (.err 50)=_
    rw[G];rfl
   |some d=>
    unfold yF
    dsimp only
    rw[G,f6,T4.zF];rfl
def Bb(x:Nat):List Nat→Bool
 |[]=>false
 |y::r=>Nat.beq x y||Bb x r
theorem LP{x:Nat}:∀{l:List Nat},x∈l→Bb x l=true
 |y::r,h=>by
  rcases List.mem_cons.1 h with rfl|h
  ·show(Nat.beq x x||Bb x r)=true
   rw[show Nat.beq x x=true from iR x];rfl
  show(Nat.beq x y||Bb x r)=true
  rw[LP h,Bool.or_true]
def Bc(R:List Nat):List Nat→Bool
 |[]=>true
 |b::r=>!Bb b R&&Bc R r
theorem LQ{R:List Nat}:∀{W:List Nat},Bc R W=true→∀b,b∈W→b∉R
 |c::r,h,b,z=>by
  simp only[Bc,fc] at h
  rcases List.mem_cons.1 z with rfl|z
  ·intro A
   rw[LP A] at h
   simp at h
  exact LQ h.2 b z
def nU(W:List Nat)(l:List Nat)(fl:List FL):Bool:=
 match l with
 |[]=>true
 |i::r=>(match fl[i]?with
  |some (.rd R)=>Bc R W
  |some .qt=>W.isEmpty
  |_=>false)&&nU W r fl
theorem LR{l m:List Nat}(h:∀f,f∈l→f∉m):yh l m=true:=by
 induction l with
 |nil=>rfl
 |cons x r z=>
  show aG (qa x m) false (yh r m)=true
  rw[z fun f A=>h f (nZ _ A)]
  have G:qa x m=false:=by
   cases I:qa x m
   ·rfl
   exact absurd ((GU _ _).1 I) (h x (kG ..))
  rw[G];rfl
theorem SL(r:Option (List Nat)):AG [] r=true:=rfl
theorem R6{l m:List Nat}(h:∀f,f∈l→f∉m):AG l (some m)=true:=by
 cases l with
 |nil=>rfl
 |cons x r=>exact LR h
theorem K2{n:Nat}:∀{l:List Nat},uZ l n n=true
 |[]=>rfl
 |x::r=>by
  show aG (Nat.ble n x) (aG (Nat.ble n x) (uZ r n n) false) (uZ r n n)=true
  rw[K2]
  cases Nat.ble n x<;>rfl
theorem xj{n:Nat}{β:Nat→Nat}{fl:List FL}{bR:List FP}{fp:FP}(A:vm n B β fl bR)(J:∀f,f∈fp.ws→∃b s,b∈W∧aY B b=some s∧s.born∧β b=f):∀{l:List Nat},nU W l fl=true→pI fp bR l=true
 |[],_=>rfl
 |i::r,h=>by
  simp only[nU,fc] at h
  obtain⟨hi,Y⟩:=h
  show ob (bR[i]?) false (fun b=>aG (sj fp b) (pI fp bR r) false)=true
  have z:i<bR.length:=by
   rw[A.1]
   cases G:fl[i]?with
   |none=>rw[G] at hi;simp at hi
   |some x=>exact(List.getElem?_eq_some_iff.1 G).1
  rw[eP z,di]
  have I:i<fl.length:=by rw[←A.1];exact z
  have hk:=A.2 i _ _ (eP I) (eP z)
  rw[eP I] at hi
  have e:sj fp bR[i]=true:=by
   unfold sj
   cases G:fl[i] with
   |un=>rw[G] at hi;simp at hi
   |qt=>
    rw[G] at hi hk
    have Z:W=[]:=by cases W with
     |nil=>rfl
     |cons _ _=>simp at hi
    have K:fp.ws=[]:=by
     cases hl:fp.ws with
     |nil=>rfl
     |cons f _=>
      obtain⟨b,_,U,_⟩:=J f (by rw[hl];exact kG ..)
      rw[Z] at U;cases U
    have hk:bR[i].ws=[]:=hk
    rw[K,hk];rfl
   |rd R=>
    rw[G] at hi hk
    obtain⟨k1,k2,l,k3,k4⟩:=hk
    have hi:Bc R W=true:=hi
    rw[k1,k2,k3,SL,R6 (fun f A O=>?_),LR (fun f _ h=>by cases h),K2]
    ·rfl
    obtain⟨b,s,h1,h2,h3,h4⟩:=J f A
    exact LQ hi b h1 ((k4 f O).2 b s h2 h3 h4)
  rw[e,f6]
  exact xj A J Y
theorem iM.mark{β β':Nat→Nat}{H H1:az}(h:iM B β H.mark (· ∈W) B' β' H1):iM B β H (· ∈W) B' β' ⟨H1.next,H.bc,oJ H.bc H.ws H1.ws,H1.t⟩:=by
 cases H with
 |mk next bc ws t=>
  refine⟨rfl,h.next,fun f z=>?_,h.since,h.rU⟩
  rcases(zk _ _ _ _).1 z with z|⟨z,k⟩
  ·exact .inl z
  rcases h.ws f z with z|⟨a,A⟩
  ·cases z
  exact .inr ⟨k,A⟩
theorem zR{H0:Nat→Nat}{X0:Nat→Prop}{E:Env}{H:az}{β:Nat→Nat}{op:bG}{Q:VV→bo→Prop}(h:VI T op VE B W Q)(J:Rel H0 X0 VE B E H β):
  iV T op E H.mark fun a H1=>(∀f,f∈H1.ws→∃b s,b∈W∧aY B b=some s∧s.born∧β b=f)∧∃v B' β',iM B β H (· ∈W) B' β' ⟨H1.next,H.bc,oJ H.bc H.ws H1.ws,H1.t⟩∧Rel H0 X0 VE B' E ⟨H1.next,H.bc,oJ H.bc H.ws H1.ws,H1.t⟩ β'∧aM ⟨H1.next,H.bc,oJ H.bc H.ws H1.ws,H1.t⟩ (XB X0 B' β') β' v a∧Q v B':=by
 have z:H.mark.bc=H.next∧H.mark.ws=[]∧H.mark.next=H.next∧H.mark.t=H.t:=by cases H;exact⟨rfl,rfl,rfl,rfl⟩
 have A:Rel H0 X0 VE B E H.mark β:=J.grow (by rw[z.2.2.1];exact bV _) (fun f _=>by rw[z.2.2.2]) (by rw[z.1,z.2.2.1];exact bV _)
 refine(h H0 X0 E H.mark β A).mono fun a H1 hp=>?_
 obtain⟨v,B',β',G,I,K,O⟩:=hp
 have U:H.bc≤H1.next:=by
  have h1:=J.bc
  have h2:=G.next
  rw[z.2.2.1] at h2
  omega
 have Y:iH H1 (XB X0 B' β') ⟨H1.next,H.bc,oJ H.bc H.ws H1.ws,H1.t⟩ (XB X0 B' β'):=⟨bV _,fun _ _ Z=>⟨Z,rfl⟩⟩
 refine⟨fun f hf=>?_,v,B',β',G.mark,I.grow (bV _) (fun _ _=>rfl) U,K.lift Y,O⟩
 rcases G.ws f hf with h|⟨_,b,s,h⟩
 ·rw[z.2.1] at h;cases h
 exact⟨b,s,h⟩
def sW:List Nat→FL
 |[]=>.qt
 |_=>.un
theorem Hi{n:Nat}{β:Nat→Nat}{fp:FP}(A:∀f,f∈fp.ws→∃b s,b∈W∧aY B b=some s∧s.born∧β b=f){G:bo}{z:Nat→Nat}:u6 n G z (sW W) fp:=by
 cases W with
 |cons _ _=>trivial
 |nil=>
  show fp.ws=[]
  cases I:fp.ws with
  |nil=>rfl
  |cons f _=>
   obtain⟨b,_,J,_⟩:=A f (by rw[I];exact kG ..)
   cases J
theorem eo{fl:List FL}{d:Key}{l:List Nat}{op:bG}{r:List bt}(hk:nU W l fl=true)(h:VI T op VE B W fun v B'=>VQ T r ((d.n,v)::VE) B' (sW W::fl) Q):VQ T (⟨some d,none,some l,op⟩::r) VE B fl Q:=by
 intro H0 X0 E H β A bR G
 obtain⟨N,a,H',e,I,v,B',β',J,z,K,O⟩:=zR h A
 obtain⟨U,Y,Z,e2,hp⟩:=O H0 X0 _ _ β' (z.set K) (⟨op.reads E,H'.ws,H.next,H'.next⟩::bR) ((G.step J).cons (Hi I))
 refine⟨max N U,Y,Z,fun lf n a1 a2=>?_,hp.of J A.bc⟩
 show bt.ns (T.call lf n) ⟨some d,none,some l,op⟩ E H bR (me (T.call lf n) r)=_
 rw[zn,zo (e lf n (by omega) (by omega)) (xj G I hk)]
 exact e2 lf n (by omega) (by omega)
theorem Tx{fl:List FL}{l:List Nat}{op:bG}{r:List bt}(hk:nU W l fl=true)(h:VI T op VE B W fun _ B'=>VQ T r VE B' (sW W::fl) Q):VQ T (⟨none,none,some l,op⟩::r) VE B fl Q:=by
 intro H0 X0 E H β A bR G
 obtain⟨N,a,H',e,I,v,B',β',J,z,Z,K⟩:=zR h A
 obtain⟨O,U,Y,e2,hp⟩:=K H0 X0 _ _ β' z (⟨op.reads E,H'.ws,H.next,H'.next⟩::bR) ((G.step J).cons (Hi I))
 refine⟨max N O,U,Y,fun lf n a1 a2=>?_,hp.of J A.bc⟩
 show bt.ns (T.call lf n) ⟨none,none,some l,op⟩ E H bR (me (T.call lf n) r)=_
 rw[zn,zo (e lf n (by omega) (by omega)) (xj G I hk)]
 exact e2 lf n (by omega) (by omega)
theorem Ty{fl:List FL}{d g:Key}{want:Bool}{l:List Nat}{op:bG}{r:List bt}(K:aY VE g.n=some (.d (.b want)))(hk:nU W l fl=true)(h:VI T op VE B W fun v B'=>VQ T r ((d.n,v)::VE) B' (sW W::fl) Q):VQ T (⟨some d,some (g,want),some l,op⟩::r) VE B fl Q:=by
 intro H0 X0 E H β z bR G
 obtain⟨N,a,H',e,I,v,B',β',J,A,O,U⟩:=zR h z
 obtain⟨Y,Z,H2,e2,hp⟩:=U H0 X0 _ _ β' (A.set O) (⟨op.reads E,H'.ws,H.next,H'.next⟩::bR) ((G.step J).cons (Hi I))
 refine⟨max N Y,Z,H2,fun lf n a1 a2=>?_,hp.of J z.bc⟩
 show bt.ns (T.call lf n) ⟨some d,some (g,want),some l,op⟩ E H bR (me (T.call lf n) r)=_
 rw[B6 (z.bool K),aw rfl,zo (e lf n (by omega) (by omega)) (xj G I hk)]
 exact e2 lf n (by omega) (by omega)
variable{R:Ex→b0→bo→Prop}
theorem VC.mono{c:IC}{z:Ex→b0→bo→Prop}(h:VC T c VE B R)(k:∀x VE B,R x VE B→z x VE B):VC T c VE B z:=fun H0 X0 E H β A=>
 (h H0 X0 E H β A).mono fun x _ _ hp=>by obtain⟨ep,B',β',G,a,b⟩:=hp;exact⟨ep,B',β',G,a,k _ _ _ b⟩
theorem bD{ops:List bt}(h:VO T ops VE B fun ep B'=>R .normal ep B'):VC T (.region false ops) VE B R:=fun H0 X0 E H β z=>R5 (h H0 X0 E H β z)
theorem iw{ops:List bt}(h:VQ T ops VE B [] fun ep B'=>R .normal ep B'):VC T (.region true ops) VE B R:=fun H0 X0 E H β z=>RA (h H0 X0 E H β z [] ⟨rfl,fun i x r hi=>by simp at hi⟩)
theorem aK{a b:IC}(h:VC T a VE B fun x ep B'=>match x with|.normal=>VC T b ep B' R|x=>R x ep B'):VC T (.seq a b) VE B R:=fun H0 X0 E H β I=>by
 refine Uz ((h H0 X0 E H β I).mono fun x E' H' hp=>?_)
 obtain⟨ep,B',β',A,z,G⟩:=hp
 cases x with
 |normal=>exact⟨fun _=>(G H0 X0 E' H' β' z).mono fun _ _ _ hp=>hp.of A I.bc,fun e=>absurd rfl e⟩
 |exit id=>exact⟨fun e=>(by cases e),fun _=>⟨ep,B',β',A,z,G⟩⟩
 |ret=>exact⟨fun e=>(by cases e),fun _=>⟨ep,B',β',A,z,G⟩⟩
theorem aQ(h:R .normal VE B):VC T .skip VE B R:=fun _ _ _ _ β z=>Tt ⟨VE,B,β,.refl,z,h⟩
theorem dD{id:Nat}(h:R (.exit id) VE B):VC T (.exit id) VE B R:=fun _ _ _ _ β z=>Tu ⟨VE,B,β,.refl,z,h⟩
theorem ax(h:R .ret VE B):VC T .ret VE B R:=fun _ _ _ _ β z=>UA ⟨VE,B,β,.refl,z,h⟩
theorem Tz{k:Key}{a b:IC}(A:aY VE k.n=some (.d (.b true)))(h:VC T a VE B R):VC T (.cond (.t k) a b) VE B R:=fun H0 X0 E H β z=>
 G0 (t:=true) (z.bool A) (fun _=>h H0 X0 E H β z) (fun e=>by cases e)
theorem TA{k:Key}{a b:IC}(A:aY VE k.n=some (.d (.b false)))(h:VC T b VE B R):VC T (.cond (.t k) a b) VE B R:=fun H0 X0 E H β z=>
 G0 (t:=false) (z.bool A) (fun e=>by cases e) (fun _=>h H0 X0 E H β z)
theorem aI{k:Key}{a b:IC}{t:Bool}(A:aY VE k.n=some (.d (.b t)))(G:t=true→VC T a VE B R)(h2:t=false→VC T b VE B R):VC T (.cond (.t k) a b) VE B R:=fun H0 X0 E H β z=>
 G0 (t:=t) (z.bool A) (fun e=>G e H0 X0 E H β z) (fun e=>h2 e H0 X0 E H β z)
theorem TB{id:Nat}{c:IC}(h:VC T c VE B fun x=>R (F2 id x)):VC T (.block id c) VE B R:=fun H0 X0 E H β z=>SK (h H0 X0 E H β z)
theorem dY{c:IC}(I:Nat→b0→bo→Prop)(hI:∀k VE B,I k VE B→VC T c VE B fun x ep B'=>match x with|.normal=>∃j,j<k∧I j ep B'|x=>R x ep B'){k:Nat}(h0:I k VE B):VC T (.loop c) VE B R:=by
 intro H0 X0 E H β hr
 refine Tv (fun k E1 H1=>∃z K A,iM B β H (fun _=>True) K A H1∧Rel H0 X0 z K E1 H1 A∧I k z K) (fun k E1 H1 hk=>?_) k E H ⟨VE,B,β,.refl,hr,h0⟩
 obtain⟨z,K,A,O,U,hi⟩:=hk
 refine(hI k z K hi H0 X0 E1 H1 A U).mono fun x E' H' hp=>?_
 obtain⟨ep,B',β',hw,G,Y⟩:=hp
 have J:=O.trans hw hr.bc
 cases x with
 |normal=>
  obtain⟨j,hj,Z⟩:=Y
  exact⟨fun _=>⟨j,hj,ep,B',β',J,G,Z⟩,fun e=>absurd rfl e⟩
 |exit id=>exact⟨fun e=>(by cases e),fun _=>⟨ep,B',β',J,G,Y⟩⟩
 |ret=>exact⟨fun e=>(by cases e),fun _=>⟨ep,B',β',J,G,Y⟩⟩
end
def sB:an→Option VV
 |.int k n=>some (.d (.i k n))
 |.bool b=>some (.d (.b b))
 |.str l v=>some (.d (.s l v))
 |.cg=>some (.d .nil)
 |.gS=>some (.k .gS)
 |.ik=>some (.k .ik)
 |.nQ=>some (.k .nQ)
 |.func f z cs=>match z,cs with
  |[],[]=>some (.fn f [])
  |_,_=>none
 |_=>none
def aF.vv(VE:b0):aF→Option VV
 |.t k=>aY VE k.n
 |.c a=>sB a
def VV.cells:VV→Option (List VV)
 |.agg l=>some l
 |.d x=>some [.d x]
 |.vp b o=>some [.vp b o]
 |.bs b n es=>some [.bs b n es]
 |.ac b n es=>some [.ac b n es]
 |.k .gS=>some [.k .gS]
 |.k .ik=>some [.k .ik]
 |.k .nQ=>some [.k .nQ]
 |.jB=>some [.jB]
 |.fn f c=>some [.fn f c]
 |_=>none
def l6:List VV→Option (List DC)
 |[]=>some []
 |.d x::r=>(l6 r).map (x:: ·)
 |_::_=>none
def br{α:Type}:List (Nat×α)→List (Nat×α)→Prop
 |[],_=>True
 |(i,v)::r,l=>aY l i=some v∧br r l
theorem br.get{α:Type}:∀{l m:List (Nat×α)},br l m→∀{k:Nat}{v:α},aY l k=some v→aY m k=some v
 |[],_,_,_,_,h=>by cases h
 |(i,w)::r,m,z,k,v,h=>by
  rw[eu] at h
  by_cases e:i=k
  ·rw[aw e] at h;cases h;exact e▸z.1
  rw[aj e] at h;exact br.get z.2 h
theorem Mu:∀{l:List VV}{row:List DC},l6 l=some row→l=row.map .d
 |[],row,h=>by simp only[l6,gP] at h;subst h;rfl
 |.d x::r,row,h=>by
  simp only[l6,Dx] at h
  obtain⟨s,z,rfl⟩:=h
  rw[Mu z];rfl
 |.agg _::_,_,h=>by simp[l6] at h
 |.tuple _::_,_,h=>by simp[l6] at h
 |.vp _ _::_,_,h=>by simp[l6] at h
 |.bp _ _ _ _ _::_,_,h=>by simp[l6] at h
 |.rp _ _::_,_,h=>by simp[l6] at h
 |.bs _ _ _::_,_,h=>by simp[l6] at h
 |.ac _ _ _::_,_,h=>by simp[l6] at h
 |.fn _ _::_,_,h=>by simp[l6] at h
 |.k _::_,_,h=>by simp[l6] at h
 |.jB::_,_,h=>by simp[l6] at h
 |.undef::_,_,h=>by simp[l6] at h
section
variable{T:bd}{H0:Nat→Nat}{X0:Nat→Prop}{VE ep:b0}{B B':bo}{E:Env}{H H':az}{β:Nat→Nat}{X:Nat→Prop}
theorem Gy{a:an}{v:VV}(h:sB a=some v):aM H X β v a:=by
 cases a
 case func f z cs=>
  cases z<;>cases cs<;>simp only[sB,gP,reduceCtorEq] at h
  subst h
  simp only[aM,bm]
  exact⟨[],rfl,rfl⟩
 all_goals simp only[sB,gP,reduceCtorEq] at h
 all_goals subst h
 all_goals first|(simp only[aM,cN];done)|(simp only[aM])
theorem SM{a:an}{v:VV}(h:sB a=some v)(b:Nat):v.no b=true:=by
 cases a
 case func f z cs=>
  cases z<;>cases cs<;>simp only[sB,gP,reduceCtorEq] at h
  subst h
  rfl
 all_goals simp only[sB,gP,reduceCtorEq] at h
 all_goals subst h
 all_goals simp only[VV.no]
theorem Rel.b8(z:Rel H0 X0 VE B E H β){x:aF}{v:VV}(h:x.vv VE=some v):∃a,x.ev E=some a∧aM H (XB X0 B β) β v a:=by
 cases x with
 |t k=>exact z.env k v h
 |c a=>exact⟨a,rfl,Gy h⟩
theorem aM.cells{v:VV}{a:an}{l:List VV}(h:v.cells=some l)(z:aM H X β v a):∃s,jW a=some s∧bm H X β l s:=by
 cases v with
 |agg m=>
  simp only[VV.cells,gP] at h;subst h
  simp only[aM] at z
  obtain⟨cs,rfl,h⟩:=z
  exact⟨cs,rfl,h⟩
 |d x=>
  simp only[VV.cells,gP] at h;subst h
  have:jW a=some [a]:=by
   simp only[aM] at z
   cases x with
   |i k n=>simp only[cN] at z;subst z;rfl
   |b t=>simp only[cN] at z;subst z;rfl
   |s l n=>simp only[cN] at z;subst z;rfl
   |nil=>simp only[cN] at z;subst z;rfl
   |sl rows=>simp only[cN] at z;obtain⟨f,g,off,es,rfl,_⟩:=z;rfl
  exact⟨[a],this,by simp only[bm];exact⟨a,[],rfl,z,rfl⟩⟩
 |vp b o=>
  simp only[VV.cells,gP] at h;subst h
  have e:a= .ptr (β b) 1 o:=by simpa only[aM] using z
  exact⟨[a],by subst e;rfl,by simp only[bm];exact⟨a,[],rfl,z,rfl⟩⟩
 |bs b n es=>
  simp only[VV.cells,gP] at h;subst h
  have e:a= .slice (β b) n 0 n es:=by simpa only[aM] using z
  exact⟨[a],by subst e;rfl,by simp only[bm];exact⟨a,[],rfl,z,rfl⟩⟩
 |fn f c=>
  simp only[VV.cells,gP] at h;subst h
  have e:∃cs,a= .func f [] cs∧bm H X β c cs:=by simpa only[aM] using z
  obtain⟨cs,e,_⟩:=e
  exact⟨[a],by subst e;rfl,by simp only[bm];exact⟨a,[],rfl,z,rfl⟩⟩
 |jB=>
  simp only[VV.cells,gP] at h;subst h
  have e:∃t x,a= .iface t x:=by simpa only[aM] using z
  obtain⟨t,x,e⟩:=e
  exact⟨[a],by subst e;rfl,by simp only[bm];exact⟨a,[],rfl,z,rfl⟩⟩
 |k x=>
  have e:a=x:=by simpa only[aM] using z
  cases x<;>simp only[VV.cells,gP,reduceCtorEq] at h
  all_goals subst h
  all_goals exact⟨[a],by subst e;rfl,by simp only[bm];exact⟨a,[],rfl,z,rfl⟩⟩
 |ac b n es=>
  simp only[VV.cells,gP] at h;subst h
  have e:jW a=some [a]:=by
   simp only[aM] at z
   rcases z with⟨_,rfl⟩|⟨_,rfl⟩<;>rfl
  exact⟨[a],e,by simp only[bm];exact⟨a,[],rfl,z,rfl⟩⟩
 |tuple _=>simp[VV.cells] at h
 |bp _ _ _ _ _=>simp[VV.cells] at h
 |rp _ _=>simp[VV.cells] at h
 |undef=>simp[VV.cells] at h
theorem eS{W:List Nat}{Q:VV→bo→Prop}{a:an}{v:VV}(z:Rel H0 X0 VE B E H β)(A:aM H (XB X0 B β) β v a)(G:Q v B):yl H0 X0 VE B β E H W Q a H:=
 ⟨v,B,β,.refl,z,A,G⟩
theorem Rel.AL(h:Rel H0 X0 VE B E H β)(z:∀k s,aY B' k=some s→aY B k=some s):Rel H0 X0 VE B' E H β:=by
 have I:iH H (XB X0 B β) H (XB X0 B' β):=⟨bV _,fun f _ J=>⟨fun k=>J (k.imp id fun⟨c,s,G,h2⟩=>⟨c,s,z c s G,h2⟩),rfl⟩⟩
 refine⟨h.om,h.bc,h.x0,fun c s A=>h.new c s (z c s A),fun c e s t A he=>h.inj c e s t (z c s A) (z e t he),fun k v hk=>?_,fun c s A=>(h.box c s (z c s A)).lift I rfl⟩
 obtain⟨a,G,h2⟩:=h.env k v hk
 exact⟨a,G,h2.lift I⟩
theorem dn{c:IC}{R:Ex→b0→bo→Prop}(ep:b0)(B':bo)(z:br ep VE)(h2:br B' B)(h:VC T c ep B' R):VC T c VE B R:=
 fun H0 X0 E H β A=>(h H0 X0 E H β ((A.less fun _ _ hk=>z.get hk).AL fun _ _ hk=>h2.get hk)).mono fun _ _ _ hp=>hp.more fun _ s G I=>⟨s,h2.get G,I⟩
mutual
def VV.mL(b:Nat)(x:DC):VV→VV
 |.agg l=>.agg (Fw b x l)
 |.bs c n es=>bif Nat.beq c b then .d x else .bs c n es
 |.ac c n es=>bif Nat.beq c b then .d x else .ac c n es
 |v=>v
def Fw(b:Nat)(x:DC):List VV→List VV
 |[]=>[]
 |v::r=>v.mL b x::Fw b x r
end
mutual
def VV.vn(b n es:Nat):VV→Prop
 |.agg l=>Fx b n es l
 |.bs c m e=>c=b→m=n∧e=es
 |.ac c _ _=>c≠b
 |_=>True
def Fx(b n es:Nat):List VV→Prop
 |[]=>True
 |v::r=>v.vn b n es∧Fx b n es r
end
theorem fv.rf{f g es:Nat}:∀{rows:List (List DC)}{q:Nat},(∀i row,rows[i]?=some row→∃l,mB H f g (q+i) l∧l.length=es∧cY H X row l)→fv H X f g es q rows
 |[],_,_=>trivial
 |row::r,q,h=>by
  simp only[fv]
  refine⟨h 0 row rfl,fv.rf fun i row hi=>?_⟩
  rw[show q+1+i=q+(i+1) by omega]
  exact h (i+1) row (by simpa using hi)
theorem gU.cells{f elem aP es lo:Nat}{rows:List (List DC)}(h:gU H X β f (.arr elem aP es lo rows)){g:Nat}(Y:lo≤g)(h2:g≤rows.length){q:Nat}(I:q<g){row:List DC}(z:rows[q]?=some row):∃l,mB H f g q l∧l.length=es∧cY H X row l:=by
 obtain⟨A,cs,J,Z,k3,K⟩:=h
 obtain⟨l,O,G,U⟩:=K q row z
 exact⟨l,⟨elem,aP,rows.length,A,0,cs,by rw[G];exact J,by omega,h2,I,O⟩,G,U⟩
theorem Rel.asData(G:Rel H0 X0 VE B E H β){b elem aP es lo:Nat}{rows:List (List DC)}(I:aY B b=some (.arr elem aP es lo rows)){X:Nat→Prop}(J:¬X (β b))(K:iH H (XB X0 B β) H X):cN H X (.sl rows) (.slice (β b) rows.length 0 rows.length es):=by
 have hk:=G.box b _ I
 simp only[cN]
 refine⟨β b,rows.length,0,es,rfl,.inr ⟨J,(G.new b _ I trivial).2,0,by simp,fv.rf fun i row hi=>?_⟩⟩
 have z:=(List.getElem?_eq_some_iff.1 hi).1
 have A:lo≤rows.length:=by obtain⟨_,_,_,_,h,_⟩:=hk;exact h
 obtain⟨l,O,h2,U⟩:=hk.cells (g:=rows.length) A (bV _) z hi
 exact⟨l,by rw[jx];exact O,h2,U.lift K⟩
theorem Rel.mL(I:Rel H0 X0 VE B E H β){b elem aP es lo:Nat}{rows:List (List DC)}(J:aY B b=some (.arr elem aP es lo rows)){k:Nat}{v:VV}(hv:aY VE k=some v)(ho:v.vn b rows.length es):
  Rel H0 X0 ((k,v.mL b (.sl rows))::VE) (ia B b) E H β:=by
 have K:=I.drop b
 have O:¬XB X0 (ia B b) β (β b):=by
  rintro(h|⟨c,s,z,U,h2⟩)
  ·exact(I.new b _ J trivial).1 h
  rw[vJ] at z
  by_cases e:b=c
  ·rw[aw e] at z;cases z
  rw[aj e] at z;exact e (I.inj c b s _ z J U trivial h2).symm
 have hl:iH H (XB X0 B β) H (XB X0 (ia B b) β):=⟨bV _,fun f _ O=>⟨fun k=>O (k.imp id fun⟨c,s,z,h2⟩=>⟨c,s,by
  rw[vJ] at z
  by_cases e:b=c
  ·rw[aw e] at z;cases z
  rw[aj e] at z;exact z,h2⟩),rfl⟩⟩
 have G:=I.asData J O hl
 have main:(∀v:VV,v.vn b rows.length es→∀a,aM H (XB X0 (ia B b) β) β v a→aM H (XB X0 (ia B b) β) β (v.mL b (.sl rows)) a):=by
  intro v
  refine VV.rec (motive_1:=fun v=>v.vn b rows.length es→∀a,aM H (XB X0 (ia B b) β) β v a→aM H (XB X0 (ia B b) β) β (v.mL b (.sl rows)) a)
   (motive_2:=fun l=>Fx b rows.length es l→∀s,bm H (XB X0 (ia B b) β) β l s→bm H (XB X0 (ia B b) β) β (Fw b (.sl rows) l) s) ?_ ?_ ?_ ?_ ?_ ?_ ?_ ?_ ?_ ?_ ?_ ?_ ?_ ?_ v
  ·intro x _ a h;exact h
  ·intro l ih ho a h
   simp only[aM,VV.mL,VV.vn] at h ho⊢
   obtain⟨cs,e,h⟩:=h
   exact⟨cs,e,ih ho cs h⟩
  ·intro l _ _ a h;exact h
  ·intro c o _ a h;exact h
  ·intro c g q o e _ a h;exact h
  ·intro row o _ a h;exact h
  ·intro c n e ho a h
   simp only[VV.mL,VV.vn] at h ho⊢
   by_cases A:c=b
   ·obtain⟨rfl,rfl⟩:=ho A
    subst A
    rw[show Nat.beq c c=true from iR c]
    simp only[aM] at h
    subst h
    show aM H _ β (.d (.sl rows)) _
    simp only[aM]
    exact G
   have:Nat.beq c b=false:=by
    cases Y:Nat.beq c b
    ·rfl
    exact absurd (eb Y) A
   rw[this];exact h
  ·intro c n e ho a h
   simp only[VV.mL,VV.vn] at ho⊢
   have:Nat.beq c b=false:=by
    cases Y:Nat.beq c b
    ·rfl
    exact absurd (eb Y) ho
   rw[this];exact h
  ·intro f c _ _ a h;exact h
  ·intro x _ a h;exact h
  ·intro _ a h;exact h
  ·intro _ a h;exact h
  ·intro _ s h;exact h
  intro v r Z Jt ho s h
  simp only[bm,Fw,Fx] at h ho⊢
  obtain⟨a,s,e,z,h2⟩:=h
  exact⟨a,s,e,Z ho.1 a z,Jt ho.2 s h2⟩
 refine{K with env:=fun c w A=>?_}
 rw[eu] at A
 by_cases e:k=c.n
 ·rw[aw e] at A
  cases A
  obtain⟨a,z,h2⟩:=K.env c v (e▸hv)
  exact⟨a,z,main v ho a h2⟩
 rw[aj e] at A
 exact K.env c w A
theorem gq{ops:List bt}{Q:b0→bo→Prop}(k b:Nat){v:VV}{elem aP es lo:Nat}{rows:List (List DC)}(z:aY VE k=some v)(A:aY B b=some (.arr elem aP es lo rows))(ho:v.vn b rows.length es)(h:VO T ops ((k,v.mL b (.sl rows))::VE) (ia B b) Q):VO T ops VE B Q:=
 fun H0 X0 E H β G=>(h H0 X0 E H β (G.mL A z ho)).mono fun _ _ hp=>hp.more LO
variable{W:List Nat}{Q:VV→bo→Prop}
theorem wrap64{n:Int}(z: -9223372036854775808≤n)(h2:n≤9223372036854775807):IntKind.i64.wrap n=n:=by
 simp[IntKind.wrap,IntKind.bits,IntKind.signed]
 split<;>omega
theorem bN{x:aF}{v:VV}(A:x.vv VE=some v)(G:Q v B):VI T (.oc x) VE B [] Q:=fun _ _ _ _ _ z=>by
 obtain⟨a,I,h2⟩:=z.b8 A
 exact Uv I (eS z h2 G)
theorem LS{c x y:aF}{v:VV}(G:c.vv VE=some (.d (.b true)))(I:x.vv VE=some v)(J:Q v B):VI T (.pick c x y) VE B [] Q:=fun _ _ _ _ _ z=>by
 obtain⟨a,K,h2⟩:=z.b8 I
 obtain⟨t,O,A⟩:=z.b8 G
 simp only[aM,cN] at A
 subst A
 exact LH (t:=true) O K (eS z h2 J)
theorem LU{c x y:aF}{v:VV}(G:c.vv VE=some (.d (.b false)))(I:y.vv VE=some v)(J:Q v B):VI T (.pick c x y) VE B [] Q:=fun _ _ _ _ _ z=>by
 obtain⟨a,K,h2⟩:=z.b8 I
 obtain⟨t,O,A⟩:=z.b8 G
 simp only[aM,cN] at A
 subst A
 exact LH (t:=false) O K (eS z h2 J)
theorem Mv{op:BinOp}{x y:aF}{k A:IntKind}{a b:Int}{r:an}{v:VV}(I:x.vv VE=some (.d (.i k a)))(J:y.vv VE=some (.d (.i A b)))(h:iX op k a A b=some r)(K:sB r=some v)(O:Q v B):VI T (.bin op x y) VE B [] Q:=fun _ _ _ _ _ z=>by
 obtain⟨_,U,h2⟩:=z.b8 I
 obtain⟨_,Y,G⟩:=z.b8 J
 simp only[aM,cN] at h2 G
 subst h2;subst G
 exact xu U Y h (eS z (Gy K) O)
theorem OR{x y:aF}{a b:Int}(z:x.vv VE=some (.d (.i .i64 a)))(A:y.vv VE=some (.d (.i .i64 b)))(G:Q (.d (.b (decide (a<b)))) B):VI T (.bin .lss x y) VE B [] Q:=
 Mv z A (r:=.bool (lh a b)) rfl rfl (by rw[oZ];exact G)
theorem VZ{x y:aF}{a b:Int}(z:x.vv VE=some (.d (.i .i64 a)))(A:y.vv VE=some (.d (.i .i64 b)))(G: -9223372036854775808≤a+b)(h2:a+b≤9223372036854775807)(I:Q (.d (.i .i64 (a+b))) B):VI T (.bin .add x y) VE B [] Q:=
 Mv z A (r:=.int .i64 (mf .i64 (a+b))) rfl rfl (by
  have:mf .i64 (a+b)=a+b:=by rw[ng];exact wrap64 G h2
  rw[this];exact I)
theorem jH{x:aF}{b:Bool}(A:x.vv VE=some (.d (.b b)))(G:Q (.d (.b (!b))) B):VI T (.un .not x) VE B [] Q:=fun _ _ _ _ _ z=>by
 obtain⟨_,I,h2⟩:=z.b8 A
 simp only[aM,cN] at h2
 subst h2
 exact Ns I rfl (eS z (v:=.d (.b (!b))) (by simp only[aM,cN]) G)
theorem CM{k A:IntKind}{x:aF}{n:Int}(G:x.vv VE=some (.d (.i A n)))(I:Q (.d (.i k (k.wrap n))) B):VI T (.conv k x) VE B [] Q:=fun _ _ _ _ _ z=>by
 obtain⟨_,J,h2⟩:=z.b8 G
 simp only[aM,cN] at h2
 subst h2
 exact Tp J (eS z (v:=.d (.i k (k.wrap n))) (by simp only[aM,cN,ng]) I)
theorem Ak{x:aF}{rows:List (List DC)}(A:x.vv VE=some (.d (.sl rows)))(G:Q (.d (.i .i64 rows.length)) B):VI T (.len x) VE B [] Q:=fun _ _ _ _ _ z=>by
 obtain⟨_,I,h2⟩:=z.b8 A
 simp only[aM,cN] at h2
 obtain⟨f,g,off,es,rfl,_⟩:=h2
 exact Hg I (eS z (v:=.d (.i .i64 rows.length)) (by simp only[aM,cN]) G)
theorem CN{x:aF}(A:x.vv VE=some (.d .nil))(G:Q (.d (.i .i64 0)) B):VI T (.len x) VE B [] Q:=fun _ _ _ _ _ z=>by
 obtain⟨_,I,h2⟩:=z.b8 A
 simp only[aM,cN] at h2
 subst h2
 exact Ki I (eS z (v:=.d (.i .i64 0)) (by simp only[aM,cN]) G)
theorem UF{x:aF}{b n es:Nat}(A:x.vv VE=some (.bs b n es))(G:Q (.d (.i .i64 n)) B):VI T (.len x) VE B [] Q:=fun _ _ _ _ _ z=>by
 obtain⟨_,I,h2⟩:=z.b8 A
 simp only[aM] at h2
 subst h2
 exact Hg I (eS z (v:=.d (.i .i64 n)) (by simp only[aM,cN]) G)
theorem UG{x:aF}{l s:Nat}(A:x.vv VE=some (.d (.s l s)))(G:Q (.d (.i .i64 l)) B):VI T (.ph x) VE B [] Q:=fun _ _ _ _ _ z=>by
 obtain⟨_,I,h2⟩:=z.b8 A
 simp only[aM,cN] at h2
 subst h2
 exact LJ I (eS z (v:=.d (.i .i64 l)) (by simp only[aM,cN]) G)
theorem kR{x i:aF}{es j:Nat}{k:IntKind}{rows:List (List DC)}{row:List DC}(K:x.vv VE=some (.d (.sl rows)))(hi:i.vv VE=some (.d (.i k (j:Int))))(G:rows[j]?=some row)(O:row.length=es)(U:Q (.rp row 0) B):VI T (.dV es x i) VE B [] Q:=fun _ _ _ _ _ z=>by
 obtain⟨_,Y,h2⟩:=z.b8 K
 obtain⟨_,Z,A⟩:=z.b8 hi
 simp only[aM] at h2 A
 simp only[cN] at A
 subst A
 obtain⟨f,g,off,ff,rfl,hg⟩:=h2.slice
 obtain⟨k1,k2,Q1,l,k3,I,k5,J⟩:=hg G
 have e:ff=es:=by rw[←I,J.length,O]
 subst e
 refine KY Y Z (List.getElem?_eq_some_iff.1 G).1 (eS z (v:=.rp row 0) ?_ U)
 simp only[aM]
 exact⟨f,g,Q1,l,by rw[k5,I];rfl,k3,J,k1,k2⟩
theorem zS{x i:aF}{es b n j:Nat}{k:IntKind}(G:x.vv VE=some (.bs b n es))(hi:i.vv VE=some (.d (.i k (j:Int))))(I:j<n)(J:Q (.bp b n j 0 es) B):VI T (.dV es x i) VE B [] Q:=fun _ _ _ _ _ z=>by
 obtain⟨_,K,h2⟩:=z.b8 G
 obtain⟨_,O,A⟩:=z.b8 hi
 simp only[aM] at h2 A
 simp only[cN] at A
 subst A;subst h2
 exact KY K O I (eS z (v:=.bp b n j 0 es) (by simp only[aM];rw[jx,wx]) J)
theorem tS{x:aF}{row:List DC}{o k:Nat}(A:x.vv VE=some (.rp row o))(G:Q (.rp row (o+k)) B):VI T (.n5 x k) VE B [] Q:=fun _ _ _ _ _ z=>by
 obtain⟨_,I,h2⟩:=z.b8 A
 simp only[aM] at h2
 obtain⟨f,g,J,l,rfl,K⟩:=h2
 exact GY I (eS z (v:=.rp row (o+k)) (by simp only[aM];exact⟨f,g,J,l,by rw[mX],K⟩) G)
theorem dz{x:aF}{b o k:Nat}(A:x.vv VE=some (.vp b o))(G:Q (.vp b (o+k)) B):VI T (.n5 x k) VE B [] Q:=fun _ _ _ _ _ z=>by
 obtain⟨_,I,h2⟩:=z.b8 A
 simp only[aM] at h2
 subst h2
 exact GY I (eS z (v:=.vp b (o+k)) (by simp only[aM]) G)
theorem TC{x:aF}{b g j o es k:Nat}(A:x.vv VE=some (.bp b g j o es))(G:Q (.bp b g j (o+k) es) B):VI T (.n5 x k) VE B [] Q:=fun _ _ _ _ _ z=>by
 obtain⟨_,I,h2⟩:=z.b8 A
 simp only[aM] at h2
 subst h2
 exact GY I (eS z (v:=.bp b g j (o+k) es) (by simp only[aM];rw[mX]) G)
theorem UH{x:aF}{l:List VV}{i:Nat}{v:VV}(A:x.vv VE=some (.tuple l))(hi:l[i]?=some v)(G:Q v B):VI T (.rL x i) VE B [] Q:=fun _ _ _ _ _ z=>by
 obtain⟨_,I,h2⟩:=z.b8 A
 simp only[aM] at h2
 obtain⟨cs,rfl,h2⟩:=h2
 obtain⟨a,J,K⟩:=h2.get hi
 exact Tq I J (eS z K G)
end
end Go.Ev
