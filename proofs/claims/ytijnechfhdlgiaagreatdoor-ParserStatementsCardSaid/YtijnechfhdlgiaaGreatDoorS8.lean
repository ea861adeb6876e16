/- Part 8 of rules for walks through the code of a program, and of such walks; what each part proves is said by its theorems. -/
import Derived.Test.YtijnechfhdlgiaaGreatDoorS7
set_option linter.unusedVariables false
set_option linter.unusedSimpArgs false
noncomputable section
set_option maxRecDepth 100000
set_option maxHeartbeats 4000000
namespace Go.Ev
structure i6(H:aE)(X:Nat→Prop)(H':aE)(X':Nat→Prop):Prop where
 next:H.next≤H'.next
 same:∀f,f<H.next→¬X f→¬X' f∧H'.t.get f=H.t.get f
section
variable{H H':aE}{X X':Nat→Prop}
mutual
theorem cY.lift(z:i6 H X H' X'):∀{d:DC}{a:ax},cY H X d a→cY H' X' d a
 |.i _ _,_,h=>h
 |.b _,_,h=>h
 |.s _ _,_,h=>h
 |.nil,_,h=>h
 |.sl rows,a,h=>by
  simp only[cY] at h⊢
  obtain⟨f,g,off,es,I,h2⟩:=h
  exact⟨f,g,off,es,I,h2.imp id fun⟨G,A,q,ho,J⟩=>⟨(z.same f A G).1,m9 A z.next,q,ho,fT.lift z G A J⟩⟩
theorem fT.lift(z:i6 H X H' X'){f g es:Nat}(A:¬X f)(G:f<H.next):∀{q:Nat}{rows:List (List DC)},fT H X f g es q rows→fT H' X' f g es q rows
 |_,[],_=>trivial
 |q,row::r,h=>by
  simp only[fT] at h⊢
  obtain⟨⟨l,I,h2,J⟩,K⟩:=h
  exact⟨⟨l,I.jo (z.same f G A).2,h2,dn.lift z J⟩,fT.lift z A G K⟩
theorem dn.lift(z:i6 H X H' X'):∀{row:List DC}{l:List ax},dn H X row l→dn H' X' row l
 |[],_,h=>h
 |d::r,l,h=>by
  simp only[dn] at h⊢
  obtain⟨a,s,A,h2,G⟩:=h
  exact⟨a,s,A,cY.lift z h2,dn.lift z G⟩
end
end
inductive VV where
 |d (x:DC)
 |agg (l:List VV)
 |tuple (l:List VV)
 |vp (b off:Nat)
 |bp (b g q off es:Nat)
 |rp (row:List DC) (off:Nat)
 |bs (b n es:Nat)
 |ac (b n es:Nat)
 |fn (f:Nat) (ff:List VV)
 |k (a:ax)
 |jV
 |undef
inductive BS where
 |one (elem aV:Nat) (row:List VV)
 |arr (elem aV es lo:Nat) (rows:List (List DC))
 |acc (elem aV es:Nat) (rows:List (List DC))
def BS.born:BS→Prop
 |.acc _ _ _ rows=>rows≠[]
 |_=>True
abbrev cj:=List (Nat×VV)
abbrev bw:=List (Nat×BS)
def bf{α:Type}:List (Nat×α)→Nat→Option α
 |[],_=>none
 |(i,v)::r,k=>bif Nat.beq i k then some v else bf r k
theorem eM{α:Type}(i:Nat)(v:α)(r:List (Nat×α))(k:Nat):bf ((i,v)::r) k=if i=k then some v else bf r k:=by
 show(bif Nat.beq i k then some v else bf r k)=_
 by_cases h:i=k
 ·rw[az h,h,show Nat.beq k k=true from jl k];rfl
 rw[al h]
 cases z:Nat.beq i k
 ·rfl
 exact absurd (eH z) h
def iK{α:Type}:List (Nat×α)→Nat→List (Nat×α)
 |[],_=>[]
 |(i,v)::r,k=>bif Nat.beq i k then iK r k else(i,v)::iK r k
theorem wL{α:Type}(b k:Nat):∀l:List (Nat×α),bf (iK l b) k=if b=k then none else bf l k
 |[]=>by by_cases h:b=k<;>simp[iK,bf,h]
 |(i,v)::r=>by
  rw[eM]
  show bf (bif Nat.beq i b then iK r b else(i,v)::iK r b) k=_
  by_cases h:i=b
  ·subst h
   rw[show Nat.beq i i=true from jl i]
   show bf (iK r i) k=_
   rw[wL i k r]
   by_cases hk:i=k
   ·simp[hk]
   simp[hk]
  have z:Nat.beq i b=false:=by
   cases z:Nat.beq i b
   ·rfl
   exact absurd (eH z) h
  rw[z]
  show bf ((i,v)::iK r b) k=_
  rw[eM,wL b k r]
  by_cases hk:i=k
  ·subst hk;rw[az rfl,al (fun e=>h e.symm),az rfl]
  rw[al hk,al hk]
mutual
def aP(H:aE)(X:Nat→Prop)(β:Nat→Nat):VV→ax→Prop
 |.d x,a=>cY H X x a
 |.agg l,a=>∃cs,a= .agg cs∧bu H X β l cs
 |.tuple l,a=>∃cs,a= .tuple cs∧bu H X β l cs
 |.vp b off,a=>a= .ptr (β b) 1 off
 |.bp b g q off es,a=>a= .ptr (β b) g (q*es+off)
 |.rp row off,a=>∃f g Q l,a= .ptr f g (Q*l.length+off)∧mT H f g Q l∧dn H X row l∧¬X f∧f<H.next
 |.bs b n es,a=>a= .slice (β b) n 0 n es
 |.ac b n es,a=>(n=0∧a= .cB)∨(0<n∧a= .slice (β b) n 0 n es)
 |.fn f ff,a=>∃cs,a= .func f [] cs∧bu H X β ff cs
 |.k x,a=>a=x
 |.jV,a=>∃t x,a= .iface t x
 |.undef,_=>True
def bu(H:aE)(X:Nat→Prop)(β:Nat→Nat):List VV→List ax→Prop
 |[],l=>l=[]
 |v::r,l=>∃a s,l=a::s∧aP H X β v a∧bu H X β r s
end
mutual
def VV.nb:VV→Prop
 |.d _=>True
 |.agg l=>mL l
 |.tuple l=>mL l
 |.vp _ _=>False
 |.bp _ _ _ _ _=>False
 |.rp _ _=>True
 |.bs _ _ _=>False
 |.ac _ _ _=>False
 |.fn _ ff=>mL ff
 |.k _=>True
 |.jV=>True
 |.undef=>True
def mL:List VV→Prop
 |[]=>True
 |v::r=>v.nb∧mL r
end
mutual
def VV.no(b:Nat):VV→Bool
 |.d _=>true
 |.agg l=>pZ b l
 |.tuple l=>pZ b l
 |.vp c _=>!Nat.beq c b
 |.bp c _ _ _ _=>!Nat.beq c b
 |.rp _ _=>true
 |.bs c _ _=>!Nat.beq c b
 |.ac c _ _=>!Nat.beq c b
 |.fn _ ff=>pZ b ff
 |.k _=>true
 |.jV=>true
 |.undef=>true
def pZ(b:Nat):List VV→Bool
 |[]=>true
 |v::r=>v.no b&&pZ b r
end
def BS.no(b:Nat):BS→Bool
 |.one _ _ row=>pZ b row
 |.arr _ _ _ _ _=>true
 |.acc _ _ _ _=>true
def oe(b:Nat):cj→Bool
 |[]=>true
 |(_,v)::r=>v.no b&&oe b r
def mm(b:Nat):Bool:=Nat.ble 1000 b&&Nat.ble b 1049
def og(b:Nat):bw→Bool
 |[]=>!mm b
 |(c,s)::r=>!Nat.beq c b&&s.no b&&og b r
section
variable{H H':aE}{X X':Nat→Prop}{β β':Nat→Nat}
theorem pH{c b:Nat}(h:(!Nat.beq c b)=true):c≠b:=by
 rintro rfl
 rw[show Nat.beq c c=true from jl c] at h
 cases h
mutual
theorem aP.lift(z:i6 H X H' X'):∀{v:VV}{a:ax},aP H X β v a→aP H' X' β v a
 |.d x,_,h=>by simp only[aP] at h⊢;exact cY.lift z h
 |.agg l,_,h=>by
  simp only[aP] at h⊢
  obtain⟨cs,e,h⟩:=h
  exact⟨cs,e,bu.lift z h⟩
 |.tuple l,_,h=>by
  simp only[aP] at h⊢
  obtain⟨cs,e,h⟩:=h
  exact⟨cs,e,bu.lift z h⟩
 |.vp b off,_,h=>by simp only[aP] at h⊢;exact h
 |.bp b g q off es,_,h=>by simp only[aP] at h⊢;exact h
 |.rp row off,_,h=>by
  simp only[aP] at h⊢
  obtain⟨f,g,Q,l,e,I,h2,G,A⟩:=h
  exact⟨f,g,Q,l,e,I.jo (z.same f A G).2,dn.lift z h2,(z.same f A G).1,m9 A z.next⟩
 |.bs b n es,_,h=>by simp only[aP] at h⊢;exact h
 |.ac b n es,_,h=>by simp only[aP] at h⊢;exact h
 |.fn f ff,_,h=>by
  simp only[aP] at h⊢
  obtain⟨cs,e,h⟩:=h
  exact⟨cs,e,bu.lift z h⟩
 |.k x,_,h=>by simp only[aP] at h⊢;exact h
 |.jV,_,h=>by simp only[aP] at h⊢;exact h
 |.undef,_,_=>by simp only[aP]
theorem bu.lift(z:i6 H X H' X'):∀{l:List VV}{s:List ax},bu H X β l s→bu H' X' β l s
 |[],_,h=>by simp only[bu] at h⊢;exact h
 |v::r,_,h=>by
  simp only[bu] at h⊢
  obtain⟨a,s,e,A,h2⟩:=h
  exact⟨a,s,e,aP.lift z A,bu.lift z h2⟩
end
mutual
theorem aP.nb:∀{v:VV}{a:ax},v.nb→aP H X β v a→aP H X β' v a
 |.d x,_,_,h=>by simp only[aP] at h⊢;exact h
 |.agg l,_,n,h=>by
  simp only[aP,VV.nb] at h n⊢
  obtain⟨cs,e,h⟩:=h
  exact⟨cs,e,bu.nb n h⟩
 |.tuple l,_,n,h=>by
  simp only[aP,VV.nb] at h n⊢
  obtain⟨cs,e,h⟩:=h
  exact⟨cs,e,bu.nb n h⟩
 |.vp b off,_,n,_=>by simp only[VV.nb] at n
 |.bp b g q off es,_,n,_=>by simp only[VV.nb] at n
 |.rp row off,_,_,h=>by simp only[aP] at h⊢;exact h
 |.bs b m es,_,n,_=>by simp only[VV.nb] at n
 |.ac b m es,_,n,_=>by simp only[VV.nb] at n
 |.fn f ff,_,n,h=>by
  simp only[aP,VV.nb] at h n⊢
  obtain⟨cs,e,h⟩:=h
  exact⟨cs,e,bu.nb n h⟩
 |.k x,_,_,h=>by simp only[aP] at h⊢;exact h
 |.jV,_,_,h=>by simp only[aP] at h⊢;exact h
 |.undef,_,_,_=>by simp only[aP]
theorem bu.nb:∀{l:List VV}{s:List ax},mL l→bu H X β l s→bu H X β' l s
 |[],_,_,h=>by simp only[bu] at h⊢;exact h
 |v::r,_,n,h=>by
  simp only[bu,mL] at h n⊢
  obtain⟨a,s,e,z,h2⟩:=h
  exact⟨a,s,e,aP.nb n.1 z,bu.nb n.2 h2⟩
end
mutual
theorem aP.no{b f:Nat}:∀{v:VV}{a:ax},v.no b=true→aP H X β v a→aP H X (fun c=>if c=b then f else β c) v a
 |.d x,_,_,h=>by simp only[aP] at h⊢;exact h
 |.agg l,_,n,h=>by
  simp only[aP,VV.no] at h n⊢
  obtain⟨cs,e,h⟩:=h
  exact⟨cs,e,bu.no n h⟩
 |.tuple l,_,n,h=>by
  simp only[aP,VV.no] at h n⊢
  obtain⟨cs,e,h⟩:=h
  exact⟨cs,e,bu.no n h⟩
 |.vp c off,_,n,h=>by simp only[aP,VV.no] at h n⊢;rw[al (pH n)];exact h
 |.bp c g q off es,_,n,h=>by simp only[aP,VV.no] at h n⊢;rw[al (pH n)];exact h
 |.rp row off,_,_,h=>by simp only[aP] at h⊢;exact h
 |.bs c m es,_,n,h=>by simp only[aP,VV.no] at h n⊢;rw[al (pH n)];exact h
 |.ac c m es,_,n,h=>by simp only[aP,VV.no] at h n⊢;rw[al (pH n)];exact h
 |.fn f ff,_,n,h=>by
  simp only[aP,VV.no] at h n⊢
  obtain⟨cs,e,h⟩:=h
  exact⟨cs,e,bu.no n h⟩
 |.k x,_,_,h=>by simp only[aP] at h⊢;exact h
 |.jV,_,_,h=>by simp only[aP] at h⊢;exact h
 |.undef,_,_,_=>by simp only[aP]
theorem bu.no{b f:Nat}:∀{l:List VV}{s:List ax},pZ b l=true→bu H X β l s→bu H X (fun c=>if c=b then f else β c) l s
 |[],_,_,h=>by simp only[bu] at h⊢;exact h
 |v::r,_,n,h=>by
  simp only[bu,pZ,fE] at h n⊢
  obtain⟨a,s,e,z,h2⟩:=h
  exact⟨a,s,e,aP.no n.1 z,bu.no n.2 h2⟩
end
theorem bu.length:∀{l:List VV}{s:List ax},bu H X β l s→s.length=l.length
 |[],_,h=>by simp only[bu] at h;subst h;rfl
 |v::r,_,h=>by
  simp only[bu] at h
  obtain⟨a,s,rfl,_,h2⟩:=h
  simp[bu.length h2]
theorem bu.get:∀{l:List VV}{s:List ax},bu H X β l s→∀{i:Nat}{v:VV},l[i]?=some v→∃a,s[i]?=some a∧aP H X β v a
 |[],_,_,i,v,hi=>by simp at hi
 |x::r,_,h,i,v,hi=>by
  simp only[bu] at h
  obtain⟨a,s,rfl,z,h2⟩:=h
  cases i with
  |zero=>simp at hi;subst hi;exact⟨a,rfl,z⟩
  |succ i=>simpa using bu.get h2 (i:=i) (v:=v) (by simpa using hi)
theorem bu.append:∀{l m:List VV}{s t:List ax},bu H X β l s→bu H X β m t→bu H X β (l++m) (s++t)
 |[],_,_,_,h,k=>by simp only[bu] at h;subst h;exact k
 |x::r,_,_,_,h,k=>by
  simp only[bu] at h
  obtain⟨a,s,rfl,z,h2⟩:=h
  simp only[As,bu]
  exact⟨a,_,rfl,z,bu.append h2 k⟩
theorem bu.drop:∀{l:List VV}{s:List ax}(n:Nat),bu H X β l s→bu H X β (l.drop n) (s.drop n)
 |_,_,0,h=>h
 |[],_,n+1,h=>by simp only[bu] at h;subst h;simp[bu]
 |x::r,_,n+1,h=>by
  simp only[bu] at h
  obtain⟨a,s,rfl,_,h2⟩:=h
  simpa using bu.drop n h2
theorem bu.take:∀{l:List VV}{s:List ax}(n:Nat),bu H X β l s→bu H X β (l.take n) (s.take n)
 |_,_,0,h=>by simp[bu]
 |[],_,n+1,h=>by simp only[bu] at h;subst h;simp[bu]
 |x::r,_,n+1,h=>by
  simp only[bu] at h
  obtain⟨a,s,rfl,z,h2⟩:=h
  simp only[xb,bu]
  exact⟨a,_,rfl,z,bu.take n h2⟩
theorem bu.uR:∀{row:List DC}{l:List ax},dn H X row l→bu H X β (row.map .d) l
 |[],_,h=>by simp only[dn] at h;subst h;simp[bu]
 |d::r,_,h=>by
  simp only[dn] at h
  obtain⟨a,s,rfl,z,h2⟩:=h
  simp only[e7,bu,aP]
  exact⟨a,s,rfl,z,bu.uR h2⟩
theorem dn.Bp:∀{row:List DC}{l:List ax},bu H X β (row.map .d) l→dn H X row l
 |[],_,h=>by simpa[bu,dn] using h
 |d::r,_,h=>by
  simp only[e7,bu,aP] at h
  obtain⟨a,s,rfl,z,h2⟩:=h
  simp only[dn]
  exact⟨a,s,rfl,z,dn.Bp h2⟩
end
def XB(X0:Nat→Prop)(B:bw)(β:Nat→Nat)(f:Nat):Prop:=X0 f∨∃b s,bf B b=some s∧s.born∧β b=f
def iq(H:aE)(X:Nat→Prop)(β:Nat→Nat)(f:Nat):BS→Prop
 |.one elem aV row=>∃l lo cs,H.t.get f=some (.row elem l.length aV 1 lo 0 cs)∧lo≤1∧cs.get 0=some l∧bu H X β row l
 |.arr elem aV es lo rows=>∃z cs,H.t.get f=some (.row elem es aV rows.length z 0 cs)∧z≤lo∧lo≤rows.length∧∀q row,rows[q]?=some row→∃l,cs.get q=some l∧l.length=es∧dn H X row l
 |.acc elem aV es rows=>rows=[]∨∃lo cs,H.t.get f=some (.row elem es aV rows.length lo 0 cs)∧lo≤rows.length∧∀q row,rows[q]?=some row→∃l,cs.get q=some l∧l.length=es∧dn H X row l
theorem MC{b:Nat}:∀{B:bw},og b B=true→mm b=false
 |[],h=>by simpa[og] using h
 |(_,_)::r,h=>by
  simp only[og,fE] at h
  exact MC h.2
structure Rel(H0:Nat→Nat)(X0:Nat→Prop)(VE:cj)(B:bw)(E:Env)(H:aE)(β:Nat→Nat):Prop where
 o9:∀b,mm b=true→β b=H0 b
 bj:H.bj≤H.next
 x0:∀f,X0 f→f<H.next
 new:∀b s,bf B b=some s→s.born→¬X0 (β b)∧β b<H.next
 inj:∀b c s t,bf B b=some s→bf B c=some t→s.born→t.born→β b=β c→b=c
 env:∀k v,bf VE (Key.n k)=some v→∃a,E.get k=some a∧aP H (XB X0 B β) β v a
 box:∀b s,bf B b=some s→iq H (XB X0 B β) β (β b) s
theorem iq.lift{H H':aE}{X X':Nat→Prop}{β:Nat→Nat}(I:i6 H X H' X'){f:Nat}(J:H'.t.get f=H.t.get f):∀{s:BS},iq H X β f s→iq H' X' β f s
 |.one _ _ _,h=>by
  obtain⟨l,lo,cs,A,h2,K,G⟩:=h
  exact⟨l,lo,cs,J.trans A,h2,K,bu.lift I G⟩
 |.arr _ _ _ _ _,h=>by
  obtain⟨z,cs,A,h2,K,G⟩:=h
  refine⟨z,cs,J.trans A,h2,K,fun q row O=>?_⟩
  obtain⟨l,U,Y,Z⟩:=G q row O
  exact⟨l,U,Y,dn.lift I Z⟩
 |.acc _ _ _ _,h=>by
  rcases h with h|⟨z,cs,A,h2,G⟩
  ·exact .inl h
  refine .inr ⟨z,cs,J.trans A,h2,fun q row O=>?_⟩
  obtain⟨l,U,Y,Z⟩:=G q row O
  exact⟨l,U,Y,dn.lift I Z⟩
theorem iq.Xe{H:aE}{X:Nat→Prop}{β:Nat→Nat}{f:Nat}:∀{s:BS},¬s.born→iq H X β f s
 |.one _ _ _,h=>absurd trivial h
 |.arr _ _ _ _ _,h=>absurd trivial h
 |.acc _ _ _ rows,h=>.inl (by
  cases rows with
  |nil=>rfl
  |cons x r=>exact absurd (fun e:x::r=[]=>by cases e) h)
theorem iq.xh{H H':aE}{X X':Nat→Prop}{β:Nat→Nat}(A:i6 H X H' X'){f:Nat}{s:BS}(G:s.born→H'.t.get f=H.t.get f)(h:iq H X β f s):iq H' X' β f s:=by
 by_cases z:s.born
 ·exact h.lift A (G z)
 exact .Xe z
section
variable{T:bd}{H0:Nat→Nat}{X0:Nat→Prop}{VE:cj}{B:bw}{E:Env}{H:aE}{β:Nat→Nat}
theorem Rel.grow(h:Rel H0 X0 VE B E H β){H':aE}(A:H.next≤H'.next)(I:∀f,f<H.next→H'.t.get f=H.t.get f)(K:H'.bj≤H'.next):Rel H0 X0 VE B E H' β:=by
 have J:i6 H (XB X0 B β) H' (XB X0 B β):=⟨A,fun f G O=>⟨O,I f G⟩⟩
 refine⟨h.o9,K,fun f G=>m9 (h.x0 f G) A,fun b s z ho=>⟨(h.new b s z ho).1,m9 (h.new b s z ho).2 A⟩,h.inj,fun k v hk=>?_,fun b s z=>(h.box b s z).xh J fun ho=>I _ (h.new b s z ho).2⟩
 obtain⟨a,U,h2⟩:=h.env k v hk
 exact⟨a,U,h2.lift J⟩
theorem Rel.set(h:Rel H0 X0 VE B E H β){d:Key}{v:VV}{a:ax}(z:aP H (XB X0 B β) β v a):Rel H0 X0 ((d.n,v)::VE) B (E.set d a) H β:=by
 refine{h with env:=fun k w hk=>?_}
 rw[eM] at hk
 rw[T4.eY]
 by_cases e:d.n=k.n
 ·rw[az e] at hk
  cases hk
  exact⟨a,by rw[az (Key.inj e).symm],z⟩
 rw[al e] at hk
 rw[al (fun A=>e (by rw[A]))]
 exact h.env k w hk
theorem Rel.less(h:Rel H0 X0 VE B E H β){eB:cj}(z:∀k v,bf eB k=some v→bf VE k=some v):Rel H0 X0 eB B E H β:=
 {h with env:=fun k v hk=>h.env k v (z _ v hk)}
theorem Rel.drop(h:Rel H0 X0 VE B E H β)(b:Nat):Rel H0 X0 VE (iK B b) E H β:=by
 have A:∀c s,bf (iK B b) c=some s→bf B c=some s∧b≠c:=fun c s z=>by
  rw[wL] at z
  by_cases e:b=c
  ·rw[az e] at z;cases z
  rw[al e] at z;exact⟨z,e⟩
 have I:i6 H (XB X0 B β) H (XB X0 (iK B b) β):=⟨bR _,fun f _ J=>⟨fun k=>J (k.imp id fun⟨c,s,G,h2⟩=>⟨c,s,(A c s G).1,h2⟩),rfl⟩⟩
 refine⟨h.o9,h.bj,h.x0,fun c s z ho=>h.new c s (A c s z).1 ho,fun c e s t z he K O=>h.inj c e s t (A c s z).1 (A e t he).1 K O,fun k v hk=>?_,fun c s z=>(h.box c s (A c s z).1).lift I rfl⟩
 obtain⟨a,G,h2⟩:=h.env k v hk
 exact⟨a,G,h2.lift I⟩
theorem Eh{b:Nat}:∀{VE:cj},oe b VE=true→∀{k:Nat}{v:VV},bf VE k=some v→v.no b=true
 |[],_,_,_,h=>by cases h
 |(i,w)::r,z,k,v,h=>by
  simp only[oe,fE] at z
  rw[eM] at h
  by_cases e:i=k
  ·rw[az e] at h;cases h;exact z.1
  rw[al e] at h;exact Eh z.2 h
theorem Nk{b:Nat}:∀{B:bw},og b B=true→∀{c:Nat}{s:BS},bf B c=some s→c≠b∧s.no b=true
 |[],_,_,_,h=>by cases h
 |(i,w)::r,z,c,s,h=>by
  simp only[og,fE] at z
  rw[eM] at h
  by_cases e:i=c
  ·rw[az e] at h;cases h;exact⟨e▸pH z.1.1,z.1.2⟩
  rw[al e] at h;exact Nk z.2 h
theorem Rel.Xf(h:Rel H0 X0 VE B E H β){b:Nat}(hE:oe b VE=true)(hB:og b B=true){H':aE}(hn:H'.next=H.next+1)(hs:∀f,f<H.next→H'.t.get f=H.t.get f)(hm:H'.bj=H.bj){s:BS}
  (Jw:∀X β',(∀v a,v.no b=true→aP H (XB X0 B β) β v a→aP H' X β' v a)→(∀row l,dn H (XB X0 B β) row l→dn H' X row l)→iq H' X β' H.next s):
  ∃β',(β' b=H.next∧∀c,c≠b→β' c=β c)∧Rel H0 X0 VE ((b,s)::B) E H' β'∧∀v a,v.no b=true→aP H (XB X0 B β) β v a→aP H' (XB X0 ((b,s)::B) β') β' v a:=by
 let β':Nat→Nat:=fun c=>if c=b then H.next else β c
 have I:β' b=H.next:=az rfl
 have z:∀c,c≠b→β' c=β c:=fun c A=>al A
 have hg:∀c t,bf ((b,s)::B) c=some t→(c=b∧t=s)∨(c≠b∧bf B c=some t∧t.no b=true):=fun c t A=>by
  rw[eM] at A
  by_cases e:b=c
  ·rw[az e] at A;cases A;exact .inl ⟨e.symm,rfl⟩
  rw[al e] at A
  exact .inr ⟨fun k=>e k.symm,A,(Nk hB A).2⟩
 have hl:i6 H (XB X0 B β) H' (XB X0 ((b,s)::B) β'):=⟨ah,fun f hf hx=>⟨fun k=>by
  rcases k with k|⟨c,t,h1,ho,h2⟩
  ·exact hx (.inl k)
  rcases hg c t h1 with⟨rfl,rfl⟩|⟨A,O,_⟩
  ·rw[I] at h2;omega
  exact hx (.inr ⟨c,t,O,ho,by rw[←h2,z c A]⟩),hs f hf⟩⟩
 have hv:∀v a,v.no b=true→aP H (XB X0 B β) β v a→aP H' (XB X0 ((b,s)::B) β') β' v a:=fun v a Z hr=>(aP.no Z hr).lift hl
 have A:∀row l,dn H (XB X0 B β) row l→dn H' (XB X0 ((b,s)::B) β') row l:=fun row l hr=>hr.lift hl
 refine⟨β',⟨I,z⟩,⟨(fun c A=>(z c fun e=>by rw[e,MC hB] at A;cases A).trans (h.o9 c A)),by have:=h.bj;omega,(fun f hf=>by have:=h.x0 f hf;omega),fun c t K U=>?_,fun c e t u K J8 U Da Y=>?_,fun k v hk=>?_,fun c t K=>?_⟩,hv⟩
 ·rcases hg c t K with⟨rfl,rfl⟩|⟨J,O,_⟩
  ·rw[I];exact⟨(fun hx=>by have:=h.x0 _ hx;omega),ah⟩
  rw[z c J];have:=h.new c t O U;exact⟨this.1,ah⟩
 ·rcases hg c t K with⟨rfl,rfl⟩|⟨J,O,_⟩<;>rcases hg e u J8 with⟨rfl,rfl⟩|⟨Db,h4,_⟩
  ·rfl
  ·rw[I,z e Db] at Y;have:=h.new e u h4 Da;omega
  ·rw[I,z c J] at Y;have:=h.new c t O U;omega
  rw[z c J,z e Db] at Y;exact h.inj c e t u O h4 U Da Y
 ·obtain⟨a,h1,h2⟩:=h.env k v hk
  exact⟨a,h1,hv v a (Eh hE hk) h2⟩
 rcases hg c t K with⟨rfl,rfl⟩|⟨J,O,Z⟩
 ·rw[I];exact Jw _ _ hv A
 rw[z c J]
 have ho:=h.box c t O
 have G:t.born→H'.t.get (β c)=H.t.get (β c):=fun ho=>hs _ (h.new c t O ho).2
 cases t with
 |one elem aV row=>
  obtain⟨l,lo,cs,k1,k2,k3,k4⟩:=ho
  exact⟨l,lo,cs,(G trivial).trans k1,k2,k3,(bu.no Z k4).lift hl⟩
 |arr elem aV es lo rows=>exact iq.xh (X:=XB X0 B β) (β:=β') hl G ho
 |acc elem aV es rows=>exact iq.xh (X:=XB X0 B β) (β:=β') hl G ho
end
section
variable{T:bd}
theorem jq.mono{op:bP}{E:Env}{H:aE}{Q z:ax→aE→Prop}(h:jq T op E H Q)(k:∀v H',Q v H'→z v H'):jq T op E H z:=
 let⟨N,v,H',a,b⟩:=h;⟨N,v,H',a,k _ _ b⟩
theorem o8.mono{ops:List bA}{E:Env}{H:aE}{Q z:Env→aE→Prop}(h:o8 T ops E H Q)(k:∀v H',Q v H'→z v H'):o8 T ops E H z:=
 let⟨N,v,H',a,b⟩:=h;⟨N,v,H',a,k _ _ b⟩
theorem C9.mono{ops:List bA}{E:Env}{H:aE}{r:List FP}{Q z:Env→aE→Prop}(h:C9 T ops E H r Q)(k:∀v H',Q v H'→z v H'):C9 T ops E H r z:=
 let⟨N,v,H',a,b⟩:=h;⟨N,v,H',a,k _ _ b⟩
structure jg(B:bw)(β:Nat→Nat)(H:aE)(W:Nat→Prop)(B':bw)(β':Nat→Nat)(H':aE):Prop where
 bj:H'.bj=H.bj
 next:H.next≤H'.next
 ws:∀f,f∈H'.ws→f∈H.ws∨(f<H.bj∧∃b s,W b∧bf B b=some s∧s.born∧β b=f)
 since:∀b s,bf B' b=some s→s.born→(∃t,bf B b=some t∧t.born∧β' b=β b)∨H.next≤β' b
 sP:∀f,f<H.next→(∀b s,bf B b=some s→s.born→β b≠f)→H'.t.get f=H.t.get f
theorem jg.refl{B:bw}{β:Nat→Nat}{H:aE}{W:Nat→Prop}:jg B β H W B β H:=
 ⟨rfl,bR _,fun _ h=>.inl h,fun _ s z h2=>.inl ⟨s,z,h2,rfl⟩,fun _ _ _=>rfl⟩
theorem jg.dW{B B':bw}{β β':Nat→Nat}{H H':aE}{W z:Nat→Prop}(h:jg B β H W B' β' H')(k:∀b,W b→z b):jg B β H z B' β' H':=
 ⟨h.bj,h.next,fun f A=>(h.ws f A).imp id fun⟨a,b,s,c,d⟩=>⟨a,b,s,k b c,d⟩,h.since,h.sP⟩
theorem jg.more{B J B':bw}{β β':Nat→Nat}{H H':aE}{W:Nat→Prop}(h:jg J β H W B' β' H')(k:∀b s,bf J b=some s→s.born→∃t,bf B b=some t∧t.born):jg B β H W B' β' H':=
 ⟨h.bj,h.next,fun f G=>(h.ws f G).imp id fun⟨a,b,s,c,d,e,g⟩=>by obtain⟨t,z,A⟩:=k b s d e;exact⟨a,b,t,c,z,A,g⟩,
  fun b s I h2=>(h.since b s I h2).imp (fun⟨t,a,c,d⟩=>by obtain⟨u,z,A⟩:=k b t a c;exact⟨u,z,A,d⟩) id,
  fun f G K=>h.sP f G fun b s I h2=>by obtain⟨t,z,A⟩:=k b s I h2;exact K b t z A⟩
theorem jg.I3{B z B':bw}{β β':Nat→Nat}{H H':aE}{W:Nat→Prop}(h:jg B β H W z β' H')(k:∀b s,bf B' b=some s→s.born→∃t,bf z b=some t∧t.born):jg B β H W B' β' H':=
 ⟨h.bj,h.next,h.ws,fun b s A h2=>by obtain⟨t,G,I⟩:=k b s A h2;exact h.since b t G I,h.sP⟩
theorem jg.trans{B J K:bw}{β A G:Nat→Nat}{H H1 O:aE}{W Z:Nat→Prop}(h:jg B β H W J A H1)(k:jg J A H1 Z K G O)(hm:H.bj≤H.next):jg B β H (fun _=>True) K G O:=by
 refine⟨k.bj.trans h.bj,kx h.next k.next,fun f z=>?_,fun b s I h2=>?_,fun f z U=>?_⟩
 ·rcases k.ws f z with z|⟨a,b,s,_,c,d,e⟩
  ·rcases h.ws f z with z|⟨a,b,s,_,c,d,e⟩
   ·exact .inl z
   exact .inr ⟨a,b,s,trivial,c,d,e⟩
  rw[h.bj] at a
  rcases h.since b s c d with⟨t,Y,k2,k3⟩|Y
  ·exact .inr ⟨a,b,t,trivial,Y,k2,by rw[←k3,e]⟩
  omega
 ·rcases k.since b s I h2 with⟨t,a,c,d⟩|a
  ·rcases h.since b t a c with⟨u,a',c',d'⟩|a'
   ·exact .inl ⟨u,a',c',d.trans d'⟩
   exact .inr (by rw[d];exact a')
  exact .inr (kx h.next a)
 rw[k.sP f (m9 z h.next) fun b s I h2 he=>?_,h.sP f z U]
 rcases h.since b s I h2 with⟨t,a,c,d⟩|a
 ·exact U b t a c (by rw[←d];exact he)
 omega
def zQ(H0:Nat→Nat)(X0:Nat→Prop)(VE:cj)(B:bw)(β:Nat→Nat)(E:Env)(H:aE)(W:List Nat)(Q:VV→bw→Prop)(a:ax)(H':aE):Prop:=
 ∃v B' β',jg B β H (· ∈W) B' β' H'∧Rel H0 X0 VE B' E H' β'∧aP H' (XB X0 B' β') β' v a∧Q v B'
def VI(T:bd)(op:bP)(VE:cj)(B:bw)(W:List Nat)(Q:VV→bw→Prop):Prop:=
 ∀H0 X0 E H β,Rel H0 X0 VE B E H β→jq T op E H (zQ H0 X0 VE B β E H W Q)
def tM(H0:Nat→Nat)(X0:Nat→Prop)(B:bw)(β:Nat→Nat)(H:aE)(Q:cj→bw→Prop)(E':Env)(H':aE):Prop:=
 ∃eB B' β',jg B β H (fun _=>True) B' β' H'∧Rel H0 X0 eB B' E' H' β'∧Q eB B'
def VO(T:bd)(ops:List bA)(VE:cj)(B:bw)(Q:cj→bw→Prop):Prop:=
 ∀H0 X0 E H β,Rel H0 X0 VE B E H β→o8 T ops E H (tM H0 X0 B β H Q)
inductive FL where
 |rd (R:List Nat)
 |qt
 |un
def vV(n:Nat)(B:bw)(β:Nat→Nat):FL→FP→Prop
 |.rd R,r=>r.ws=[]∧r.lo=r.hi∧∃l,r.rd=some l∧∀f,f∈l→f<n∧∀b s,bf B b=some s→s.born→β b=f→b∈R
 |.qt,r=>r.ws=[]
 |.un,_=>True
def wm(n:Nat)(B:bw)(β:Nat→Nat)(fl:List FL)(b9:List FP):Prop:=
 b9.length=fl.length∧∀(i:Nat)x r,fl[i]?=some x→b9[i]?=some r→vV n B β x r
theorem vV.step{B B':bw}{β β':Nat→Nat}{H H':aE}{W:Nat→Prop}(G:jg B β H W B' β' H'):∀{x:FL}{r:FP},vV H.next B β x r→vV H'.next B' β' x r
 |.rd R,r,⟨I,h2,l,J,z⟩=>⟨I,h2,l,J,fun f A=>⟨m9 (z f A).1 G.next,fun b s K O U=>by
  rcases G.since b s K O with⟨t,a,c,d⟩|a
  ·exact(z f A).2 b t a c (by rw[←d];exact U)
  have:=(z f A).1;omega⟩⟩
 |.qt,r,h=>h
 |.un,r,_=>trivial
theorem wm.step{B B':bw}{β β':Nat→Nat}{H H':aE}{W:Nat→Prop}{fl:List FL}{b9:List FP}(z:jg B β H W B' β' H')(h:wm H.next B β fl b9):wm H'.next B' β' fl b9:=
 ⟨h.1,fun i x r A h2=>(h.2 i x r A h2).step z⟩
theorem wm.cons{n:Nat}{B:bw}{β:Nat→Nat}{fl:List FL}{b9:List FP}{x:FL}{r:FP}(h:wm n B β fl b9)(k:vV n B β x r):wm n B β (x::fl) (r::b9):=
 ⟨by simp[h.1],fun i y z A h2=>by
  cases i with
  |zero=>simp at A h2;subst A;subst h2;exact k
  |succ i=>exact h.2 i y z (by simpa using A) (by simpa using h2)⟩
def VQ(T:bd)(ops:List bA)(VE:cj)(B:bw)(fl:List FL)(Q:cj→bw→Prop):Prop:=
 ∀H0 X0 E H β,Rel H0 X0 VE B E H β→∀b9:List FP,wm H.next B β fl b9→C9 T ops E H b9 (tM H0 X0 B β H Q)
def VC(T:bd)(c:IC)(VE:cj)(B:bw)(Q:Ex→cj→bw→Prop):Prop:=
 ∀H0 X0 E H β,Rel H0 X0 VE B E H β→l9 T c E H fun x=>tM H0 X0 B β H (Q x)
variable{VE eB:cj}{B B':bw}
theorem tM.of{H0:Nat→Nat}{X0:Nat→Prop}{H H1:aE}{A:bw}{β z:Nat→Nat}{W:Nat→Prop}{Q:cj→bw→Prop}{E':Env}{H':aE}(h:tM H0 X0 A z H1 Q E' H')(G:jg B β H W A z H1)(I:H.bj≤H.next):tM H0 X0 B β H Q E' H':=by
 obtain⟨eB,B',β',J,h2,K⟩:=h
 exact⟨eB,B',β',G.trans J I,h2,K⟩
variable{Q:cj→bw→Prop}{W:List Nat}
theorem aX(h:Q VE B):VO T [] VE B Q:=fun _ _ _ _ β z=>VT ⟨VE,B,β,.refl,z,h⟩
theorem aj{d:Key}{G:Option (List Nat)}{op:bP}{r:List bA}(h:VI T op VE B W fun v B'=>VO T r ((d.n,v)::VE) B' Q):VO T (⟨some d,none,G,op⟩::r) VE B Q:=by
 intro H0 X0 E H β A
 refine MA ((h H0 X0 E H β A).mono fun a H' hp=>?_)
 obtain⟨v,B',β',I,z,J,K⟩:=hp
 exact(K H0 X0 _ H' β' (z.set J)).mono fun _ _ hp=>hp.of I A.bj
theorem Ir{G:Option (List Nat)}{op:bP}{r:List bA}(h:VI T op VE B W fun _ B'=>VO T r VE B' Q):VO T (⟨none,none,G,op⟩::r) VE B Q:=by
 intro H0 X0 E H β A
 refine T3 ((h H0 X0 E H β A).mono fun a H' hp=>?_)
 obtain⟨v,B',β',I,z,K,J⟩:=hp
 exact(J H0 X0 _ H' β' z).mono fun _ _ hp=>hp.of I A.bj
theorem Rel.bool{H0:Nat→Nat}{X0:Nat→Prop}{E:Env}{H:aE}{β:Nat→Nat}(z:Rel H0 X0 VE B E H β){g:Key}{t:Bool}(A:bf VE g.n=some (.d (.b t))):E.get g=some (.bool t):=by
 obtain⟨a,G,h2⟩:=z.env g _ A
 simp only[aP,cY] at h2
 rw[G,h2]
theorem eJ{d g:Key}{want t:Bool}{A:Option (List Nat)}{op:bP}{r:List bA}(G:bf VE g.n=some (.d (.b t)))(I:t=!want)(h:VO T r ((d.n,.undef)::VE) B Q):VO T (⟨some d,some (g,want),A,op⟩::r) VE B Q:=by
 intro H0 X0 E H β z
 refine MB (z.bool G) (by rw[I];cases want<;>decide) ?_
 exact h H0 X0 _ H β (z.set (by simp only[aP]))
theorem VZ{d g:Key}{want:Bool}{G:Option (List Nat)}{op:bP}{r:List bA}(I:bf VE g.n=some (.d (.b want)))(h:VI T op VE B W fun v B'=>VO T r ((d.n,v)::VE) B' Q):VO T (⟨some d,some (g,want),G,op⟩::r) VE B Q:=by
 intro H0 X0 E H β z
 refine UL (z.bool I) ((h H0 X0 E H β z).mono fun a H' hp=>?_)
 obtain⟨v,B',β',J,A,K,O⟩:=hp
 exact(O H0 X0 _ H' β' (A.set K)).mono fun _ _ hp=>hp.of J z.bj
theorem tM.more{H0:Nat→Nat}{X0:Nat→Prop}{H:aE}{z:bw}{β:Nat→Nat}{Q:cj→bw→Prop}{E':Env}{H':aE}(h:tM H0 X0 z β H Q E' H')(k:∀b s,bf z b=some s→s.born→∃t,bf B b=some t∧t.born):tM H0 X0 B β H Q E' H':=by
 obtain⟨eB,B',β',A,h2,G⟩:=h
 exact⟨eB,B',β',A.more k,h2,G⟩
theorem MD{b:Nat}:∀c s,bf (iK B b) c=some s→s.born→∃t,bf B c=some t∧t.born:=fun c s z h2=>by
 rw[wL] at z
 split at z
 ·cases z
 exact⟨s,z,h2⟩
theorem ow{fl:List FL}(h:Q VE B):VQ T [] VE B fl Q:=fun _ _ _ _ β z _ _=>⟨0,_,_,fun _ _ _ _=>rfl,VE,B,β,.refl,z,h⟩
theorem bG{fl:List FL}{d:Key}{op:bP}{r:List bA}(h:VI T op VE B W fun v B'=>VQ T r ((d.n,v)::VE) B' fl Q):VQ T (⟨some d,none,none,op⟩::r) VE B fl Q:=by
 intro H0 X0 E H β A b9 I
 obtain⟨N,a,H',e,v,B',β',G,z,J,K⟩:=h H0 X0 E H β A
 obtain⟨O,U,Y,e2,hp⟩:=K H0 X0 _ H' β' (z.set J) b9 (I.step G)
 refine⟨max N O,U,Y,fun lf n Z a2=>?_,hp.of G A.bj⟩
 show bA.nT (T.call lf n) ⟨some d,none,none,op⟩ E H b9 (mz (T.call lf n) r)=_
 rw[AV,Lm rfl,e lf n ah ah,D0]
 exact e2 lf n ah ah
theorem V0{fl:List FL}{d g:Key}{want:Bool}{op:bP}{r:List bA}(I:bf VE g.n=some (.d (.b want)))(h:VI T op VE B W fun v B'=>VQ T r ((d.n,v)::VE) B' fl Q):VQ T (⟨some d,some (g,want),none,op⟩::r) VE B fl Q:=by
 intro H0 X0 E H β z b9 J
 obtain⟨N,a,H',e,v,B',β',G,A,K,O⟩:=h H0 X0 E H β z
 obtain⟨U,Y,Z,e2,hp⟩:=O H0 X0 _ H' β' (A.set K) b9 (J.step G)
 refine⟨max N U,Y,Z,fun lf n a1 a2=>?_,hp.of G z.bj⟩
 show bA.nT (T.call lf n) ⟨some d,some (g,want),none,op⟩ E H b9 (mz (T.call lf n) r)=_
 rw[DA (z.bool I),az rfl,Lm rfl,e lf n ah ah,D0]
 exact e2 lf n ah ah
theorem dh{fl:List FL}{d g:Key}{want t:Bool}{op:bP}{r:List bA}(A:bf VE g.n=some (.d (.b t)))(G:t=!want)(h:VQ T r ((d.n,.undef)::VE) B fl Q):VQ T (⟨some d,some (g,want),none,op⟩::r) VE B fl Q:=by
 intro H0 X0 E H β z b9 I
 obtain⟨J,K,O,e2,hp⟩:=h H0 X0 _ H β (z.set (d:=d) (v:=.undef) (a:=.undef) (by simp only[aP])) b9 I
 refine⟨J,K,O,fun lf n U Y=>?_,hp⟩
 show bA.nT (T.call lf n) ⟨some d,some (g,want),none,op⟩ E H b9 (mz (T.call lf n) r)=_
 rw[DA (z.bool A),al (by rw[G];cases want<;>decide)]
 exact e2 lf n U Y
theorem ji{fl:List FL}{d g:Key}{want t:Bool}{l:List Nat}{op:bP}{r:List bA}(A:bf VE g.n=some (.d (.b t)))(G:t=!want)(h:VQ T r ((d.n,.undef)::VE) B (.rd []::fl) Q):VQ T (⟨some d,some (g,want),some l,op⟩::r) VE B fl Q:=by
 intro H0 X0 E H β z b9 I
 obtain⟨J,K,O,e2,hp⟩:=h H0 X0 _ H β (z.set (d:=d) (v:=.undef) (a:=.undef) (by simp only[aP])) (⟨some [],[],0,0⟩::b9) (I.cons ⟨rfl,rfl,[],rfl,fun f h=>by cases h⟩)
 refine⟨J,K,O,fun lf n U Y=>?_,hp⟩
 show bA.nT (T.call lf n) ⟨some d,some (g,want),some l,op⟩ E H b9 (mz (T.call lf n) r)=_
 rw[DA (z.bool A),al (by rw[G];cases want<;>decide)]
 exact e2 lf n U Y
theorem AW{call:fc}{E:Env}{H:aE}{d:Option Key}{g:Option (Key×Bool)}{l:List Nat}{op:bP}{b9:List FP}{K:Env→aE→List FP→e9}{v:ax}{H1:aE}(h:op.ev call E H.mark= .ok v H1)(G:qd ⟨op.reads E,H1.ws,H.next,H1.next⟩ b9 l=true):
  bA.qQ call ⟨d,g,some l,op⟩ E H b9 K=K (kP E d v) ⟨H1.next,H.bj,pz H.bj H.ws H1.ws,H1.t⟩ (⟨op.reads E,H1.ws,H.next,H1.next⟩::b9):=by
 cases H with
 |mk next bj ws t=>cases H1 with
  |mk next' A z t'=>
   show dz next (fun next=>Ad (op.reads E) l next bj ws b9 d E K (op.ev call E ⟨next,next,[],t⟩))=_
   rw[iG]
   have h:op.ev call E ⟨next,next,[],t⟩= .ok v ⟨next',A,z,t'⟩:=h
   rw[h]
   have G:qd ⟨op.reads E,z,next,next'⟩ b9 l=true:=G
   cases d with
   |none=>
    show aJ (qd ⟨op.reads E,z,next,next'⟩ b9 l) (K E ⟨next',bj,pz bj ws z,t'⟩ (⟨op.reads E,z,next,next'⟩::b9)) (.err 50)=_
    rw[G];rfl
   |some d=>
    unfold Ad
    dsimp only
    rw[G,gi,T4.Bc];rfl
def CI(x:Nat):List Nat→Bool
 |[]=>false
 |y::r=>Nat.beq x y||CI x r
theorem ME{x:Nat}:∀{l:List Nat},x∈l→CI x l=true
 |y::r,h=>by
  rcases List.mem_cons.1 h with rfl|h
  ·show(Nat.beq x x||CI x r)=true
   rw[show Nat.beq x x=true from jl x];rfl
  show(Nat.beq x y||CI x r)=true
  rw[ME h,Bool.or_true]
def CJ(R:List Nat):List Nat→Bool
 |[]=>true
 |b::r=>!CI b R&&CJ R r
theorem MF{R:List Nat}:∀{W:List Nat},CJ R W=true→∀b,b∈W→b∉R
 |c::r,h,b,z=>by
  simp only[CJ,fE] at h
  rcases List.mem_cons.1 z with rfl|z
  ·intro A
   rw[ME A] at h
   simp at h
  exact MF h.2 b z
def ox(W:List Nat)(l:List Nat)(fl:List FL):Bool:=
 match l with
 |[]=>true
 |i::r=>(match fl[i]?with
  |some (.rd R)=>CJ R W
  |some .qt=>W.isEmpty
  |_=>false)&&ox W r fl
theorem MG{l m:List Nat}(h:∀f,f∈l→f∉m):zM l m=true:=by
 induction l with
 |nil=>rfl
 |cons x r z=>
  show aJ (qP x m) false (zM r m)=true
  rw[z fun f A=>h f (oR _ A)]
  have G:qP x m=false:=by
   cases I:qP x m
   ·rfl
   exact absurd ((Hz _ _).1 I) (h x (lh ..))
  rw[G];rfl
theorem T6(r:Option (List Nat)):Cb [] r=true:=rfl
theorem Tm{l m:List Nat}(h:∀f,f∈l→f∉m):Cb l (some m)=true:=by
 cases l with
 |nil=>rfl
 |cons x r=>exact MG h
theorem LW{n:Nat}:∀{l:List Nat},vU l n n=true
 |[]=>rfl
 |x::r=>by
  show aJ (Nat.ble n x) (aJ (Nat.ble n x) (vU r n n) false) (vU r n n)=true
  rw[LW]
  cases Nat.ble n x<;>rfl
theorem yf{n:Nat}{β:Nat→Nat}{fl:List FL}{b9:List FP}{fp:FP}(A:wm n B β fl b9)(J:∀f,f∈fp.ws→∃b s,b∈W∧bf B b=some s∧s.born∧β b=f):∀{l:List Nat},ox W l fl=true→qd fp b9 l=true
 |[],_=>rfl
 |i::r,h=>by
  simp only[ox,fE] at h
  obtain⟨hi,Y⟩:=h
  show ob (b9[i]?) false (fun b=>aJ (tl fp b) (qd fp b9 r) false)=true
  have z:i<b9.length:=by
   rw[A.1]
   cases G:fl[i]?with
   |none=>rw[G] at hi;simp at hi
   |some x=>exact(List.getElem?_eq_some_iff.1 G).1
  rw[fe z,dk]
  have I:i<fl.length:=by rw[←A.1];exact z
  have hk:=A.2 i _ _ (fe I) (fe z)
  rw[fe I] at hi
  have e:tl fp b9[i]=true:=by
   unfold tl
   cases G:fl[i] with
   |un=>rw[G] at hi;simp at hi
   |qt=>
    rw[G] at hi hk
    have Z:W=[]:=by cases W with
     |nil=>rfl
     |cons _ _=>simp at hi
    have K:fp.ws=[]:=by
     cases hl:fp.ws with
     |nil=>rfl
     |cons f _=>
      obtain⟨b,_,U,_⟩:=J f (by rw[hl];exact lh ..)
      rw[Z] at U;cases U
    have hk:b9[i].ws=[]:=hk
    rw[K,hk];rfl
   |rd R=>
    rw[G] at hi hk
    obtain⟨k1,k2,l,k3,k4⟩:=hk
    have hi:CJ R W=true:=hi
    rw[k1,k2,k3,T6,Tm (fun f A O=>?_),MG (fun f _ h=>by cases h),LW]
    ·rfl
    obtain⟨b,s,h1,h2,h3,h4⟩:=J f A
    exact MF hi b h1 ((k4 f O).2 b s h2 h3 h4)
  rw[e,gi]
  exact yf A J Y
theorem jg.mark{β β':Nat→Nat}{H H1:aE}(h:jg B β H.mark (· ∈W) B' β' H1):jg B β H (· ∈W) B' β' ⟨H1.next,H.bj,pz H.bj H.ws H1.ws,H1.t⟩:=by
 cases H with
 |mk next bj ws t=>
  refine⟨rfl,h.next,fun f z=>?_,h.since,h.sP⟩
  rcases(AQ _ _ _ _).1 z with z|⟨z,k⟩
  ·exact .inl z
  rcases h.ws f z with z|⟨a,A⟩
  ·cases z
  exact .inr ⟨k,A⟩
theorem Bq{H0:Nat→Nat}{X0:Nat→Prop}{E:Env}{H:aE}{β:Nat→Nat}{op:bP}{Q:VV→bw→Prop}(h:VI T op VE B W Q)(J:Rel H0 X0 VE B E H β):
  jq T op E H.mark fun a H1=>(∀f,f∈H1.ws→∃b s,b∈W∧bf B b=some s∧s.born∧β b=f)∧∃v B' β',jg B β H (· ∈W) B' β' ⟨H1.next,H.bj,pz H.bj H.ws H1.ws,H1.t⟩∧Rel H0 X0 VE B' E ⟨H1.next,H.bj,pz H.bj H.ws H1.ws,H1.t⟩ β'∧aP ⟨H1.next,H.bj,pz H.bj H.ws H1.ws,H1.t⟩ (XB X0 B' β') β' v a∧Q v B':=by
 have z:H.mark.bj=H.next∧H.mark.ws=[]∧H.mark.next=H.next∧H.mark.t=H.t:=by cases H;exact⟨rfl,rfl,rfl,rfl⟩
 have A:Rel H0 X0 VE B E H.mark β:=J.grow (by rw[z.2.2.1];exact bR _) (fun f _=>by rw[z.2.2.2]) (by rw[z.1,z.2.2.1];exact bR _)
 refine(h H0 X0 E H.mark β A).mono fun a H1 hp=>?_
 obtain⟨v,B',β',G,I,K,O⟩:=hp
 have U:H.bj≤H1.next:=by
  have h1:=J.bj
  have h2:=G.next
  rw[z.2.2.1] at h2
  omega
 have Y:i6 H1 (XB X0 B' β') ⟨H1.next,H.bj,pz H.bj H.ws H1.ws,H1.t⟩ (XB X0 B' β'):=⟨bR _,fun _ _ Z=>⟨Z,rfl⟩⟩
 refine⟨fun f hf=>?_,v,B',β',G.mark,I.grow (bR _) (fun _ _=>rfl) U,K.lift Y,O⟩
 rcases G.ws f hf with h|⟨_,b,s,h⟩
 ·rw[z.2.1] at h;cases h
 exact⟨b,s,h⟩
def uc:List Nat→FL
 |[]=>.qt
 |_=>.un
theorem HZ{n:Nat}{β:Nat→Nat}{fp:FP}(A:∀f,f∈fp.ws→∃b s,b∈W∧bf B b=some s∧s.born∧β b=f){G:bw}{z:Nat→Nat}:vV n G z (uc W) fp:=by
 cases W with
 |cons _ _=>trivial
 |nil=>
  show fp.ws=[]
  cases I:fp.ws with
  |nil=>rfl
  |cons f _=>
   obtain⟨b,_,J,_⟩:=A f (by rw[I];exact lh ..)
   cases J
theorem dy{fl:List FL}{d:Key}{l:List Nat}{op:bP}{r:List bA}(hk:ox W l fl=true)(h:VI T op VE B W fun v B'=>VQ T r ((d.n,v)::VE) B' (uc W::fl) Q):VQ T (⟨some d,none,some l,op⟩::r) VE B fl Q:=by
 intro H0 X0 E H β A b9 G
 obtain⟨N,a,H',e,I,v,B',β',J,z,K,O⟩:=Bq h A
 obtain⟨U,Y,Z,e2,hp⟩:=O H0 X0 _ _ β' (z.set K) (⟨op.reads E,H'.ws,H.next,H'.next⟩::b9) ((G.step J).cons (HZ I))
 refine⟨max N U,Y,Z,fun lf n a1 a2=>?_,hp.of J A.bj⟩
 show bA.nT (T.call lf n) ⟨some d,none,some l,op⟩ E H b9 (mz (T.call lf n) r)=_
 rw[AV,AW (e lf n ah ah) (yf G I hk)]
 exact e2 lf n ah ah
theorem UQ{fl:List FL}{l:List Nat}{op:bP}{r:List bA}(hk:ox W l fl=true)(h:VI T op VE B W fun _ B'=>VQ T r VE B' (uc W::fl) Q):VQ T (⟨none,none,some l,op⟩::r) VE B fl Q:=by
 intro H0 X0 E H β A b9 G
 obtain⟨N,a,H',e,I,v,B',β',J,z,Z,K⟩:=Bq h A
 obtain⟨O,U,Y,e2,hp⟩:=K H0 X0 _ _ β' z (⟨op.reads E,H'.ws,H.next,H'.next⟩::b9) ((G.step J).cons (HZ I))
 refine⟨max N O,U,Y,fun lf n a1 a2=>?_,hp.of J A.bj⟩
 show bA.nT (T.call lf n) ⟨none,none,some l,op⟩ E H b9 (mz (T.call lf n) r)=_
 rw[AV,AW (e lf n ah ah) (yf G I hk)]
 exact e2 lf n ah ah
theorem UR{fl:List FL}{d g:Key}{want:Bool}{l:List Nat}{op:bP}{r:List bA}(K:bf VE g.n=some (.d (.b want)))(hk:ox W l fl=true)(h:VI T op VE B W fun v B'=>VQ T r ((d.n,v)::VE) B' (uc W::fl) Q):VQ T (⟨some d,some (g,want),some l,op⟩::r) VE B fl Q:=by
 intro H0 X0 E H β z b9 G
 obtain⟨N,a,H',e,I,v,B',β',J,A,O,U⟩:=Bq h z
 obtain⟨Y,Z,H2,e2,hp⟩:=U H0 X0 _ _ β' (A.set O) (⟨op.reads E,H'.ws,H.next,H'.next⟩::b9) ((G.step J).cons (HZ I))
 refine⟨max N Y,Z,H2,fun lf n a1 a2=>?_,hp.of J z.bj⟩
 show bA.nT (T.call lf n) ⟨some d,some (g,want),some l,op⟩ E H b9 (mz (T.call lf n) r)=_
 rw[DA (z.bool K),az rfl,AW (e lf n ah ah) (yf G I hk)]
 exact e2 lf n ah ah
variable{R:Ex→cj→bw→Prop}
theorem VC.mono{c:IC}{z:Ex→cj→bw→Prop}(h:VC T c VE B R)(k:∀x VE B,R x VE B→z x VE B):VC T c VE B z:=fun H0 X0 E H β A=>
 (h H0 X0 E H β A).mono fun x _ _ hp=>by obtain⟨eB,B',β',G,a,b⟩:=hp;exact⟨eB,B',β',G,a,k _ _ _ b⟩
theorem bC{ops:List bA}(h:VO T ops VE B fun eB B'=>R .normal eB B'):VC T (.region false ops) VE B R:=fun H0 X0 E H β z=>Tl (h H0 X0 E H β z)
theorem im{ops:List bA}(h:VQ T ops VE B [] fun eB B'=>R .normal eB B'):VC T (.region true ops) VE B R:=fun H0 X0 E H β z=>SR (h H0 X0 E H β z [] ⟨rfl,fun i x r hi=>by simp at hi⟩)
theorem aL{a b:IC}(h:VC T a VE B fun x eB B'=>match x with|.normal=>VC T b eB B' R|x=>R x eB B'):VC T (.seq a b) VE B R:=fun H0 X0 E H β I=>by
 refine VU ((h H0 X0 E H β I).mono fun x E' H' hp=>?_)
 obtain⟨eB,B',β',A,z,G⟩:=hp
 cases x with
 |normal=>exact⟨fun _=>(G H0 X0 E' H' β' z).mono fun _ _ _ hp=>hp.of A I.bj,fun e=>absurd rfl e⟩
 |exit id=>exact⟨fun e=>(by cases e),fun _=>⟨eB,B',β',A,z,G⟩⟩
 |ret=>exact⟨fun e=>(by cases e),fun _=>⟨eB,B',β',A,z,G⟩⟩
theorem aQ(h:R .normal VE B):VC T .skip VE B R:=fun _ _ _ _ β z=>UM ⟨VE,B,β,.refl,z,h⟩
theorem dJ{id:Nat}(h:R (.exit id) VE B):VC T (.exit id) VE B R:=fun _ _ _ _ β z=>UN ⟨VE,B,β,.refl,z,h⟩
theorem ay(h:R .ret VE B):VC T .ret VE B R:=fun _ _ _ _ β z=>VW ⟨VE,B,β,.refl,z,h⟩
theorem US{k:Key}{a b:IC}(A:bf VE k.n=some (.d (.b true)))(h:VC T a VE B R):VC T (.cond (.t k) a b) VE B R:=fun H0 X0 E H β z=>
 HF (t:=true) (z.bool A) (fun _=>h H0 X0 E H β z) (fun e=>by cases e)
theorem UT{k:Key}{a b:IC}(A:bf VE k.n=some (.d (.b false)))(h:VC T b VE B R):VC T (.cond (.t k) a b) VE B R:=fun H0 X0 E H β z=>
 HF (t:=false) (z.bool A) (fun e=>by cases e) (fun _=>h H0 X0 E H β z)
theorem aK{k:Key}{a b:IC}{t:Bool}(A:bf VE k.n=some (.d (.b t)))(G:t=true→VC T a VE B R)(h2:t=false→VC T b VE B R):VC T (.cond (.t k) a b) VE B R:=fun H0 X0 E H β z=>
 HF (t:=t) (z.bool A) (fun e=>G e H0 X0 E H β z) (fun e=>h2 e H0 X0 E H β z)
theorem UU{id:Nat}{c:IC}(h:VC T c VE B fun x=>R (GI id x)):VC T (.block id c) VE B R:=fun H0 X0 E H β z=>T5 (h H0 X0 E H β z)
theorem d7{c:IC}(I:Nat→cj→bw→Prop)(hI:∀k VE B,I k VE B→VC T c VE B fun x eB B'=>match x with|.normal=>∃j,j<k∧I j eB B'|x=>R x eB B'){k:Nat}(h0:I k VE B):VC T (.loop c) VE B R:=by
 intro H0 X0 E H β hr
 refine UO (fun k E1 H1=>∃z K A,jg B β H (fun _=>True) K A H1∧Rel H0 X0 z K E1 H1 A∧I k z K) (fun k E1 H1 hk=>?_) k E H ⟨VE,B,β,.refl,hr,h0⟩
 obtain⟨z,K,A,O,U,hi⟩:=hk
 refine(hI k z K hi H0 X0 E1 H1 A U).mono fun x E' H' hp=>?_
 obtain⟨eB,B',β',hw,G,Y⟩:=hp
 have J:=O.trans hw hr.bj
 cases x with
 |normal=>
  obtain⟨j,hj,Z⟩:=Y
  exact⟨fun _=>⟨j,hj,eB,B',β',J,G,Z⟩,fun e=>absurd rfl e⟩
 |exit id=>exact⟨fun e=>(by cases e),fun _=>⟨eB,B',β',J,G,Y⟩⟩
 |ret=>exact⟨fun e=>(by cases e),fun _=>⟨eB,B',β',J,G,Y⟩⟩
end
def tA:ax→Option VV
 |.int k n=>some (.d (.i k n))
 |.bool b=>some (.d (.b b))
 |.str l v=>some (.d (.s l v))
 |.cB=>some (.d .nil)
 |.il=>some (.k .il)
 |.iN=>some (.k .iN)
 |.oq=>some (.k .oq)
 |.func f z cs=>match z,cs with
  |[],[]=>some (.fn f [])
  |_,_=>none
 |_=>none
def aI.vv(VE:cj):aI→Option VV
 |.t k=>bf VE k.n
 |.c a=>tA a
def VV.cells:VV→Option (List VV)
 |.agg l=>some l
 |.d x=>some [.d x]
 |.vp b o=>some [.vp b o]
 |.bs b n es=>some [.bs b n es]
 |.ac b n es=>some [.ac b n es]
 |.k .il=>some [.k .il]
 |.k .iN=>some [.k .iN]
 |.k .oq=>some [.k .oq]
 |.jV=>some [.jV]
 |.fn f c=>some [.fn f c]
 |_=>none
def lO:List VV→Option (List DC)
 |[]=>some []
 |.d x::r=>(lO r).map (x:: ·)
 |_::_=>none
def bn{α:Type}:List (Nat×α)→List (Nat×α)→Prop
 |[],_=>True
 |(i,v)::r,l=>bf l i=some v∧bn r l
theorem bn.get{α:Type}:∀{l m:List (Nat×α)},bn l m→∀{k:Nat}{v:α},bf l k=some v→bf m k=some v
 |[],_,_,_,_,h=>by cases h
 |(i,w)::r,m,z,k,v,h=>by
  rw[eM] at h
  by_cases e:i=k
  ·rw[az e] at h;cases h;exact e▸z.1
  rw[al e] at h;exact bn.get z.2 h
theorem Nl:∀{l:List VV}{row:List DC},lO l=some row→l=row.map .d
 |[],row,h=>by simp only[lO,ia] at h;subst h;rfl
 |.d x::r,row,h=>by
  simp only[lO,E4] at h
  obtain⟨s,z,rfl⟩:=h
  rw[Nl z];rfl
 |.agg _::_,_,h=>by simp[lO] at h
 |.tuple _::_,_,h=>by simp[lO] at h
 |.vp _ _::_,_,h=>by simp[lO] at h
 |.bp _ _ _ _ _::_,_,h=>by simp[lO] at h
 |.rp _ _::_,_,h=>by simp[lO] at h
 |.bs _ _ _::_,_,h=>by simp[lO] at h
 |.ac _ _ _::_,_,h=>by simp[lO] at h
 |.fn _ _::_,_,h=>by simp[lO] at h
 |.k _::_,_,h=>by simp[lO] at h
 |.jV::_,_,h=>by simp[lO] at h
 |.undef::_,_,h=>by simp[lO] at h
section
variable{T:bd}{H0:Nat→Nat}{X0:Nat→Prop}{VE eB:cj}{B B':bw}{E:Env}{H H':aE}{β:Nat→Nat}{X:Nat→Prop}
theorem Hd{a:ax}{v:VV}(h:tA a=some v):aP H X β v a:=by
 cases a
 case func f z cs=>
  cases z<;>cases cs<;>simp only[tA,ia,reduceCtorEq] at h
  subst h
  simp only[aP,bu]
  exact⟨[],rfl,rfl⟩
 all_goals simp only[tA,ia,reduceCtorEq] at h
 all_goals subst h
 all_goals first|(simp only[aP,cY];done)|(simp only[aP])
theorem T7{a:ax}{v:VV}(h:tA a=some v)(b:Nat):v.no b=true:=by
 cases a
 case func f z cs=>
  cases z<;>cases cs<;>simp only[tA,ia,reduceCtorEq] at h
  subst h
  rfl
 all_goals simp only[tA,ia,reduceCtorEq] at h
 all_goals subst h
 all_goals simp only[VV.no]
theorem Rel.ch(z:Rel H0 X0 VE B E H β){x:aI}{v:VV}(h:x.vv VE=some v):∃a,x.ev E=some a∧aP H (XB X0 B β) β v a:=by
 cases x with
 |t k=>exact z.env k v h
 |c a=>exact⟨a,rfl,Hd h⟩
theorem aP.cells{v:VV}{a:ax}{l:List VV}(h:v.cells=some l)(z:aP H X β v a):∃s,kq a=some s∧bu H X β l s:=by
 cases v with
 |agg m=>
  simp only[VV.cells,ia] at h;subst h
  simp only[aP] at z
  obtain⟨cs,rfl,h⟩:=z
  exact⟨cs,rfl,h⟩
 |d x=>
  simp only[VV.cells,ia] at h;subst h
  have:kq a=some [a]:=by
   simp only[aP] at z
   cases x with
   |i k n=>simp only[cY] at z;subst z;rfl
   |b t=>simp only[cY] at z;subst z;rfl
   |s l n=>simp only[cY] at z;subst z;rfl
   |nil=>simp only[cY] at z;subst z;rfl
   |sl rows=>simp only[cY] at z;obtain⟨f,g,off,es,rfl,_⟩:=z;rfl
  exact⟨[a],this,by simp only[bu];exact⟨a,[],rfl,z,rfl⟩⟩
 |vp b o=>
  simp only[VV.cells,ia] at h;subst h
  have e:a= .ptr (β b) 1 o:=by simpa only[aP] using z
  exact⟨[a],by subst e;rfl,by simp only[bu];exact⟨a,[],rfl,z,rfl⟩⟩
 |bs b n es=>
  simp only[VV.cells,ia] at h;subst h
  have e:a= .slice (β b) n 0 n es:=by simpa only[aP] using z
  exact⟨[a],by subst e;rfl,by simp only[bu];exact⟨a,[],rfl,z,rfl⟩⟩
 |fn f c=>
  simp only[VV.cells,ia] at h;subst h
  have e:∃cs,a= .func f [] cs∧bu H X β c cs:=by simpa only[aP] using z
  obtain⟨cs,e,_⟩:=e
  exact⟨[a],by subst e;rfl,by simp only[bu];exact⟨a,[],rfl,z,rfl⟩⟩
 |jV=>
  simp only[VV.cells,ia] at h;subst h
  have e:∃t x,a= .iface t x:=by simpa only[aP] using z
  obtain⟨t,x,e⟩:=e
  exact⟨[a],by subst e;rfl,by simp only[bu];exact⟨a,[],rfl,z,rfl⟩⟩
 |k x=>
  have e:a=x:=by simpa only[aP] using z
  cases x<;>simp only[VV.cells,ia,reduceCtorEq] at h
  all_goals subst h
  all_goals exact⟨[a],by subst e;rfl,by simp only[bu];exact⟨a,[],rfl,z,rfl⟩⟩
 |ac b n es=>
  simp only[VV.cells,ia] at h;subst h
  have e:kq a=some [a]:=by
   simp only[aP] at z
   rcases z with⟨_,rfl⟩|⟨_,rfl⟩<;>rfl
  exact⟨[a],e,by simp only[bu];exact⟨a,[],rfl,z,rfl⟩⟩
 |tuple _=>simp[VV.cells] at h
 |bp _ _ _ _ _=>simp[VV.cells] at h
 |rp _ _=>simp[VV.cells] at h
 |undef=>simp[VV.cells] at h
theorem fi{W:List Nat}{Q:VV→bw→Prop}{a:ax}{v:VV}(z:Rel H0 X0 VE B E H β)(A:aP H (XB X0 B β) β v a)(G:Q v B):zQ H0 X0 VE B β E H W Q a H:=
 ⟨v,B,β,.refl,z,A,G⟩
theorem Rel.Cg(h:Rel H0 X0 VE B E H β)(z:∀k s,bf B' k=some s→bf B k=some s):Rel H0 X0 VE B' E H β:=by
 have I:i6 H (XB X0 B β) H (XB X0 B' β):=⟨bR _,fun f _ J=>⟨fun k=>J (k.imp id fun⟨c,s,G,h2⟩=>⟨c,s,z c s G,h2⟩),rfl⟩⟩
 refine⟨h.o9,h.bj,h.x0,fun c s A=>h.new c s (z c s A),fun c e s t A he=>h.inj c e s t (z c s A) (z e t he),fun k v hk=>?_,fun c s A=>(h.box c s (z c s A)).lift I rfl⟩
 obtain⟨a,G,h2⟩:=h.env k v hk
 exact⟨a,G,h2.lift I⟩
theorem db{c:IC}{R:Ex→cj→bw→Prop}(eB:cj)(B':bw)(z:bn eB VE)(h2:bn B' B)(h:VC T c eB B' R):VC T c VE B R:=
 fun H0 X0 E H β A=>(h H0 X0 E H β ((A.less fun _ _ hk=>z.get hk).Cg fun _ _ hk=>h2.get hk)).mono fun _ _ _ hp=>hp.more fun _ s G I=>⟨s,h2.get G,I⟩
mutual
def VV.nd(b:Nat)(x:DC):VV→VV
 |.agg l=>.agg (Gd b x l)
 |.bs c n es=>bif Nat.beq c b then .d x else .bs c n es
 |.ac c n es=>bif Nat.beq c b then .d x else .ac c n es
 |v=>v
def Gd(b:Nat)(x:DC):List VV→List VV
 |[]=>[]
 |v::r=>v.nd b x::Gd b x r
end
mutual
def VV.wo(b n es:Nat):VV→Prop
 |.agg l=>Ge b n es l
 |.bs c m e=>c=b→m=n∧e=es
 |.ac c _ _=>c≠b
 |_=>True
def Ge(b n es:Nat):List VV→Prop
 |[]=>True
 |v::r=>v.wo b n es∧Ge b n es r
end
theorem fT.rZ{f g es:Nat}:∀{rows:List (List DC)}{q:Nat},(∀i row,rows[i]?=some row→∃l,mT H f g (q+i) l∧l.length=es∧dn H X row l)→fT H X f g es q rows
 |[],_,_=>trivial
 |row::r,q,h=>by
  simp only[fT]
  refine⟨h 0 row rfl,fT.rZ fun i row hi=>?_⟩
  rw[show q+1+i=q+(i+1) by omega]
  exact h (i+1) row (by simpa using hi)
theorem iq.cells{f elem aV es lo:Nat}{rows:List (List DC)}(h:iq H X β f (.arr elem aV es lo rows)){g:Nat}(Y:lo≤g)(h2:g≤rows.length){q:Nat}(I:q<g){row:List DC}(z:rows[q]?=some row):∃l,mT H f g q l∧l.length=es∧dn H X row l:=by
 obtain⟨A,cs,J,Z,k3,K⟩:=h
 obtain⟨l,O,G,U⟩:=K q row z
 exact⟨l,⟨elem,aV,rows.length,A,0,cs,by rw[G];exact J,ah,h2,I,O⟩,G,U⟩
theorem Rel.asData(G:Rel H0 X0 VE B E H β){b elem aV es lo:Nat}{rows:List (List DC)}(I:bf B b=some (.arr elem aV es lo rows)){X:Nat→Prop}(J:¬X (β b))(K:i6 H (XB X0 B β) H X):cY H X (.sl rows) (.slice (β b) rows.length 0 rows.length es):=by
 have hk:=G.box b _ I
 simp only[cY]
 refine⟨β b,rows.length,0,es,rfl,.inr ⟨J,(G.new b _ I trivial).2,0,by simp,fT.rZ fun i row hi=>?_⟩⟩
 have z:=(List.getElem?_eq_some_iff.1 hi).1
 have A:lo≤rows.length:=by obtain⟨_,_,_,_,h,_⟩:=hk;exact h
 obtain⟨l,O,h2,U⟩:=hk.cells (g:=rows.length) A (bR _) z hi
 exact⟨l,by rw[jR];exact O,h2,U.lift K⟩
theorem Rel.nd(I:Rel H0 X0 VE B E H β){b elem aV es lo:Nat}{rows:List (List DC)}(J:bf B b=some (.arr elem aV es lo rows)){k:Nat}{v:VV}(hv:bf VE k=some v)(ho:v.wo b rows.length es):
  Rel H0 X0 ((k,v.nd b (.sl rows))::VE) (iK B b) E H β:=by
 have K:=I.drop b
 have O:¬XB X0 (iK B b) β (β b):=by
  rintro(h|⟨c,s,z,U,h2⟩)
  ·exact(I.new b _ J trivial).1 h
  rw[wL] at z
  by_cases e:b=c
  ·rw[az e] at z;cases z
  rw[al e] at z;exact e (I.inj c b s _ z J U trivial h2).symm
 have hl:i6 H (XB X0 B β) H (XB X0 (iK B b) β):=⟨bR _,fun f _ O=>⟨fun k=>O (k.imp id fun⟨c,s,z,h2⟩=>⟨c,s,by
  rw[wL] at z
  by_cases e:b=c
  ·rw[az e] at z;cases z
  rw[al e] at z;exact z,h2⟩),rfl⟩⟩
 have G:=I.asData J O hl
 have main:(∀v:VV,v.wo b rows.length es→∀a,aP H (XB X0 (iK B b) β) β v a→aP H (XB X0 (iK B b) β) β (v.nd b (.sl rows)) a):=by
  intro v
  refine VV.rec (motive_1:=fun v=>v.wo b rows.length es→∀a,aP H (XB X0 (iK B b) β) β v a→aP H (XB X0 (iK B b) β) β (v.nd b (.sl rows)) a)
   (motive_2:=fun l=>Ge b rows.length es l→∀s,bu H (XB X0 (iK B b) β) β l s→bu H (XB X0 (iK B b) β) β (Gd b (.sl rows) l) s) ?_ ?_ ?_ ?_ ?_ ?_ ?_ ?_ ?_ ?_ ?_ ?_ ?_ ?_ v
  ·intro x _ a h;exact h
  ·intro l ih ho a h
   simp only[aP,VV.nd,VV.wo] at h ho⊢
   obtain⟨cs,e,h⟩:=h
   exact⟨cs,e,ih ho cs h⟩
  ·intro l _ _ a h;exact h
  ·intro c o _ a h;exact h
  ·intro c g q o e _ a h;exact h
  ·intro row o _ a h;exact h
  ·intro c n e ho a h
   simp only[VV.nd,VV.wo] at h ho⊢
   by_cases A:c=b
   ·obtain⟨rfl,rfl⟩:=ho A
    subst A
    rw[show Nat.beq c c=true from jl c]
    simp only[aP] at h
    subst h
    show aP H _ β (.d (.sl rows)) _
    simp only[aP]
    exact G
   have:Nat.beq c b=false:=by
    cases Y:Nat.beq c b
    ·rfl
    exact absurd (eH Y) A
   rw[this];exact h
  ·intro c n e ho a h
   simp only[VV.nd,VV.wo] at ho⊢
   have:Nat.beq c b=false:=by
    cases Y:Nat.beq c b
    ·rfl
    exact absurd (eH Y) ho
   rw[this];exact h
  ·intro f c _ _ a h;exact h
  ·intro x _ a h;exact h
  ·intro _ a h;exact h
  ·intro _ a h;exact h
  ·intro _ s h;exact h
  intro v r Z J9 ho s h
  simp only[bu,Gd,Ge] at h ho⊢
  obtain⟨a,s,e,z,h2⟩:=h
  exact⟨a,s,e,Z ho.1 a z,J9 ho.2 s h2⟩
 refine{K with env:=fun c w A=>?_}
 rw[eM] at A
 by_cases e:k=c.n
 ·rw[az e] at A
  cases A
  obtain⟨a,z,h2⟩:=K.env c v (e▸hv)
  exact⟨a,z,main v ho a h2⟩
 rw[al e] at A
 exact K.env c w A
theorem gD{ops:List bA}{Q:cj→bw→Prop}(k b:Nat){v:VV}{elem aV es lo:Nat}{rows:List (List DC)}(z:bf VE k=some v)(A:bf B b=some (.arr elem aV es lo rows))(ho:v.wo b rows.length es)(h:VO T ops ((k,v.nd b (.sl rows))::VE) (iK B b) Q):VO T ops VE B Q:=
 fun H0 X0 E H β G=>(h H0 X0 E H β (G.nd A z ho)).mono fun _ _ hp=>hp.more MD
variable{W:List Nat}{Q:VV→bw→Prop}
theorem wrap64{n:Int}(z: -9223372036854775808≤n)(h2:n≤9223372036854775807):IntKind.i64.wrap n=n:=by
 simp[IntKind.wrap,IntKind.bits,IntKind.signed]
 split<;>omega
theorem bY{x:aI}{v:VV}(A:x.vv VE=some v)(G:Q v B):VI T (.o4 x) VE B [] Q:=fun _ _ _ _ _ z=>by
 obtain⟨a,I,h2⟩:=z.ch A
 exact VN I (fi z h2 G)
theorem MH{c x y:aI}{v:VV}(G:c.vv VE=some (.d (.b true)))(I:x.vv VE=some v)(J:Q v B):VI T (.pick c x y) VE B [] Q:=fun _ _ _ _ _ z=>by
 obtain⟨a,K,h2⟩:=z.ch I
 obtain⟨t,O,A⟩:=z.ch G
 simp only[aP,cY] at A
 subst A
 exact Mx (t:=true) O K (fi z h2 J)
theorem MI{c x y:aI}{v:VV}(G:c.vv VE=some (.d (.b false)))(I:y.vv VE=some v)(J:Q v B):VI T (.pick c x y) VE B [] Q:=fun _ _ _ _ _ z=>by
 obtain⟨a,K,h2⟩:=z.ch I
 obtain⟨t,O,A⟩:=z.ch G
 simp only[aP,cY] at A
 subst A
 exact Mx (t:=false) O K (fi z h2 J)
theorem Nm{op:BinOp}{x y:aI}{k A:IntKind}{a b:Int}{r:ax}{v:VV}(I:x.vv VE=some (.d (.i k a)))(J:y.vv VE=some (.d (.i A b)))(h:jr op k a A b=some r)(K:tA r=some v)(O:Q v B):VI T (.bin op x y) VE B [] Q:=fun _ _ _ _ _ z=>by
 obtain⟨_,U,h2⟩:=z.ch I
 obtain⟨_,Y,G⟩:=z.ch J
 simp only[aP,cY] at h2 G
 subst h2;subst G
 exact yo U Y h (fi z (Hd K) O)
theorem PK{x y:aI}{a b:Int}(z:x.vv VE=some (.d (.i .i64 a)))(A:y.vv VE=some (.d (.i .i64 b)))(G:Q (.d (.b (decide (a<b)))) B):VI T (.bin .lss x y) VE B [] Q:=
 Nm z A (r:=.bool (lN a b)) rfl rfl (by rw[pG];exact G)
theorem Xg{x y:aI}{a b:Int}(z:x.vv VE=some (.d (.i .i64 a)))(A:y.vv VE=some (.d (.i .i64 b)))(G: -9223372036854775808≤a+b)(h2:a+b≤9223372036854775807)(I:Q (.d (.i .i64 (a+b))) B):VI T (.bin .add x y) VE B [] Q:=
 Nm z A (r:=.int .i64 (mB .i64 (a+b))) rfl rfl (by
  have:mB .i64 (a+b)=a+b:=by rw[nJ];exact wrap64 G h2
  rw[this];exact I)
theorem j0{x:aI}{b:Bool}(A:x.vv VE=some (.d (.b b)))(G:Q (.d (.b (!b))) B):VI T (.un .not x) VE B [] Q:=fun _ _ _ _ _ z=>by
 obtain⟨_,I,h2⟩:=z.ch A
 simp only[aP,cY] at h2
 subst h2
 exact Ok I rfl (fi z (v:=.d (.b (!b))) (by simp only[aP,cY]) G)
theorem uW{k A:IntKind}{x:aI}{n:Int}(G:x.vv VE=some (.d (.i A n)))(I:Q (.d (.i k (k.wrap n))) B):VI T (.conv k x) VE B [] Q:=fun _ _ _ _ _ z=>by
 obtain⟨_,J,h2⟩:=z.ch G
 simp only[aP,cY] at h2
 subst h2
 exact UJ J (fi z (v:=.d (.i k (k.wrap n))) (by simp only[aP,cY,nJ]) I)
theorem BM{x:aI}{rows:List (List DC)}(A:x.vv VE=some (.d (.sl rows)))(G:Q (.d (.i .i64 rows.length)) B):VI T (.len x) VE B [] Q:=fun _ _ _ _ _ z=>by
 obtain⟨_,I,h2⟩:=z.ch A
 simp only[aP,cY] at h2
 obtain⟨f,g,off,es,rfl,_⟩:=h2
 exact HX I (fi z (v:=.d (.i .i64 rows.length)) (by simp only[aP,cY]) G)
theorem Ei{x:aI}(A:x.vv VE=some (.d .nil))(G:Q (.d (.i .i64 0)) B):VI T (.len x) VE B [] Q:=fun _ _ _ _ _ z=>by
 obtain⟨_,I,h2⟩:=z.ch A
 simp only[aP,cY] at h2
 subst h2
 exact K7 I (fi z (v:=.d (.i .i64 0)) (by simp only[aP,cY]) G)
theorem V1{x:aI}{b n es:Nat}(A:x.vv VE=some (.bs b n es))(G:Q (.d (.i .i64 n)) B):VI T (.len x) VE B [] Q:=fun _ _ _ _ _ z=>by
 obtain⟨_,I,h2⟩:=z.ch A
 simp only[aP] at h2
 subst h2
 exact HX I (fi z (v:=.d (.i .i64 n)) (by simp only[aP,cY]) G)
theorem V2{x:aI}{l s:Nat}(A:x.vv VE=some (.d (.s l s)))(G:Q (.d (.i .i64 l)) B):VI T (.pT x) VE B [] Q:=fun _ _ _ _ _ z=>by
 obtain⟨_,I,h2⟩:=z.ch A
 simp only[aP,cY] at h2
 subst h2
 exact My I (fi z (v:=.d (.i .i64 l)) (by simp only[aP,cY]) G)
theorem lF{x i:aI}{es j:Nat}{k:IntKind}{rows:List (List DC)}{row:List DC}(K:x.vv VE=some (.d (.sl rows)))(hi:i.vv VE=some (.d (.i k (j:Int))))(G:rows[j]?=some row)(O:row.length=es)(U:Q (.rp row 0) B):VI T (.dV es x i) VE B [] Q:=fun _ _ _ _ _ z=>by
 obtain⟨_,Y,h2⟩:=z.ch K
 obtain⟨_,Z,A⟩:=z.ch hi
 simp only[aP] at h2 A
 simp only[cY] at A
 subst A
 obtain⟨f,g,off,fA,rfl,hg⟩:=h2.slice
 obtain⟨k1,k2,Q1,l,k3,I,k5,J⟩:=hg G
 have e:fA=es:=by rw[←I,J.length,O]
 subst e
 refine LR Y Z (List.getElem?_eq_some_iff.1 G).1 (fi z (v:=.rp row 0) ?_ U)
 simp only[aP]
 exact⟨f,g,Q1,l,by rw[k5,I];rfl,k3,J,k1,k2⟩
theorem mU{x i:aI}{es b n j:Nat}{k:IntKind}(G:x.vv VE=some (.bs b n es))(hi:i.vv VE=some (.d (.i k (j:Int))))(I:j<n)(J:Q (.bp b n j 0 es) B):VI T (.dV es x i) VE B [] Q:=fun _ _ _ _ _ z=>by
 obtain⟨_,K,h2⟩:=z.ch G
 obtain⟨_,O,A⟩:=z.ch hi
 simp only[aP] at h2 A
 simp only[cY] at A
 subst A;subst h2
 exact LR K O I (fi z (v:=.bp b n j 0 es) (by simp only[aP];rw[jR,xn]) J)
theorem oj{x:aI}{row:List DC}{o k:Nat}(A:x.vv VE=some (.rp row o))(G:Q (.rp row (o+k)) B):VI T (.oT x k) VE B [] Q:=fun _ _ _ _ _ z=>by
 obtain⟨_,I,h2⟩:=z.ch A
 simp only[aP] at h2
 obtain⟨f,g,J,l,rfl,K⟩:=h2
 exact HD I (fi z (v:=.rp row (o+k)) (by simp only[aP];exact⟨f,g,J,l,by rw[nx],K⟩) G)
theorem dD{x:aI}{b o k:Nat}(A:x.vv VE=some (.vp b o))(G:Q (.vp b (o+k)) B):VI T (.oT x k) VE B [] Q:=fun _ _ _ _ _ z=>by
 obtain⟨_,I,h2⟩:=z.ch A
 simp only[aP] at h2
 subst h2
 exact HD I (fi z (v:=.vp b (o+k)) (by simp only[aP]) G)
theorem wM{x:aI}{b g j o es k:Nat}(A:x.vv VE=some (.bp b g j o es))(G:Q (.bp b g j (o+k) es) B):VI T (.oT x k) VE B [] Q:=fun _ _ _ _ _ z=>by
 obtain⟨_,I,h2⟩:=z.ch A
 simp only[aP] at h2
 subst h2
 exact HD I (fi z (v:=.bp b g j (o+k) es) (by simp only[aP];rw[nx]) G)
theorem V3{x:aI}{l:List VV}{i:Nat}{v:VV}(A:x.vv VE=some (.tuple l))(hi:l[i]?=some v)(G:Q v B):VI T (.sF x i) VE B [] Q:=fun _ _ _ _ _ z=>by
 obtain⟨_,I,h2⟩:=z.ch A
 simp only[aP] at h2
 obtain⟨cs,rfl,h2⟩:=h2
 obtain⟨a,J,K⟩:=h2.get hi
 exact UK I J (fi z K G)
end
end Go.Ev
