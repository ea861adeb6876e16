/- Part 13 of rules for walks through the code of a program, and of such walks; what each part proves is said by its theorems. -/
import Derived.Test.YtmpoloiempjdpaaGreatR12
set_option linter.unusedVariables false
set_option linter.unusedSimpArgs false
noncomputable section
set_option maxRecDepth 100000
set_option maxHeartbeats 4000000
namespace Go.Ev
structure eP(H:ax)(X:Nat→Prop)(H':ax)(X':Nat→Prop):Prop where
 next:H.next≤H'.next
 same:∀f,f<H.next→¬X f→¬X' f∧H'.t.get f=H.t.get f
section
variable{H H':ax}{X X':Nat→Prop}
mutual
theorem bF.lift(z:eP H X H' X'):∀{d:DC}{a:aj},bF H X d a→bF H' X' d a
 |.i _ _,_,h=>h
 |.b _,_,h=>h
 |.s _ _,_,h=>h
 |.nil,_,h=>h
 |.raw _ _ _,_,h=>h
 |.sl rows,a,h=>by
  simp only[bF] at h⊢;obtain⟨f,g,off,es,I,h2⟩:=h;exact⟨f,g,off,es,I,h2.imp id fun⟨G,A,q,ho,L⟩=>⟨(z.same f A G).1,jh A z.next,q,ho,dz.lift z G A L⟩⟩
theorem dz.lift(z:eP H X H' X'){f g es:Nat}(A:¬X f)(G:f<H.next):∀{q:Nat}{rows:ai},dz H X f g es q rows→dz H' X' f g es q rows
 |_,[],_=>trivial
 |q,row::r,h=>by
  simp only[dz] at h⊢;obtain⟨⟨l,I,h2,L⟩,M⟩:=h;exact⟨⟨l,I.gJ (z.same f G A).2,h2,bX.lift z L⟩,dz.lift z A G M⟩
theorem bX.lift(z:eP H X H' X'):∀{row:List DC}{l:List aj},bX H X row l→bX H' X' row l
 |[],_,h=>h
 |d::r,l,h=>by
  simp only[bX] at h⊢;obtain⟨a,s,A,h2,G⟩:=h;exact⟨a,s,A,bF.lift z h2,bX.lift z G⟩
end
end
inductive VV where
 |d (x:DC)
 |agg (l:List VV)
 |tuple (l:List VV)
 |vp (b off:Nat)
 |bp (b g q off es:Nat)
 |rp (row:List DC) (off:Nat)
 |bs (b n es:Nat)
 |ac (b n es:Nat)
 |fn (f:Nat) (eo:List VV)
 |k (a:aj)
 |jB
 |undef
inductive BS where
 |one (elem aD:Nat) (row:List VV)
 |arr (elem aD es lo:Nat) (rows:ai)
 |acc (elem aD es:Nat) (rows:ai)
 |bP (f:Nat) (s:BS)
def BS.born:BS→Prop
 |.acc _ _ _ rows=>rows≠[]
 |.bP _ s=>s.born
 |_=>True
abbrev bb:=List (Nat×VV)
abbrev aK:=List (Nat×BS)
def aF{α:Type}:List (Nat×α)→Nat→Option α
 |[],_=>none
 |(i,v)::r,k=>bif Nat.beq i k then some v else aF r k
theorem c7{α:Type}(i:Nat)(v:α)(r:List (Nat×α))(k:Nat):aF ((i,v)::r) k=if i=k then some v else aF r k:=by
 show(bif Nat.beq i k then some v else aF r k)=_
 by_cases h:i=k
 ·rw[bg h,h,show Nat.beq k k=true from gG k];rfl
 rw[aZ h]
 cases z:Nat.beq i k
 ·rfl
 exact absurd (cU z) h
def cQ{α:Type}:List (Nat×α)→Nat→List (Nat×α)
 |[],_=>[]
 |(i,v)::r,k=>bif Nat.beq i k then cQ r k else(i,v)::cQ r k
theorem jb{α:Type}(b k:Nat):∀l:List (Nat×α),aF (cQ l b) k=if b=k then none else aF l k
 |[]=>by by_cases h:b=k<;>simp[cQ,aF,h]
 |(i,v)::r=>by
  rw[c7];show aF (bif Nat.beq i b then cQ r b else(i,v)::cQ r b) k=_
  by_cases h:i=b
  ·subst h;rw[show Nat.beq i i=true from gG i];show aF (cQ r i) k=_;rw[jb i k r]
   by_cases z:i=k
   ·simp[z]
   simp[z]
  have A:Nat.beq i b=false:=by
   cases A:Nat.beq i b
   ·rfl
   exact absurd (cU A) h
  rw[A];show aF ((i,v)::cQ r b) k=_;rw[c7,jb b k r]
  by_cases z:i=k
  ·subst z;rw[bg rfl,aZ (fun e=>h e.symm),bg rfl]
  rw[aZ z,aZ z]
mutual
def aE(H:ax)(X:Nat→Prop)(β:Nat→Nat):VV→aj→Prop
 |.d x,a=>bF H X x a
 |.agg l,a=>∃cs,a= .agg cs∧bc H X β l cs
 |.tuple l,a=>∃cs,a= .tuple cs∧bc H X β l cs
 |.vp b off,a=>a= .ptr (β b) 1 off
 |.bp b g q off es,a=>a= .ptr (β b) g (q*es+off)
 |.rp row off,a=>∃f g Q l,a= .ptr f g (Q*l.length+off)∧lP H f g Q l∧bX H X row l∧¬X f∧f<H.next
 |.bs b n es,a=>a= .slice (β b) n 0 n es
 |.ac b n es,a=>(n=0∧a= .fR)∨(0<n∧a= .slice (β b) n 0 n es)
 |.fn f eo,a=>∃cs,a= .func f [] cs∧bc H X β eo cs
 |.k x,a=>a=x
 |.jB,a=>∃t x,a= .iface t x
 |.undef,_=>True
def bc(H:ax)(X:Nat→Prop)(β:Nat→Nat):List VV→List aj→Prop
 |[],l=>l=[]
 |v::r,l=>∃a s,l=a::s∧aE H X β v a∧bc H X β r s
end
mutual
def VV.nb:VV→Prop
 |.d _=>True
 |.agg l=>lq l
 |.tuple l=>lq l
 |.vp _ _=>False
 |.bp _ _ _ _ _=>False
 |.rp _ _=>True
 |.bs _ _ _=>False
 |.ac _ _ _=>False
 |.fn _ eo=>lq eo
 |.k _=>True
 |.jB=>True
 |.undef=>True
def lq:List VV→Prop
 |[]=>True
 |v::r=>v.nb∧lq r
end
mutual
def VV.no(b:Nat):VV→Bool
 |.d _=>true
 |.agg l=>sM b l
 |.tuple l=>sM b l
 |.vp c _=>!Nat.beq c b
 |.bp c _ _ _ _=>!Nat.beq c b
 |.rp _ _=>true
 |.bs c _ _=>!Nat.beq c b
 |.ac c _ _=>!Nat.beq c b
 |.fn _ eo=>sM b eo
 |.k _=>true
 |.jB=>true
 |.undef=>true
def sM(b:Nat):List VV→Bool
 |[]=>true
 |v::r=>v.no b&&sM b r
end
def BS.no(b:Nat):BS→Bool
 |.one _ _ row=>sM b row
 |.arr _ _ _ _ _=>true
 |.acc _ _ _ _=>true
 |.bP _ s=>s.no b
def mz(b:Nat):bb→Bool
 |[]=>true
 |(_,v)::r=>v.no b&&mz b r
def ke(b:Nat):Bool:=Nat.ble 1000 b&&Nat.ble b 1049
def jC(b:Nat):aK→Bool
 |[]=>!ke b
 |(c,s)::r=>!Nat.beq c b&&s.no b&&jC b r
section
variable{H H':ax}{X X':Nat→Prop}{β β':Nat→Nat}
theorem pg{c b:Nat}(h:(!Nat.beq c b)=true):c≠b:=by
 rintro rfl;rw[show Nat.beq c c=true from gG c] at h
 cases h
mutual
theorem aE.lift(z:eP H X H' X'):∀{v:VV}{a:aj},aE H X β v a→aE H' X' β v a
 |.d x,_,h=>by simp only[aE] at h⊢;exact bF.lift z h
 |.agg l,_,h=>by
  simp only[aE] at h⊢;obtain⟨cs,e,h⟩:=h;exact⟨cs,e,bc.lift z h⟩
 |.tuple l,_,h=>by
  simp only[aE] at h⊢;obtain⟨cs,e,h⟩:=h;exact⟨cs,e,bc.lift z h⟩
 |.vp b off,_,h=>by simp only[aE] at h⊢;exact h
 |.bp b g q off es,_,h=>by simp only[aE] at h⊢;exact h
 |.rp row off,_,h=>by
  simp only[aE] at h⊢;obtain⟨f,g,Q,l,e,I,h2,G,A⟩:=h;exact⟨f,g,Q,l,e,I.gJ (z.same f A G).2,bX.lift z h2,(z.same f A G).1,jh A z.next⟩
 |.bs b n es,_,h=>by simp only[aE] at h⊢;exact h
 |.ac b n es,_,h=>by simp only[aE] at h⊢;exact h
 |.fn f eo,_,h=>by
  simp only[aE] at h⊢;obtain⟨cs,e,h⟩:=h;exact⟨cs,e,bc.lift z h⟩
 |.k x,_,h=>by simp only[aE] at h⊢;exact h
 |.jB,_,h=>by simp only[aE] at h⊢;exact h
 |.undef,_,_=>by simp only[aE]
theorem bc.lift(z:eP H X H' X'):∀{l:List VV}{s:List aj},bc H X β l s→bc H' X' β l s
 |[],_,h=>by simp only[bc] at h⊢;exact h
 |v::r,_,h=>by
  simp only[bc] at h⊢;obtain⟨a,s,e,A,h2⟩:=h;exact⟨a,s,e,aE.lift z A,bc.lift z h2⟩
end
mutual
theorem aE.nb:∀{v:VV}{a:aj},v.nb→aE H X β v a→aE H X β' v a
 |.d x,_,_,h=>by simp only[aE] at h⊢;exact h
 |.agg l,_,n,h=>by
  simp only[aE,VV.nb] at h n⊢;obtain⟨cs,e,h⟩:=h;exact⟨cs,e,bc.nb n h⟩
 |.tuple l,_,n,h=>by
  simp only[aE,VV.nb] at h n⊢;obtain⟨cs,e,h⟩:=h;exact⟨cs,e,bc.nb n h⟩
 |.vp b off,_,n,_=>by simp only[VV.nb] at n
 |.bp b g q off es,_,n,_=>by simp only[VV.nb] at n
 |.rp row off,_,_,h=>by simp only[aE] at h⊢;exact h
 |.bs b m es,_,n,_=>by simp only[VV.nb] at n
 |.ac b m es,_,n,_=>by simp only[VV.nb] at n
 |.fn f eo,_,n,h=>by
  simp only[aE,VV.nb] at h n⊢;obtain⟨cs,e,h⟩:=h;exact⟨cs,e,bc.nb n h⟩
 |.k x,_,_,h=>by simp only[aE] at h⊢;exact h
 |.jB,_,_,h=>by simp only[aE] at h⊢;exact h
 |.undef,_,_,_=>by simp only[aE]
theorem bc.nb:∀{l:List VV}{s:List aj},lq l→bc H X β l s→bc H X β' l s
 |[],_,_,h=>by simp only[bc] at h⊢;exact h
 |v::r,_,n,h=>by
  simp only[bc,lq] at h n⊢;obtain⟨a,s,e,z,h2⟩:=h;exact⟨a,s,e,aE.nb n.1 z,bc.nb n.2 h2⟩
end
mutual
theorem aE.no{b f:Nat}:∀{v:VV}{a:aj},v.no b=true→aE H X β v a→aE H X (fun c=>if c=b then f else β c) v a
 |.d x,_,_,h=>by simp only[aE] at h⊢;exact h
 |.agg l,_,n,h=>by
  simp only[aE,VV.no] at h n⊢;obtain⟨cs,e,h⟩:=h;exact⟨cs,e,bc.no n h⟩
 |.tuple l,_,n,h=>by
  simp only[aE,VV.no] at h n⊢;obtain⟨cs,e,h⟩:=h;exact⟨cs,e,bc.no n h⟩
 |.vp c off,_,n,h=>by simp only[aE,VV.no] at h n⊢;rw[aZ (pg n)];exact h
 |.bp c g q off es,_,n,h=>by simp only[aE,VV.no] at h n⊢;rw[aZ (pg n)];exact h
 |.rp row off,_,_,h=>by simp only[aE] at h⊢;exact h
 |.bs c m es,_,n,h=>by simp only[aE,VV.no] at h n⊢;rw[aZ (pg n)];exact h
 |.ac c m es,_,n,h=>by simp only[aE,VV.no] at h n⊢;rw[aZ (pg n)];exact h
 |.fn f eo,_,n,h=>by
  simp only[aE,VV.no] at h n⊢;obtain⟨cs,e,h⟩:=h;exact⟨cs,e,bc.no n h⟩
 |.k x,_,_,h=>by simp only[aE] at h⊢;exact h
 |.jB,_,_,h=>by simp only[aE] at h⊢;exact h
 |.undef,_,_,_=>by simp only[aE]
theorem bc.no{b f:Nat}:∀{l:List VV}{s:List aj},sM b l=true→bc H X β l s→bc H X (fun c=>if c=b then f else β c) l s
 |[],_,_,h=>by simp only[bc] at h⊢;exact h
 |v::r,_,n,h=>by
  simp only[bc,sM,cN] at h n⊢;obtain⟨a,s,e,z,h2⟩:=h;exact⟨a,s,e,aE.no n.1 z,bc.no n.2 h2⟩
end
theorem bc.length:∀{l:List VV}{s:List aj},bc H X β l s→s.length=l.length
 |[],_,h=>by simp only[bc] at h;subst h;rfl
 |v::r,_,h=>by
  simp only[bc] at h;obtain⟨a,s,rfl,_,h2⟩:=h;simp[bc.length h2]
theorem bc.get:∀{l:List VV}{s:List aj},bc H X β l s→∀{i:Nat}{v:VV},l[i]?=some v→∃a,s[i]?=some a∧aE H X β v a
 |[],_,_,i,v,hi=>by simp at hi
 |x::r,_,h,i,v,hi=>by
  simp only[bc] at h;obtain⟨a,s,rfl,z,h2⟩:=h
  cases i with
  |zero=>simp at hi;subst hi;exact⟨a,rfl,z⟩
  |succ i=>simpa using bc.get h2 (i:=i) (v:=v) (by simpa using hi)
theorem bc.append:∀{l m:List VV}{s t:List aj},bc H X β l s→bc H X β m t→bc H X β (l++m) (s++t)
 |[],_,_,_,h,k=>by simp only[bc] at h;subst h;exact k
 |x::r,_,_,_,h,k=>by
  simp only[bc] at h;obtain⟨a,s,rfl,z,h2⟩:=h;simp only[A9,bc];exact⟨a,_,rfl,z,bc.append h2 k⟩
theorem bc.drop:∀{l:List VV}{s:List aj}(n:Nat),bc H X β l s→bc H X β (l.drop n) (s.drop n)
 |_,_,0,h=>h
 |[],_,n+1,h=>by simp only[bc] at h;subst h;simp[bc]
 |x::r,_,n+1,h=>by
  simp only[bc] at h;obtain⟨a,s,rfl,_,h2⟩:=h;simpa using bc.drop n h2
theorem bc.take:∀{l:List VV}{s:List aj}(n:Nat),bc H X β l s→bc H X β (l.take n) (s.take n)
 |_,_,0,h=>by simp[bc]
 |[],_,n+1,h=>by simp only[bc] at h;subst h;simp[bc]
 |x::r,_,n+1,h=>by
  simp only[bc] at h;obtain⟨a,s,rfl,z,h2⟩:=h;simp only[xK,bc];exact⟨a,_,rfl,z,bc.take n h2⟩
theorem bc.s9:∀{row:List DC}{l:List aj},bX H X row l→bc H X β (row.map .d) l
 |[],_,h=>by simp only[bX] at h;subst h;simp[bc]
 |d::r,_,h=>by
  simp only[bX] at h;obtain⟨a,s,rfl,z,h2⟩:=h;simp only[jv,bc,aE];exact⟨a,s,rfl,z,bc.s9 h2⟩
theorem bX.F2:∀{row:List DC}{l:List aj},bc H X β (row.map .d) l→bX H X row l
 |[],_,h=>by simpa[bc,bX] using h
 |d::r,_,h=>by
  simp only[jv,bc,aE] at h;obtain⟨a,s,rfl,z,h2⟩:=h;simp only[bX];exact⟨a,s,rfl,z,bX.F2 h2⟩
end
def XB(X0:Nat→Prop)(B:aK)(β:Nat→Nat)(f:Nat):Prop:=X0 f∨∃b s,aF B b=some s∧s.born∧β b=f
def db(H:ax)(X:Nat→Prop)(β:Nat→Nat)(f:Nat):BS→Prop
 |.one elem aD row=>∃l lo cs,H.t.get f=some (.row elem l.length aD 1 lo 0 cs)∧lo≤1∧cs.get 0=some l∧bc H X β row l
 |.arr elem aD es lo rows=>∃z cs,H.t.get f=some (.row elem es aD rows.length z 0 cs)∧z≤lo∧lo≤rows.length∧∀q row,rows[q]?=some row→∃l,cs.get q=some l∧l.length=es∧bX H X row l
 |.acc elem aD es rows=>rows=[]∨∃lo cs,H.t.get f=some (.row elem es aD rows.length lo 0 cs)∧lo≤rows.length∧∀q row,rows[q]?=some row→∃l,cs.get q=some l∧l.length=es∧bX H X row l
 |.bP g s=>(s.born→f=g)∧db H X β f s
theorem QJ{b:Nat}:∀{B:aK},jC b B=true→ke b=false
 |[],h=>by simpa[jC] using h
 |(_,_)::r,h=>by
  simp only[jC,cN] at h;exact QJ h.2
structure Rel(H0:Nat→Nat)(X0:Nat→Prop)(VE:bb)(B:aK)(E:Env)(H:ax)(β:Nat→Nat):Prop where
 jD:∀b,ke b=true→β b=H0 b
 aR:H.aR≤H.next
 x0:∀f,X0 f→f<H.next
 new:∀b s,aF B b=some s→s.born→¬X0 (β b)∧β b<H.next
 inj:∀b c s t,aF B b=some s→aF B c=some t→s.born→t.born→β b=β c→b=c
 env:∀k v,aF VE (Key.n k)=some v→∃a,E.get k=some a∧aE H (XB X0 B β) β v a
 box:∀b s,aF B b=some s→db H (XB X0 B β) β (β b) s
theorem db.lift{H H':ax}{X X':Nat→Prop}{β:Nat→Nat}(I:eP H X H' X'){f:Nat}(L:H'.t.get f=H.t.get f):∀{s:BS},db H X β f s→db H' X' β f s
 |.one _ _ _,h=>by
  obtain⟨l,lo,cs,A,h2,M,G⟩:=h;exact⟨l,lo,cs,L.trans A,h2,M,bc.lift I G⟩
 |.arr _ _ _ _ _,h=>by
  obtain⟨z,cs,A,h2,M,G⟩:=h;refine⟨z,cs,L.trans A,h2,M,fun q row O=>?_⟩;obtain⟨l,U,Y,Z⟩:=G q row O;exact⟨l,U,Y,bX.lift I Z⟩
 |.acc _ _ _ _,h=>by
  rcases h with h|⟨z,cs,A,h2,G⟩
  ·exact .inl h
  refine .inr ⟨z,cs,L.trans A,h2,fun q row O=>?_⟩;obtain⟨l,U,Y,Z⟩:=G q row O;exact⟨l,U,Y,bX.lift I Z⟩
 |.bP _ s,h=>⟨h.1,db.lift I L (s:=s) h.2⟩
theorem db.aec{H:ax}{X:Nat→Prop}{β:Nat→Nat}{f:Nat}:∀{s:BS},¬s.born→db H X β f s
 |.one _ _ _,h=>absurd trivial h
 |.arr _ _ _ _ _,h=>absurd trivial h
 |.acc _ _ _ rows,h=>.inl (by
  cases rows with
  |nil=>rfl
  |cons x r=>exact absurd (fun e:x::r=[]=>by cases e) h)
 |.bP _ s,h=>⟨fun z=>absurd z h,db.aec (s:=s) h⟩
theorem db.VS{H:ax}{X:Nat→Prop}{β:Nat→Nat}{b g f:Nat}:∀{s:BS},s.no b=true→db H X β f s→db H X (fun c=>if c=b then g else β c) f s
 |.one _ _ _,z,⟨l,lo,cs,A,G,I,L⟩=>⟨l,lo,cs,A,G,I,bc.no z L⟩
 |.arr _ _ _ _ _,_,h=>h
 |.acc _ _ _ _,_,h=>h
 |.bP _ s,z,h=>⟨h.1,db.VS (s:=s) z h.2⟩
theorem db.Dq{H H':ax}{X X':Nat→Prop}{β:Nat→Nat}(A:eP H X H' X'){f:Nat}{s:BS}(G:s.born→H'.t.get f=H.t.get f)(h:db H X β f s):db H' X' β f s:=by
 by_cases z:s.born
 ·exact h.lift A (G z)
 exact .aec z
section
variable{T:aM}{H0:Nat→Nat}{X0:Nat→Prop}{VE:bb}{B:aK}{E:Env}{H:ax}{β:Nat→Nat}
theorem Rel.grow(h:Rel H0 X0 VE B E H β){H':ax}(A:H.next≤H'.next)(I:∀f,f<H.next→H'.t.get f=H.t.get f)(M:H'.aR≤H'.next):Rel H0 X0 VE B E H' β:=by
 have L:eP H (XB X0 B β) H' (XB X0 B β):=⟨A,fun f G O=>⟨O,I f G⟩⟩;refine⟨h.jD,M,fun f G=>jh (h.x0 f G) A,fun b s z ho=>⟨(h.new b s z ho).1,jh (h.new b s z ho).2 A⟩,h.inj,fun k v U=>?_,fun b s z=>(h.box b s z).Dq L fun ho=>I _ (h.new b s z ho).2⟩;obtain⟨a,Y,h2⟩:=h.env k v U;exact⟨a,Y,h2.lift L⟩
theorem Rel.set(h:Rel H0 X0 VE B E H β){d:Key}{v:VV}{a:aj}(A:aE H (XB X0 B β) β v a):Rel H0 X0 ((d.n,v)::VE) B (E.set d a) H β:=by
 refine{h with env:=fun k w z=>?_};rw[c7] at z;rw[T4.da]
 by_cases e:d.n=k.n
 ·rw[bg e] at z
  cases z
  exact⟨a,by rw[bg (Key.inj e).symm],A⟩
 rw[aZ e] at z;rw[aZ (fun G=>e (by rw[G]))];exact h.env k w z
theorem Rel.less(h:Rel H0 X0 VE B E H β){bh:bb}(z:∀k v,aF bh k=some v→aF VE k=some v):Rel H0 X0 bh B E H β:=
 {h with env:=fun k v A=>h.env k v (z _ v A)}
theorem Rel.drop(h:Rel H0 X0 VE B E H β)(b:Nat):Rel H0 X0 VE (cQ B b) E H β:=by
 have A:∀c s,aF (cQ B b) c=some s→aF B c=some s∧b≠c:=fun c s z=>by
  rw[jb] at z
  by_cases e:b=c
  ·rw[bg e] at z;cases z
  rw[aZ e] at z;exact⟨z,e⟩
 have I:eP H (XB X0 B β) H (XB X0 (cQ B b) β):=⟨bf _,fun f _ L=>⟨fun k=>L (k.imp id fun⟨c,s,G,h2⟩=>⟨c,s,(A c s G).1,h2⟩),rfl⟩⟩;refine⟨h.jD,h.aR,h.x0,fun c s z ho=>h.new c s (A c s z).1 ho,fun c e s t z M O U=>h.inj c e s t (A c s z).1 (A e t M).1 O U,fun k v Y=>?_,fun c s z=>(h.box c s (A c s z).1).lift I rfl⟩;obtain⟨a,G,h2⟩:=h.env k v Y;exact⟨a,G,h2.lift I⟩
theorem KX{b:Nat}:∀{VE:bb},mz b VE=true→∀{k:Nat}{v:VV},aF VE k=some v→v.no b=true
 |[],_,_,_,h=>by cases h
 |(i,w)::r,z,k,v,h=>by
  simp only[mz,cN] at z;rw[c7] at h
  by_cases e:i=k
  ·rw[bg e] at h;cases h;exact z.1
  rw[aZ e] at h;exact KX z.2 h
theorem CC{b:Nat}:∀{B:aK},jC b B=true→∀{c:Nat}{s:BS},aF B c=some s→c≠b∧s.no b=true
 |[],_,_,_,h=>by cases h
 |(i,w)::r,z,c,s,h=>by
  simp only[jC,cN] at z;rw[c7] at h
  by_cases e:i=c
  ·rw[bg e] at h;cases h;exact⟨e▸pg z.1.1,z.1.2⟩
  rw[aZ e] at h;exact CC z.2 h
theorem Rel.newBox(h:Rel H0 X0 VE B E H β){b:Nat}(hE:mz b VE=true)(hB:jC b B=true){H':ax}(hn:H'.next=H.next+1)(hs:∀f,f<H.next→H'.t.get f=H.t.get f)(hm:H'.aR=H.aR){s:BS}
  (VT:∀X β',(∀v a,v.no b=true→aE H (XB X0 B β) β v a→aE H' X β' v a)→(∀row l,bX H (XB X0 B β) row l→bX H' X row l)→db H' X β' H.next s):
  ∃β',(β' b=H.next∧∀c,c≠b→β' c=β c)∧Rel H0 X0 VE ((b,s)::B) E H' β'∧∀v a,v.no b=true→aE H (XB X0 B β) β v a→aE H' (XB X0 ((b,s)::B) β') β' v a:=by
 let β':Nat→Nat:=fun c=>if c=b then H.next else β c
 have G:β' b=H.next:=bg rfl;have z:∀c,c≠b→β' c=β c:=fun c A=>aZ A
 have hg:∀c t,aF ((b,s)::B) c=some t→(c=b∧t=s)∨(c≠b∧aF B c=some t∧t.no b=true):=fun c t A=>by
  rw[c7] at A
  by_cases e:b=c
  ·rw[bg e] at A;cases A;exact .inl ⟨e.symm,rfl⟩
  rw[aZ e] at A;exact .inr ⟨fun k=>e k.symm,A,(CC hB A).2⟩
 have hl:eP H (XB X0 B β) H' (XB X0 ((b,s)::B) β'):=⟨al,fun f hf hx=>⟨fun k=>by
  rcases k with k|⟨c,t,h1,ho,h2⟩
  ·exact hx (.inl k)
  rcases hg c t h1 with⟨rfl,rfl⟩|⟨A,M,_⟩
  ·rw[G] at h2;omega
  exact hx (.inr ⟨c,t,M,ho,by rw[←h2,z c A]⟩),hs f hf⟩⟩
 have hv:∀v a,v.no b=true→aE H (XB X0 B β) β v a→aE H' (XB X0 ((b,s)::B) β') β' v a:=fun v a Y hr=>(aE.no Y hr).lift hl
 have A:∀row l,bX H (XB X0 B β) row l→bX H' (XB X0 ((b,s)::B) β') row l:=fun row l hr=>hr.lift hl
 refine⟨β',⟨G,z⟩,⟨(fun c A=>(z c fun e=>by rw[e,QJ hB] at A;cases A).trans (h.jD c A)),by have:=h.aR;omega,(fun f hf=>by have:=h.x0 f hf;omega),fun c t L O=>?_,fun c e t u L XR O JO U=>?_,fun k v hk=>?_,fun c t L=>?_⟩,hv⟩
 ·rcases hg c t L with⟨rfl,rfl⟩|⟨I,M,_⟩
  ·rw[G];exact⟨(fun hx=>by have:=h.x0 _ hx;omega),al⟩
  rw[z c I];have:=h.new c t M O;exact⟨this.1,al⟩
 ·rcases hg c t L with⟨rfl,rfl⟩|⟨I,M,_⟩<;>rcases hg e u XR with⟨rfl,rfl⟩|⟨JP,h4,_⟩
  ·rfl
  ·rw[G,z e JP] at U;have:=h.new e u h4 JO;omega
  ·rw[G,z c I] at U;have:=h.new c t M O;omega
  rw[z c I,z e JP] at U;exact h.inj c e t u M h4 O JO U
 ·obtain⟨a,h1,h2⟩:=h.env k v hk;exact⟨a,h1,hv v a (KX hE hk) h2⟩
 rcases hg c t L with⟨rfl,rfl⟩|⟨I,M,Y⟩
 ·rw[G];exact VT _ _ hv A
 rw[z c I];have ho:=h.box c t M;have Z:t.born→H'.t.get (β c)=H.t.get (β c):=fun ho=>hs _ (h.new c t M ho).2
 exact db.Dq (X:=XB X0 B β) hl Z (db.VS Y ho)
end
end Go.Ev
