/- Part 12 of rules for walks through the code of a program, and of such walks; what each part proves is said by its theorems. -/
import Derived.Test.YtdaamclhcpjdpaaGreatDoorT11
set_option linter.unusedVariables false
set_option linter.unusedSimpArgs false
noncomputable section
set_option maxRecDepth 100000
set_option maxHeartbeats 4000000
namespace Go.Ev
structure fc(H:ay)(X:Nat→Prop)(H':ay)(X':Nat→Prop):Prop where
 next:H.next≤H'.next
 same:∀f,f<H.next→¬X f→¬X' f∧H'.t.get f=H.t.get f
section
variable{H H':ay}{X X':Nat→Prop}
mutual
theorem bK.lift(z:fc H X H' X'):∀{d:DC}{a:ak},bK H X d a→bK H' X' d a
 |.i _ _,_,h=>h
 |.b _,_,h=>h
 |.s _ _,_,h=>h
 |.nil,_,h=>h
 |.raw _ _ _,_,h=>h
 |.sl rows,a,h=>by
  simp only[bK] at h⊢;obtain⟨f,g,off,es,I,h2⟩:=h;exact⟨f,g,off,es,I,h2.imp id fun⟨G,A,q,ho,L⟩=>⟨(z.same f A G).1,jj A z.next,q,ho,dF.lift z G A L⟩⟩
theorem dF.lift(z:fc H X H' X'){f g es:Nat}(A:¬X f)(G:f<H.next):∀{q:Nat}{rows:aj},dF H X f g es q rows→dF H' X' f g es q rows
 |_,[],_=>trivial
 |q,row::r,h=>by
  simp only[dF] at h⊢;obtain⟨⟨l,I,h2,L⟩,M⟩:=h;exact⟨⟨l,I.gg (z.same f G A).2,h2,bZ.lift z L⟩,dF.lift z A G M⟩
theorem bZ.lift(z:fc H X H' X'):∀{row:List DC}{l:List ak},bZ H X row l→bZ H' X' row l
 |[],_,h=>h
 |d::r,l,h=>by
  simp only[bZ] at h⊢;obtain⟨a,s,A,h2,G⟩:=h;exact⟨a,s,A,bK.lift z h2,bZ.lift z G⟩
end
end
inductive VV where
 |d (x:DC)
 |agg (l:List VV)
 |tuple (l:List VV)
 |vp (b off:Nat)
 |bp (b g q off es:Nat)
 |rp (row:List DC) (off:Nat)
 |bs (b n es:Nat)
 |ac (b n es:Nat)
 |fn (f:Nat) (eG:List VV)
 |k (a:ak)
 |iq
 |undef
inductive BS where
 |one (elem aE:Nat) (row:List VV)
 |arr (elem aE es lo:Nat) (rows:aj)
 |acc (elem aE es:Nat) (rows:aj)
 |db (f:Nat) (s:BS)
def BS.born:BS→Prop
 |.acc _ _ _ rows=>rows≠[]
 |.db _ s=>s.born
 |_=>True
abbrev bq:=List (Nat×VV)
abbrev aU:=List (Nat×BS)
def aN{α:Type}:List (Nat×α)→Nat→Option α
 |[],_=>none
 |(i,v)::r,k=>bif Nat.beq i k then some v else aN r k
theorem dr{α:Type}(i:Nat)(v:α)(r:List (Nat×α))(k:Nat):aN ((i,v)::r) k=if i=k then some v else aN r k:=by
 show(bif Nat.beq i k then some v else aN r k)=_
 by_cases h:i=k
 ·rw[bj h,h,show Nat.beq k k=true from ij k];rfl
 rw[aZ h]
 cases z:Nat.beq i k
 ·rfl
 exact absurd (cD z) h
def du{α:Type}:List (Nat×α)→Nat→List (Nat×α)
 |[],_=>[]
 |(i,v)::r,k=>bif Nat.beq i k then du r k else(i,v)::du r k
theorem mN{α:Type}(b k:Nat):∀l:List (Nat×α),aN (du l b) k=if b=k then none else aN l k
 |[]=>by by_cases h:b=k<;>simp[du,aN,h]
 |(i,v)::r=>by
  rw[dr];show aN (bif Nat.beq i b then du r b else(i,v)::du r b) k=_
  by_cases h:i=b
  ·subst h;rw[show Nat.beq i i=true from ij i];show aN (du r i) k=_;rw[mN i k r]
   by_cases z:i=k
   ·simp[z]
   simp[z]
  have A:Nat.beq i b=false:=by
   cases A:Nat.beq i b
   ·rfl
   exact absurd (cD A) h
  rw[A];show aN ((i,v)::du r b) k=_;rw[dr,mN b k r]
  by_cases z:i=k
  ·subst z;rw[bj rfl,aZ (fun e=>h e.symm),bj rfl]
  rw[aZ z,aZ z]
mutual
def aG(H:ay)(X:Nat→Prop)(β:Nat→Nat):VV→ak→Prop
 |.d x,a=>bK H X x a
 |.agg l,a=>∃cs,a= .agg cs∧aY H X β l cs
 |.tuple l,a=>∃cs,a= .tuple cs∧aY H X β l cs
 |.vp b off,a=>a= .ptr (β b) 1 off
 |.bp b g q off es,a=>a= .ptr (β b) g (q*es+off)
 |.rp row off,a=>∃f g Q l,a= .ptr f g (Q*l.length+off)∧lj H f g Q l∧bZ H X row l∧¬X f∧f<H.next
 |.bs b n es,a=>a= .slice (β b) n 0 n es
 |.ac b n es,a=>(n=0∧a= .fL)∨(0<n∧a= .slice (β b) n 0 n es)
 |.fn f eG,a=>∃cs,a= .func f [] cs∧aY H X β eG cs
 |.k x,a=>a=x
 |.iq,a=>∃t x,a= .iface t x
 |.undef,_=>True
def aY(H:ay)(X:Nat→Prop)(β:Nat→Nat):List VV→List ak→Prop
 |[],l=>l=[]
 |v::r,l=>∃a s,l=a::s∧aG H X β v a∧aY H X β r s
end
mutual
def VV.nb:VV→Prop
 |.d _=>True
 |.agg l=>mH l
 |.tuple l=>mH l
 |.vp _ _=>False
 |.bp _ _ _ _ _=>False
 |.rp _ _=>True
 |.bs _ _ _=>False
 |.ac _ _ _=>False
 |.fn _ eG=>mH eG
 |.k _=>True
 |.iq=>True
 |.undef=>True
def mH:List VV→Prop
 |[]=>True
 |v::r=>v.nb∧mH r
end
mutual
def VV.no(b:Nat):VV→Bool
 |.d _=>true
 |.agg l=>sg b l
 |.tuple l=>sg b l
 |.vp c _=>!Nat.beq c b
 |.bp c _ _ _ _=>!Nat.beq c b
 |.rp _ _=>true
 |.bs c _ _=>!Nat.beq c b
 |.ac c _ _=>!Nat.beq c b
 |.fn _ eG=>sg b eG
 |.k _=>true
 |.iq=>true
 |.undef=>true
def sg(b:Nat):List VV→Bool
 |[]=>true
 |v::r=>v.no b&&sg b r
end
def BS.no(b:Nat):BS→Bool
 |.one _ _ row=>sg b row
 |.arr _ _ _ _ _=>true
 |.acc _ _ _ _=>true
 |.db _ s=>s.no b
def nr(b:Nat):bq→Bool
 |[]=>true
 |(_,v)::r=>v.no b&&nr b r
def jU(b:Nat):Bool:=Nat.ble 1000 b&&Nat.ble b 1049
def lW(b:Nat):aU→Bool
 |[]=>!jU b
 |(c,s)::r=>!Nat.beq c b&&s.no b&&lW b r
section
variable{H H':ay}{X X':Nat→Prop}{β β':Nat→Nat}
theorem oO{c b:Nat}(h:(!Nat.beq c b)=true):c≠b:=by
 rintro rfl;rw[show Nat.beq c c=true from ij c] at h
 cases h
mutual
theorem aG.lift(z:fc H X H' X'):∀{v:VV}{a:ak},aG H X β v a→aG H' X' β v a
 |.d x,_,h=>by simp only[aG] at h⊢;exact bK.lift z h
 |.agg l,_,h=>by
  simp only[aG] at h⊢;obtain⟨cs,e,h⟩:=h;exact⟨cs,e,aY.lift z h⟩
 |.tuple l,_,h=>by
  simp only[aG] at h⊢;obtain⟨cs,e,h⟩:=h;exact⟨cs,e,aY.lift z h⟩
 |.vp b off,_,h=>by simp only[aG] at h⊢;exact h
 |.bp b g q off es,_,h=>by simp only[aG] at h⊢;exact h
 |.rp row off,_,h=>by
  simp only[aG] at h⊢;obtain⟨f,g,Q,l,e,I,h2,G,A⟩:=h;exact⟨f,g,Q,l,e,I.gg (z.same f A G).2,bZ.lift z h2,(z.same f A G).1,jj A z.next⟩
 |.bs b n es,_,h=>by simp only[aG] at h⊢;exact h
 |.ac b n es,_,h=>by simp only[aG] at h⊢;exact h
 |.fn f eG,_,h=>by
  simp only[aG] at h⊢;obtain⟨cs,e,h⟩:=h;exact⟨cs,e,aY.lift z h⟩
 |.k x,_,h=>by simp only[aG] at h⊢;exact h
 |.iq,_,h=>by simp only[aG] at h⊢;exact h
 |.undef,_,_=>by simp only[aG]
theorem aY.lift(z:fc H X H' X'):∀{l:List VV}{s:List ak},aY H X β l s→aY H' X' β l s
 |[],_,h=>by simp only[aY] at h⊢;exact h
 |v::r,_,h=>by
  simp only[aY] at h⊢;obtain⟨a,s,e,A,h2⟩:=h;exact⟨a,s,e,aG.lift z A,aY.lift z h2⟩
end
mutual
theorem aG.nb:∀{v:VV}{a:ak},v.nb→aG H X β v a→aG H X β' v a
 |.d x,_,_,h=>by simp only[aG] at h⊢;exact h
 |.agg l,_,n,h=>by
  simp only[aG,VV.nb] at h n⊢;obtain⟨cs,e,h⟩:=h;exact⟨cs,e,aY.nb n h⟩
 |.tuple l,_,n,h=>by
  simp only[aG,VV.nb] at h n⊢;obtain⟨cs,e,h⟩:=h;exact⟨cs,e,aY.nb n h⟩
 |.vp b off,_,n,_=>by simp only[VV.nb] at n
 |.bp b g q off es,_,n,_=>by simp only[VV.nb] at n
 |.rp row off,_,_,h=>by simp only[aG] at h⊢;exact h
 |.bs b m es,_,n,_=>by simp only[VV.nb] at n
 |.ac b m es,_,n,_=>by simp only[VV.nb] at n
 |.fn f eG,_,n,h=>by
  simp only[aG,VV.nb] at h n⊢;obtain⟨cs,e,h⟩:=h;exact⟨cs,e,aY.nb n h⟩
 |.k x,_,_,h=>by simp only[aG] at h⊢;exact h
 |.iq,_,_,h=>by simp only[aG] at h⊢;exact h
 |.undef,_,_,_=>by simp only[aG]
theorem aY.nb:∀{l:List VV}{s:List ak},mH l→aY H X β l s→aY H X β' l s
 |[],_,_,h=>by simp only[aY] at h⊢;exact h
 |v::r,_,n,h=>by
  simp only[aY,mH] at h n⊢;obtain⟨a,s,e,z,h2⟩:=h;exact⟨a,s,e,aG.nb n.1 z,aY.nb n.2 h2⟩
end
mutual
theorem aG.no{b f:Nat}:∀{v:VV}{a:ak},v.no b=true→aG H X β v a→aG H X (fun c=>if c=b then f else β c) v a
 |.d x,_,_,h=>by simp only[aG] at h⊢;exact h
 |.agg l,_,n,h=>by
  simp only[aG,VV.no] at h n⊢;obtain⟨cs,e,h⟩:=h;exact⟨cs,e,aY.no n h⟩
 |.tuple l,_,n,h=>by
  simp only[aG,VV.no] at h n⊢;obtain⟨cs,e,h⟩:=h;exact⟨cs,e,aY.no n h⟩
 |.vp c off,_,n,h=>by simp only[aG,VV.no] at h n⊢;rw[aZ (oO n)];exact h
 |.bp c g q off es,_,n,h=>by simp only[aG,VV.no] at h n⊢;rw[aZ (oO n)];exact h
 |.rp row off,_,_,h=>by simp only[aG] at h⊢;exact h
 |.bs c m es,_,n,h=>by simp only[aG,VV.no] at h n⊢;rw[aZ (oO n)];exact h
 |.ac c m es,_,n,h=>by simp only[aG,VV.no] at h n⊢;rw[aZ (oO n)];exact h
 |.fn f eG,_,n,h=>by
  simp only[aG,VV.no] at h n⊢;obtain⟨cs,e,h⟩:=h;exact⟨cs,e,aY.no n h⟩
 |.k x,_,_,h=>by simp only[aG] at h⊢;exact h
 |.iq,_,_,h=>by simp only[aG] at h⊢;exact h
 |.undef,_,_,_=>by simp only[aG]
theorem aY.no{b f:Nat}:∀{l:List VV}{s:List ak},sg b l=true→aY H X β l s→aY H X (fun c=>if c=b then f else β c) l s
 |[],_,_,h=>by simp only[aY] at h⊢;exact h
 |v::r,_,n,h=>by
  simp only[aY,sg,cU] at h n⊢;obtain⟨a,s,e,z,h2⟩:=h;exact⟨a,s,e,aG.no n.1 z,aY.no n.2 h2⟩
end
theorem aY.length:∀{l:List VV}{s:List ak},aY H X β l s→s.length=l.length
 |[],_,h=>by simp only[aY] at h;subst h;rfl
 |v::r,_,h=>by
  simp only[aY] at h;obtain⟨a,s,rfl,_,h2⟩:=h;simp[aY.length h2]
theorem aY.get:∀{l:List VV}{s:List ak},aY H X β l s→∀{i:Nat}{v:VV},l[i]?=some v→∃a,s[i]?=some a∧aG H X β v a
 |[],_,_,i,v,hi=>by simp at hi
 |x::r,_,h,i,v,hi=>by
  simp only[aY] at h;obtain⟨a,s,rfl,z,h2⟩:=h
  cases i with
  |zero=>simp at hi;subst hi;exact⟨a,rfl,z⟩
  |succ i=>simpa using aY.get h2 (i:=i) (v:=v) (by simpa using hi)
theorem aY.append:∀{l m:List VV}{s t:List ak},aY H X β l s→aY H X β m t→aY H X β (l++m) (s++t)
 |[],_,_,_,h,k=>by simp only[aY] at h;subst h;exact k
 |x::r,_,_,_,h,k=>by
  simp only[aY] at h;obtain⟨a,s,rfl,z,h2⟩:=h;simp only[El,aY];exact⟨a,_,rfl,z,aY.append h2 k⟩
theorem aY.drop:∀{l:List VV}{s:List ak}(n:Nat),aY H X β l s→aY H X β (l.drop n) (s.drop n)
 |_,_,0,h=>h
 |[],_,n+1,h=>by simp only[aY] at h;subst h;simp[aY]
 |x::r,_,n+1,h=>by
  simp only[aY] at h;obtain⟨a,s,rfl,_,h2⟩:=h;simpa using aY.drop n h2
theorem aY.take:∀{l:List VV}{s:List ak}(n:Nat),aY H X β l s→aY H X β (l.take n) (s.take n)
 |_,_,0,h=>by simp[aY]
 |[],_,n+1,h=>by simp only[aY] at h;subst h;simp[aY]
 |x::r,_,n+1,h=>by
  simp only[aY] at h;obtain⟨a,s,rfl,z,h2⟩:=h;simp only[vh,aY];exact⟨a,_,rfl,z,aY.take n h2⟩
theorem aY.sI:∀{row:List DC}{l:List ak},bZ H X row l→aY H X β (row.map .d) l
 |[],_,h=>by simp only[bZ] at h;subst h;simp[aY]
 |d::r,_,h=>by
  simp only[bZ] at h;obtain⟨a,s,rfl,z,h2⟩:=h;simp only[jz,aY,aG];exact⟨a,s,rfl,z,aY.sI h2⟩
theorem bZ.Gj:∀{row:List DC}{l:List ak},aY H X β (row.map .d) l→bZ H X row l
 |[],_,h=>by simpa[aY,bZ] using h
 |d::r,_,h=>by
  simp only[jz,aY,aG] at h;obtain⟨a,s,rfl,z,h2⟩:=h;simp only[bZ];exact⟨a,s,rfl,z,bZ.Gj h2⟩
end
def XB(X0:Nat→Prop)(B:aU)(β:Nat→Nat)(f:Nat):Prop:=X0 f∨∃b s,aN B b=some s∧s.born∧β b=f
def dq(H:ay)(X:Nat→Prop)(β:Nat→Nat)(f:Nat):BS→Prop
 |.one elem aE row=>∃l lo cs,H.t.get f=some (.row elem l.length aE 1 lo 0 cs)∧lo≤1∧cs.get 0=some l∧aY H X β row l
 |.arr elem aE es lo rows=>∃z cs,H.t.get f=some (.row elem es aE rows.length z 0 cs)∧z≤lo∧lo≤rows.length∧∀q row,rows[q]?=some row→∃l,cs.get q=some l∧l.length=es∧bZ H X row l
 |.acc elem aE es rows=>rows=[]∨∃lo cs,H.t.get f=some (.row elem es aE rows.length lo 0 cs)∧lo≤rows.length∧∀q row,rows[q]?=some row→∃l,cs.get q=some l∧l.length=es∧bZ H X row l
 |.db g s=>(s.born→f=g)∧dq H X β f s
theorem Qs{b:Nat}:∀{B:aU},lW b B=true→jU b=false
 |[],h=>by simpa[lW] using h
 |(_,_)::r,h=>by
  simp only[lW,cU] at h;exact Qs h.2
structure Rel(H0:Nat→Nat)(X0:Nat→Prop)(VE:bq)(B:aU)(E:Env)(H:ay)(β:Nat→Nat):Prop where
 kY:∀b,jU b=true→β b=H0 b
 aQ:H.aQ≤H.next
 x0:∀f,X0 f→f<H.next
 new:∀b s,aN B b=some s→s.born→¬X0 (β b)∧β b<H.next
 inj:∀b c s t,aN B b=some s→aN B c=some t→s.born→t.born→β b=β c→b=c
 env:∀k v,aN VE (Key.n k)=some v→∃a,E.get k=some a∧aG H (XB X0 B β) β v a
 box:∀b s,aN B b=some s→dq H (XB X0 B β) β (β b) s
theorem dq.lift{H H':ay}{X X':Nat→Prop}{β:Nat→Nat}(I:fc H X H' X'){f:Nat}(L:H'.t.get f=H.t.get f):∀{s:BS},dq H X β f s→dq H' X' β f s
 |.one _ _ _,h=>by
  obtain⟨l,lo,cs,A,h2,M,G⟩:=h;exact⟨l,lo,cs,L.trans A,h2,M,aY.lift I G⟩
 |.arr _ _ _ _ _,h=>by
  obtain⟨z,cs,A,h2,M,G⟩:=h;refine⟨z,cs,L.trans A,h2,M,fun q row O=>?_⟩;obtain⟨l,U,Y,Z⟩:=G q row O;exact⟨l,U,Y,bZ.lift I Z⟩
 |.acc _ _ _ _,h=>by
  rcases h with h|⟨z,cs,A,h2,G⟩
  ·exact .inl h
  refine .inr ⟨z,cs,L.trans A,h2,fun q row O=>?_⟩;obtain⟨l,U,Y,Z⟩:=G q row O;exact⟨l,U,Y,bZ.lift I Z⟩
 |.db _ s,h=>⟨h.1,dq.lift I L (s:=s) h.2⟩
theorem dq.adA{H:ay}{X:Nat→Prop}{β:Nat→Nat}{f:Nat}:∀{s:BS},¬s.born→dq H X β f s
 |.one _ _ _,h=>absurd trivial h
 |.arr _ _ _ _ _,h=>absurd trivial h
 |.acc _ _ _ rows,h=>.inl (by
  cases rows with
  |nil=>rfl
  |cons x r=>exact absurd (fun e:x::r=[]=>by cases e) h)
 |.db _ s,h=>⟨fun z=>absurd z h,dq.adA (s:=s) h⟩
theorem dq.VG{H:ay}{X:Nat→Prop}{β:Nat→Nat}{b g f:Nat}:∀{s:BS},s.no b=true→dq H X β f s→dq H X (fun c=>if c=b then g else β c) f s
 |.one _ _ _,z,⟨l,lo,cs,A,G,I,L⟩=>⟨l,lo,cs,A,G,I,aY.no z L⟩
 |.arr _ _ _ _ _,_,h=>h
 |.acc _ _ _ _,_,h=>h
 |.db _ s,z,h=>⟨h.1,dq.VG (s:=s) z h.2⟩
theorem dq.H4{H H':ay}{X X':Nat→Prop}{β:Nat→Nat}(A:fc H X H' X'){f:Nat}{s:BS}(G:s.born→H'.t.get f=H.t.get f)(h:dq H X β f s):dq H' X' β f s:=by
 by_cases z:s.born
 ·exact h.lift A (G z)
 exact .adA z
section
variable{T:aO}{H0:Nat→Nat}{X0:Nat→Prop}{VE:bq}{B:aU}{E:Env}{H:ay}{β:Nat→Nat}
theorem Rel.grow(h:Rel H0 X0 VE B E H β){H':ay}(A:H.next≤H'.next)(I:∀f,f<H.next→H'.t.get f=H.t.get f)(M:H'.aQ≤H'.next):Rel H0 X0 VE B E H' β:=by
 have L:fc H (XB X0 B β) H' (XB X0 B β):=⟨A,fun f G O=>⟨O,I f G⟩⟩;refine⟨h.kY,M,fun f G=>jj (h.x0 f G) A,fun b s z ho=>⟨(h.new b s z ho).1,jj (h.new b s z ho).2 A⟩,h.inj,fun k v U=>?_,fun b s z=>(h.box b s z).H4 L fun ho=>I _ (h.new b s z ho).2⟩;obtain⟨a,Y,h2⟩:=h.env k v U;exact⟨a,Y,h2.lift L⟩
theorem Rel.set(h:Rel H0 X0 VE B E H β){d:Key}{v:VV}{a:ak}(A:aG H (XB X0 B β) β v a):Rel H0 X0 ((d.n,v)::VE) B (E.set d a) H β:=by
 refine{h with env:=fun k w z=>?_};rw[dr] at z;rw[T4.dn]
 by_cases e:d.n=k.n
 ·rw[bj e] at z
  cases z
  exact⟨a,by rw[bj (Key.inj e).symm],A⟩
 rw[aZ e] at z;rw[aZ (fun G=>e (by rw[G]))];exact h.env k w z
theorem Rel.less(h:Rel H0 X0 VE B E H β){bH:bq}(z:∀k v,aN bH k=some v→aN VE k=some v):Rel H0 X0 bH B E H β:=
 {h with env:=fun k v A=>h.env k v (z _ v A)}
theorem Rel.drop(h:Rel H0 X0 VE B E H β)(b:Nat):Rel H0 X0 VE (du B b) E H β:=by
 have A:∀c s,aN (du B b) c=some s→aN B c=some s∧b≠c:=fun c s z=>by
  rw[mN] at z
  by_cases e:b=c
  ·rw[bj e] at z;cases z
  rw[aZ e] at z;exact⟨z,e⟩
 have I:fc H (XB X0 B β) H (XB X0 (du B b) β):=⟨bt _,fun f _ L=>⟨fun k=>L (k.imp id fun⟨c,s,G,h2⟩=>⟨c,s,(A c s G).1,h2⟩),rfl⟩⟩;refine⟨h.kY,h.aQ,h.x0,fun c s z ho=>h.new c s (A c s z).1 ho,fun c e s t z M O U=>h.inj c e s t (A c s z).1 (A e t M).1 O U,fun k v Y=>?_,fun c s z=>(h.box c s (A c s z).1).lift I rfl⟩;obtain⟨a,G,h2⟩:=h.env k v Y;exact⟨a,G,h2.lift I⟩
theorem K8{b:Nat}:∀{VE:bq},nr b VE=true→∀{k:Nat}{v:VV},aN VE k=some v→v.no b=true
 |[],_,_,_,h=>by cases h
 |(i,w)::r,z,k,v,h=>by
  simp only[nr,cU] at z;rw[dr] at h
  by_cases e:i=k
  ·rw[bj e] at h;cases h;exact z.1
  rw[aZ e] at h;exact K8 z.2 h
theorem K9{b:Nat}:∀{B:aU},lW b B=true→∀{c:Nat}{s:BS},aN B c=some s→c≠b∧s.no b=true
 |[],_,_,_,h=>by cases h
 |(i,w)::r,z,c,s,h=>by
  simp only[lW,cU] at z;rw[dr] at h
  by_cases e:i=c
  ·rw[bj e] at h;cases h;exact⟨e▸oO z.1.1,z.1.2⟩
  rw[aZ e] at h;exact K9 z.2 h
theorem Rel.newBox(h:Rel H0 X0 VE B E H β){b:Nat}(hE:nr b VE=true)(hB:lW b B=true){H':ay}(hn:H'.next=H.next+1)(hs:∀f,f<H.next→H'.t.get f=H.t.get f)(hm:H'.aQ=H.aQ){s:BS}
  (VH:∀X β',(∀v a,v.no b=true→aG H (XB X0 B β) β v a→aG H' X β' v a)→(∀row l,bZ H (XB X0 B β) row l→bZ H' X row l)→dq H' X β' H.next s):
  ∃β',(β' b=H.next∧∀c,c≠b→β' c=β c)∧Rel H0 X0 VE ((b,s)::B) E H' β'∧∀v a,v.no b=true→aG H (XB X0 B β) β v a→aG H' (XB X0 ((b,s)::B) β') β' v a:=by
 let β':Nat→Nat:=fun c=>if c=b then H.next else β c
 have G:β' b=H.next:=bj rfl;have z:∀c,c≠b→β' c=β c:=fun c A=>aZ A
 have hg:∀c t,aN ((b,s)::B) c=some t→(c=b∧t=s)∨(c≠b∧aN B c=some t∧t.no b=true):=fun c t A=>by
  rw[dr] at A
  by_cases e:b=c
  ·rw[bj e] at A;cases A;exact .inl ⟨e.symm,rfl⟩
  rw[aZ e] at A;exact .inr ⟨fun k=>e k.symm,A,(K9 hB A).2⟩
 have hl:fc H (XB X0 B β) H' (XB X0 ((b,s)::B) β'):=⟨aq,fun f hf hx=>⟨fun k=>by
  rcases k with k|⟨c,t,h1,ho,h2⟩
  ·exact hx (.inl k)
  rcases hg c t h1 with⟨rfl,rfl⟩|⟨A,M,_⟩
  ·rw[G] at h2;omega
  exact hx (.inr ⟨c,t,M,ho,by rw[←h2,z c A]⟩),hs f hf⟩⟩
 have hv:∀v a,v.no b=true→aG H (XB X0 B β) β v a→aG H' (XB X0 ((b,s)::B) β') β' v a:=fun v a Y hr=>(aG.no Y hr).lift hl
 have A:∀row l,bZ H (XB X0 B β) row l→bZ H' (XB X0 ((b,s)::B) β') row l:=fun row l hr=>hr.lift hl
 refine⟨β',⟨G,z⟩,⟨(fun c A=>(z c fun e=>by rw[e,Qs hB] at A;cases A).trans (h.kY c A)),by have:=h.aQ;omega,(fun f hf=>by have:=h.x0 f hf;omega),fun c t L O=>?_,fun c e t u L Xy O JZ U=>?_,fun k v hk=>?_,fun c t L=>?_⟩,hv⟩
 ·rcases hg c t L with⟨rfl,rfl⟩|⟨I,M,_⟩
  ·rw[G];exact⟨(fun hx=>by have:=h.x0 _ hx;omega),aq⟩
  rw[z c I];have:=h.new c t M O;exact⟨this.1,aq⟩
 ·rcases hg c t L with⟨rfl,rfl⟩|⟨I,M,_⟩<;>rcases hg e u Xy with⟨rfl,rfl⟩|⟨J0,h4,_⟩
  ·rfl
  ·rw[G,z e J0] at U;have:=h.new e u h4 JZ;omega
  ·rw[G,z c I] at U;have:=h.new c t M O;omega
  rw[z c I,z e J0] at U;exact h.inj c e t u M h4 O JZ U
 ·obtain⟨a,h1,h2⟩:=h.env k v hk;exact⟨a,h1,hv v a (K8 hE hk) h2⟩
 rcases hg c t L with⟨rfl,rfl⟩|⟨I,M,Y⟩
 ·rw[G];exact VH _ _ hv A
 rw[z c I];have ho:=h.box c t M;have Z:t.born→H'.t.get (β c)=H.t.get (β c):=fun ho=>hs _ (h.new c t M ho).2
 exact dq.H4 (X:=XB X0 B β) hl Z (dq.VG Y ho)
end
section
variable{T:aO}
theorem gF.mono{op:bm}{E:Env}{H:ay}{Q z:ak→ay→Prop}(h:gF T op E H Q)(k:∀v H',Q v H'→z v H'):gF T op E H z:=
 let⟨N,v,H',a,b⟩:=h;⟨N,v,H',a,k _ _ b⟩
theorem oB.mono{ops:List bl}{E:Env}{H:ay}{Q z:Env→ay→Prop}(h:oB T ops E H Q)(k:∀v H',Q v H'→z v H'):oB T ops E H z:=
 let⟨N,v,H',a,b⟩:=h;⟨N,v,H',a,k _ _ b⟩
theorem JY.mono{ops:List bl}{E:Env}{H:ay}{r:List FP}{Q z:Env→ay→Prop}(h:JY T ops E H r Q)(k:∀v H',Q v H'→z v H'):JY T ops E H r z:=
 let⟨N,v,H',a,b⟩:=h;⟨N,v,H',a,k _ _ b⟩
structure gA(B:aU)(β:Nat→Nat)(H:ay)(W:Nat→Prop)(B':aU)(β':Nat→Nat)(H':ay):Prop where
 aQ:H'.aQ=H.aQ
 next:H.next≤H'.next
 ws:∀f,f∈H'.ws→f∈H.ws∨(f<H.aQ∧∃b s,W b∧aN B b=some s∧s.born∧β b=f)
 since:∀b s,aN B' b=some s→s.born→(∃t,aN B b=some t∧t.born∧β' b=β b)∨H.next≤β' b
 ns:∀f,f<H.next→(∀b s,aN B b=some s→s.born→β b≠f)→H'.t.get f=H.t.get f
theorem gA.refl{B:aU}{β:Nat→Nat}{H:ay}{W:Nat→Prop}:gA B β H W B β H:=
 ⟨rfl,bt _,fun _ h=>.inl h,fun _ s z h2=>.inl ⟨s,z,h2,rfl⟩,fun _ _ _=>rfl⟩
theorem gA.more{B L B':aU}{β β':Nat→Nat}{H H':ay}{W:Nat→Prop}(h:gA L β H W B' β' H')(k:∀b s,aN L b=some s→s.born→∃t,aN B b=some t∧t.born):gA B β H W B' β' H':=
 ⟨h.aQ,h.next,fun f G=>(h.ws f G).imp id fun⟨a,b,s,c,d,e,g⟩=>by obtain⟨t,z,A⟩:=k b s d e;exact⟨a,b,t,c,z,A,g⟩,
  fun b s I h2=>(h.since b s I h2).imp (fun⟨t,a,c,d⟩=>by obtain⟨u,z,A⟩:=k b t a c;exact⟨u,z,A,d⟩) id,
  fun f G M=>h.ns f G fun b s I h2=>by obtain⟨t,z,A⟩:=k b s I h2;exact M b t z A⟩
theorem gA.MO{B z B':aU}{β β':Nat→Nat}{H H':ay}{W:Nat→Prop}(h:gA B β H W z β' H')(k:∀b s,aN B' b=some s→s.born→∃t,aN z b=some t∧t.born):gA B β H W B' β' H':=
 ⟨h.aQ,h.next,h.ws,fun b s A h2=>by obtain⟨t,G,I⟩:=k b s A h2;exact h.since b t G I,h.ns⟩
theorem gA.trans{B M O:aU}{β A G:Nat→Nat}{H H1 U:ay}{W W1:Nat→Prop}(h:gA B β H W M A H1)(k:gA M A H1 W1 O G U)(hm:H.aQ≤H.next):gA B β H (fun _=>True) O G U:=by
 refine⟨k.aQ.trans h.aQ,eZ h.next k.next,fun f z=>?_,fun b s I h2=>?_,fun f z Y=>?_⟩
 ·rcases k.ws f z with z|⟨a,b,s,_,c,d,e⟩
  ·rcases h.ws f z with z|⟨a,b,s,_,c,d,e⟩
   ·exact .inl z
   exact .inr ⟨a,b,s,trivial,c,d,e⟩
  rw[h.aQ] at a;rcases h.since b s c d with⟨t,Z,k2,k3⟩|Z
  ·exact .inr ⟨a,b,t,trivial,Z,k2,by rw[←k3,e]⟩
  omega
 ·rcases k.since b s I h2 with⟨t,a,c,d⟩|a
  ·rcases h.since b t a c with⟨u,L,c',d'⟩|L
   ·exact .inl ⟨u,L,c',d.trans d'⟩
   exact .inr (by rw[d];exact L)
  exact .inr (eZ h.next a)
 rw[k.ns f (jj z h.next) fun b s I h2 he=>?_,h.ns f z Y];rcases h.since b s I h2 with⟨t,a,c,d⟩|a
 ·exact Y b t a c (by rw[←d];exact he)
 omega
def DS(H0:Nat→Nat)(X0:Nat→Prop)(VE:bq)(B:aU)(β:Nat→Nat)(E:Env)(H:ay)(W:List Nat)(Q:VV→aU→Prop)(a:ak)(H':ay):Prop:=
 ∃v B' β',gA B β H (· ∈W) B' β' H'∧Rel H0 X0 VE B' E H' β'∧aG H' (XB X0 B' β') β' v a∧Q v B'
def VI(T:aO)(op:bm)(VE:bq)(B:aU)(W:List Nat)(Q:VV→aU→Prop):Prop:=
 ∀H0 X0 E H β,Rel H0 X0 VE B E H β→gF T op E H (DS H0 X0 VE B β E H W Q)
def vo(H0:Nat→Nat)(X0:Nat→Prop)(B:aU)(β:Nat→Nat)(H:ay)(Q:bq→aU→Prop)(E':Env)(H':ay):Prop:=
 ∃bH B' β',gA B β H (fun _=>True) B' β' H'∧Rel H0 X0 bH B' E' H' β'∧Q bH B'
def VO(T:aO)(ops:List bl)(VE:bq)(B:aU)(Q:bq→aU→Prop):Prop:=
 ∀H0 X0 E H β,Rel H0 X0 VE B E H β→oB T ops E H (vo H0 X0 B β H Q)
inductive FL where
 |rd (R:List Nat)
 |qt
 |un
 |off (f:Nat)
 |wr (W:List Nat)
def rN(n:Nat)(B:aU)(β:Nat→Nat):FL→FP→Prop
 |.rd R,r=>r.ws=[]∧r.lo=r.hi∧∃l,r.rd=some l∧∀f,f∈l→f<n∧∀b s,aN B b=some s→s.born→β b=f→b∈R
 |.qt,r=>r.ws=[]
 |.un,_=>True
 |.off f,r=>f∉r.ws
 |.wr W,r=>∀f,f∈r.ws→f<n∧∀b s,aN B b=some s→s.born→β b=f→b∈W
def mI(n:Nat)(B:aU)(β:Nat→Nat)(fl:List FL)(bb:List FP):Prop:=
 bb.length=fl.length∧∀(i:Nat)x r,fl[i]?=some x→bb[i]?=some r→rN n B β x r
theorem rN.step{B B':aU}{β β':Nat→Nat}{H H':ay}{W:Nat→Prop}(A:gA B β H W B' β' H'):∀{x:FL}{r:FP},rN H.next B β x r→rN H'.next B' β' x r
 |.rd R,r,⟨O,h2,l,U,G⟩=>⟨O,h2,l,U,fun f z=>⟨jj (G f z).1 A.next,fun b s I L M=>by
  rcases A.since b s I L with⟨t,a,c,d⟩|a
  ·exact(G f z).2 b t a c (by rw[←d];exact M)
  have:=(G f z).1;omega⟩⟩
 |.qt,r,h=>h
 |.un,r,_=>trivial
 |.off _,r,h=>h
 |.wr W,r,h=>fun f z=>⟨jj (h f z).1 A.next,fun b s I L M=>by
  rcases A.since b s I L with⟨t,a,c,d⟩|a
  ·exact(h f z).2 b t a c (by rw[←d];exact M)
  have:=(h f z).1;omega⟩
theorem mI.step{B B':aU}{β β':Nat→Nat}{H H':ay}{W:Nat→Prop}{fl:List FL}{bb:List FP}(z:gA B β H W B' β' H')(h:mI H.next B β fl bb):mI H'.next B' β' fl bb:=
 ⟨h.1,fun i x r A h2=>(h.2 i x r A h2).step z⟩
theorem mI.cons{n:Nat}{B:aU}{β:Nat→Nat}{fl:List FL}{bb:List FP}{x:FL}{r:FP}(h:mI n B β fl bb)(k:rN n B β x r):mI n B β (x::fl) (r::bb):=
 ⟨by simp[h.1],fun i y z A h2=>by
  cases i with
  |zero=>simp at A h2;subst A;subst h2;exact k
  |succ i=>exact h.2 i y z (by simpa using A) (by simpa using h2)⟩
def VQ(T:aO)(ops:List bl)(VE:bq)(B:aU)(fl:List FL)(Q:bq→aU→Prop):Prop:=
 ∀H0 X0 E H β,Rel H0 X0 VE B E H β→∀bb:List FP,mI H.next B β fl bb→JY T ops E H bb (vo H0 X0 B β H Q)
def VC(T:aO)(c:IC)(VE:bq)(B:aU)(Q:Ex→bq→aU→Prop):Prop:=
 ∀H0 X0 E H β,Rel H0 X0 VE B E H β→j0 T c E H fun x=>vo H0 X0 B β H (Q x)
variable{VE bH:bq}{B B':aU}
theorem vo.of{H0:Nat→Nat}{X0:Nat→Prop}{H H1:ay}{A:aU}{β z:Nat→Nat}{W:Nat→Prop}{Q:bq→aU→Prop}{E':Env}{H':ay}(h:vo H0 X0 A z H1 Q E' H')(G:gA B β H W A z H1)(I:H.aQ≤H.next):vo H0 X0 B β H Q E' H':=by
 obtain⟨bH,B',β',L,h2,M⟩:=h;exact⟨bH,B',β',G.trans L I,h2,M⟩
variable{Q:bq→aU→Prop}{W:List Nat}
theorem Dq(h:Q VE B):VO T [] VE B Q:=fun _ _ _ _ β z=>wpO_nil ⟨VE,B,β,.refl,z,h⟩
theorem aw{d:Key}{qq:Option (List Nat)}{op:bm}{r:List bl}(h:VI T op VE B W fun v B'=>VO T r ((d.n,v)::VE) B' Q):VO T (⟨some d,none,qq,op⟩::r) VE B Q:=by
 intro H0 X0 E H β G;refine wpO_cons ((h H0 X0 E H β G).mono fun a H' z=>?_);obtain⟨v,B',β',I,A,L,M⟩:=z;exact(M H0 X0 _ H' β' (A.set L)).mono fun _ _ z=>z.of I G.aQ
theorem jv{qq:Option (List Nat)}{op:bm}{r:List bl}(h:VI T op VE B W fun _ B'=>VO T r VE B' Q):VO T (⟨none,none,qq,op⟩::r) VE B Q:=by
 intro H0 X0 E H β G;refine wpO_consN ((h H0 X0 E H β G).mono fun a H' z=>?_);obtain⟨v,B',β',I,A,M,L⟩:=z;exact(L H0 X0 _ H' β' A).mono fun _ _ z=>z.of I G.aQ
theorem Rel.bool{H0:Nat→Nat}{X0:Nat→Prop}{E:Env}{H:ay}{β:Nat→Nat}(z:Rel H0 X0 VE B E H β){g:Key}{t:Bool}(A:aN VE g.n=some (.d (.b t))):E.get g=some (.bool t):=by
 obtain⟨a,G,h2⟩:=z.env g _ A;simp only[aG,bK] at h2;rw[G,h2]
theorem vo_want{d g:Key}{want:Bool}{qq:Option (List Nat)}{op:bm}{r:List bl}(I:aN VE g.n=some (.d (.b want)))(h:VI T op VE B W fun v B'=>VO T r ((d.n,v)::VE) B' Q):VO T (⟨some d,some (g,want),qq,op⟩::r) VE B Q:=by
 intro H0 X0 E H β z;refine wpO_want (z.bool I) ((h H0 X0 E H β z).mono fun a H' A=>?_);obtain⟨v,B',β',L,G,M,O⟩:=A;exact(O H0 X0 _ H' β' (G.set M)).mono fun _ _ A=>A.of L z.aQ
theorem abi{ops:List bl}(z:∀k v,aN bH k=some v→aN VE k=some v)(h:VO T ops bH B Q):VO T ops VE B Q:=
 fun H0 X0 E H β A=>h H0 X0 E H β (A.less z)
theorem vo.more{H0:Nat→Nat}{X0:Nat→Prop}{H:ay}{z:aU}{β:Nat→Nat}{Q:bq→aU→Prop}{E':Env}{H':ay}(h:vo H0 X0 z β H Q E' H')(k:∀b s,aN z b=some s→s.born→∃t,aN B b=some t∧t.born):vo H0 X0 B β H Q E' H':=by
 obtain⟨bH,B',β',A,h2,G⟩:=h;exact⟨bH,B',β',A.more k,h2,G⟩
theorem xf{b:Nat}:∀c s,aN (du B b) c=some s→s.born→∃t,aN B c=some t∧t.born:=fun c s z h2=>by
 rw[mN] at z
 split at z
 ·cases z
 exact⟨s,z,h2⟩
theorem C5{ops:List bl}(b:Nat)(h:VO T ops VE (du B b) Q):VO T ops VE B Q:=
 fun H0 X0 E H β z=>(h H0 X0 E H β (z.drop b)).mono fun _ _ A=>A.more xf
theorem R1{fl:List FL}(h:Q VE B):VQ T [] VE B fl Q:=fun _ _ _ _ β z _ _=>⟨0,_,_,fun _ _ _ _=>rfl,VE,B,β,.refl,z,h⟩
theorem aT{fl:List FL}{d:Key}{op:bm}{r:List bl}(h:VI T op VE B W fun v B'=>VQ T r ((d.n,v)::VE) B' fl Q):VQ T (⟨some d,none,none,op⟩::r) VE B fl Q:=by
 intro H0 X0 E H β A bb I;obtain⟨N,a,H',e,v,B',β',G,z,L,M⟩:=h H0 X0 E H β A;obtain⟨O,U,Y,Z,hp⟩:=M H0 X0 _ H' β' (z.set L) bb (I.step G);refine⟨max N O,U,Y,fun lf n a1 a2=>?_,hp.of G A.aQ⟩;show bl.ji (T.call lf n) ⟨some d,none,none,op⟩ E H bb (iE (T.call lf n) r)=_;rw[uA,Zb rfl,e lf n aq aq,KR];exact Z lf n aq aq
theorem vq_want{fl:List FL}{d g:Key}{want:Bool}{op:bm}{r:List bl}(I:aN VE g.n=some (.d (.b want)))(h:VI T op VE B W fun v B'=>VQ T r ((d.n,v)::VE) B' fl Q):VQ T (⟨some d,some (g,want),none,op⟩::r) VE B fl Q:=by
 intro H0 X0 E H β z bb L;obtain⟨N,a,H',e,v,B',β',G,A,M,O⟩:=h H0 X0 E H β z;obtain⟨U,Y,Z,e2,hp⟩:=O H0 X0 _ H' β' (A.set M) bb (L.step G);refine⟨max N U,Y,Z,fun lf n a1 a2=>?_,hp.of G z.aQ⟩;show bl.ji (T.call lf n) ⟨some d,some (g,want),none,op⟩ E H bb (iE (T.call lf n) r)=_;rw[Kw (z.bool I),bj rfl,Zb rfl,e lf n aq aq,KR];exact e2 lf n aq aq
theorem uB{call:dG}{E:Env}{H:ay}{d:Option Key}{g:Option (Key×Bool)}{l:List Nat}{op:bm}{bb:List FP}{K:Env→ay→List FP→dD}{v:ak}{H1:ay}(h:op.ev call E H.mark= .ok v H1)(G:ma ⟨op.reads E,H1.ws,H.next,H1.next⟩ bb l=true):
  bl.pc call ⟨d,g,some l,op⟩ E H bb K=K (iK E d v) ⟨H1.next,H.aQ,oK H.aQ H.ws H1.ws,H1.t⟩ (⟨op.reads E,H1.ws,H.next,H1.next⟩::bb):=by
 cases H with
 |mk next aQ ws t=>cases H1 with
  |mk next' A z t'=>
   show cL next (fun next=>EA (op.reads E) l next aQ ws bb d E K (op.ev call E ⟨next,next,[],t⟩))=_;rw[fQ];have h:op.ev call E ⟨next,next,[],t⟩= .ok v ⟨next',A,z,t'⟩:=h;rw[h];have G:ma ⟨op.reads E,z,next,next'⟩ bb l=true:=G
   cases d with
   |none=>
    show aD (ma ⟨op.reads E,z,next,next'⟩ bb l) (K E ⟨next',aQ,oK aQ ws z,t'⟩ (⟨op.reads E,z,next,next'⟩::bb)) (.err 50)=_;rw[G];rfl
   |some d=>
    unfold EA;dsimp only;rw[G,et,T4.F8];rfl
def yW(x:Nat):List Nat→Bool
 |[]=>false
 |y::r=>Nat.beq x y||yW x r
theorem KS{x:Nat}:∀{l:List Nat},x∈l→yW x l=true
 |y::r,h=>by
  rcases List.mem_cons.1 h with rfl|h
  ·show(Nat.beq x x||yW x r)=true;rw[show Nat.beq x x=true from ij x];rfl
  show(Nat.beq x y||yW x r)=true;rw[KS h,Bool.or_true]
def I3(R:List Nat):List Nat→Bool
 |[]=>true
 |b::r=>!yW b R&&I3 R r
theorem aaq{R:List Nat}:∀{W:List Nat},I3 R W=true→∀b,b∈W→b∉R
 |c::r,h,b,z=>by
  simp only[I3,cU] at h;rcases List.mem_cons.1 z with rfl|z
  ·intro A;rw[KS A] at h;simp at h
  exact aaq h.2 b z
def mg(W:List Nat)(l:List Nat)(fl:List FL):Bool:=
 match l with
 |[]=>true
 |i::r=>(match fl[i]?with
  |some (.rd R)=>I3 R W
  |some .qt=>W.isEmpty
  |_=>false)&&mg W r fl
theorem aar{l m:List Nat}(h:∀f,f∈l→f∉m):DP l m=true:=by
 induction l with
 |nil=>rfl
 |cons x r z=>
  show aD (qy x m) false (DP r m)=true;rw[z fun f A=>h f (mu _ A)];have G:qy x m=false:=by
   cases I:qy x m
   ·rfl
   exact absurd ((Qm _ _).1 I) (h x (iI ..))
  rw[G];rfl
theorem P9(r:Option (List Nat)):HV [] r=true:=rfl
theorem PW{l m:List Nat}(h:∀f,f∈l→f∉m):HV l (some m)=true:=by
 cases l with
 |nil=>rfl
 |cons x r=>exact aar h
theorem ZL{n:Nat}:∀{l:List Nat},yT l n n=true
 |[]=>rfl
 |x::r=>by
  show aD (Nat.ble n x) (aD (Nat.ble n x) (yT r n n) false) (yT r n n)=true;rw[ZL]
  cases Nat.ble n x<;>rfl
theorem xg{n:Nat}{β:Nat→Nat}{fl:List FL}{bb:List FP}{fp:FP}(G:mI n B β fl bb)(M:∀f,f∈fp.ws→∃b s,b∈W∧aN B b=some s∧s.born∧β b=f):∀{l:List Nat},mg W l fl=true→ma fp bb l=true
 |[],_=>rfl
 |i::r,h=>by
  simp only[mg,cU] at h;obtain⟨hi,Z⟩:=h;show ob (bb[i]?) false (fun b=>aD (mQ fp b) (ma fp bb r) false)=true;have A:i<bb.length:=by
   rw[G.1]
   cases z:fl[i]?with
   |none=>rw[z] at hi;simp at hi
   |some x=>exact(List.getElem?_eq_some_iff.1 z).1
  rw[dm A,cS];have L:i<fl.length:=by rw[←G.1];exact A
  have I:=G.2 i _ _ (dm L) (dm A);rw[dm L] at hi;have e:mQ fp bb[i]=true:=by
   unfold mQ
   cases z:fl[i] with
   |un=>rw[z] at hi;simp at hi
   |off _=>rw[z] at hi;simp at hi
   |wr _=>rw[z] at hi;simp at hi
   |qt=>
    rw[z] at hi I;have hW:W=[]:=by cases W with
     |nil=>rfl
     |cons _ _=>simp at hi
    have O:fp.ws=[]:=by
     cases hl:fp.ws with
     |nil=>rfl
     |cons f _=>
      obtain⟨b,_,Y,_⟩:=M f (by rw[hl];exact iI ..);rw[hW] at Y;cases Y
    have I:bb[i].ws=[]:=I;rw[O,I];rfl
   |rd R=>
    rw[z] at hi I;obtain⟨k1,k2,l,k3,k4⟩:=I;have hi:I3 R W=true:=hi;rw[k1,k2,k3,P9,PW (fun f G U=>?_),aar (fun f _ h=>by cases h),ZL]
    ·rfl
    obtain⟨b,s,h1,h2,h3,h4⟩:=M f G;exact aaq hi b h1 ((k4 f U).2 b s h2 h3 h4)
  rw[e,et];exact xg G M Z
theorem gA.mark{β β':Nat→Nat}{H H1:ay}(h:gA B β H.mark (· ∈W) B' β' H1):gA B β H (· ∈W) B' β' ⟨H1.next,H.aQ,oK H.aQ H.ws H1.ws,H1.t⟩:=by
 cases H with
 |mk next aQ ws t=>
  refine⟨rfl,h.next,fun f z=>?_,h.since,h.ns⟩;rcases(FD _ _ _ _).1 z with z|⟨z,k⟩
  ·exact .inl z
  rcases h.ws f z with z|⟨a,A⟩
  ·cases z
  exact .inr ⟨k,A⟩
theorem uK{H0:Nat→Nat}{X0:Nat→Prop}{E:Env}{H:ay}{β:Nat→Nat}{op:bm}{Q:VV→aU→Prop}(h:VI T op VE B W Q)(L:Rel H0 X0 VE B E H β):
  gF T op E H.mark fun a H1=>(∀f,f∈H1.ws→∃b s,b∈W∧aN B b=some s∧s.born∧β b=f)∧∃v B' β',gA B β H (· ∈W) B' β' ⟨H1.next,H.aQ,oK H.aQ H.ws H1.ws,H1.t⟩∧Rel H0 X0 VE B' E ⟨H1.next,H.aQ,oK H.aQ H.ws H1.ws,H1.t⟩ β'∧aG ⟨H1.next,H.aQ,oK H.aQ H.ws H1.ws,H1.t⟩ (XB X0 B' β') β' v a∧Q v B':=by
 have z:H.mark.aQ=H.next∧H.mark.ws=[]∧H.mark.next=H.next∧H.mark.t=H.t:=by cases H;exact⟨rfl,rfl,rfl,rfl⟩
 have A:Rel H0 X0 VE B E H.mark β:=L.grow (by rw[z.2.2.1];exact bt _) (fun f _=>by rw[z.2.2.2]) (by rw[z.1,z.2.2.1];exact bt _);refine(h H0 X0 E H.mark β A).mono fun a H1 M=>?_
 obtain⟨v,B',β',G,I,O,U⟩:=M;have Y:H.aQ≤H1.next:=by
  have h1:=L.aQ;have h2:=G.next;rw[z.2.2.1] at h2;omega
 have Z:fc H1 (XB X0 B' β') ⟨H1.next,H.aQ,oK H.aQ H.ws H1.ws,H1.t⟩ (XB X0 B' β'):=⟨bt _,fun _ _ hx=>⟨hx,rfl⟩⟩;refine⟨fun f hf=>?_,v,B',β',G.mark,I.grow (bt _) (fun _ _=>rfl) Y,O.lift Z,U⟩;rcases G.ws f hf with h|⟨_,b,s,h⟩
 ·rw[z.2.1] at h;cases h
 exact⟨b,s,h⟩
def tU:List Nat→FL
 |[]=>.qt
 |_=>.un
theorem QZ{n:Nat}{β:Nat→Nat}{fp:FP}(A:∀f,f∈fp.ws→∃b s,b∈W∧aN B b=some s∧s.born∧β b=f){G:aU}{z:Nat→Nat}:rN n G z (tU W) fp:=by
 cases W with
 |cons _ _=>trivial
 |nil=>
  show fp.ws=[]
  cases I:fp.ws with
  |nil=>rfl
  |cons f _=>
   obtain⟨b,_,L,_⟩:=A f (by rw[I];exact iI ..)
   cases L
theorem aP{fl:List FL}{d:Key}{l:List Nat}{op:bm}{r:List bl}(M:mg W l fl=true)(h:VI T op VE B W fun v B'=>VQ T r ((d.n,v)::VE) B' (tU W::fl) Q):VQ T (⟨some d,none,some l,op⟩::r) VE B fl Q:=by
 intro H0 X0 E H β A bb G;obtain⟨N,a,H',e,I,v,B',β',L,z,O,U⟩:=uK h A;obtain⟨Y,Z,H2,e2,hp⟩:=U H0 X0 _ _ β' (z.set O) (⟨op.reads E,H'.ws,H.next,H'.next⟩::bb) ((G.step L).cons (QZ I));refine⟨max N Y,Z,H2,fun lf n a1 a2=>?_,hp.of L A.aQ⟩;show bl.ji (T.call lf n) ⟨some d,none,some l,op⟩ E H bb (iE (T.call lf n) r)=_;rw[uA,uB (e lf n aq aq) (xg G I M)];exact e2 lf n aq aq
theorem iR{fl:List FL}{l:List Nat}{op:bm}{r:List bl}(M:mg W l fl=true)(h:VI T op VE B W fun _ B'=>VQ T r VE B' (tU W::fl) Q):VQ T (⟨none,none,some l,op⟩::r) VE B fl Q:=by
 intro H0 X0 E H β A bb G;obtain⟨N,a,H',e,I,v,B',β',L,z,hv,O⟩:=uK h A;obtain⟨U,Y,Z,e2,hp⟩:=O H0 X0 _ _ β' z (⟨op.reads E,H'.ws,H.next,H'.next⟩::bb) ((G.step L).cons (QZ I));refine⟨max N U,Y,Z,fun lf n a1 a2=>?_,hp.of L A.aQ⟩;show bl.ji (T.call lf n) ⟨none,none,some l,op⟩ E H bb (iE (T.call lf n) r)=_;rw[uA,uB (e lf n aq aq) (xg G I M)];exact e2 lf n aq aq
theorem vq_wantM{fl:List FL}{d g:Key}{want:Bool}{l:List Nat}{op:bm}{r:List bl}(M:aN VE g.n=some (.d (.b want)))(O:mg W l fl=true)(h:VI T op VE B W fun v B'=>VQ T r ((d.n,v)::VE) B' (tU W::fl) Q):VQ T (⟨some d,some (g,want),some l,op⟩::r) VE B fl Q:=by
 intro H0 X0 E H β z bb G;obtain⟨N,a,H',e,I,v,B',β',L,A,U,Y⟩:=uK h z;obtain⟨Z,E2,H2,e2,hp⟩:=Y H0 X0 _ _ β' (A.set U) (⟨op.reads E,H'.ws,H.next,H'.next⟩::bb) ((G.step L).cons (QZ I));refine⟨max N Z,E2,H2,fun lf n a1 a2=>?_,hp.of L z.aQ⟩;show bl.ji (T.call lf n) ⟨some d,some (g,want),some l,op⟩ E H bb (iE (T.call lf n) r)=_;rw[Kw (z.bool M),bj rfl,uB (e lf n aq aq) (xg G I O)];exact e2 lf n aq aq
variable{R:Ex→bq→aU→Prop}
theorem VC.mono{c:IC}{z:Ex→bq→aU→Prop}(h:VC T c VE B R)(k:∀x VE B,R x VE B→z x VE B):VC T c VE B z:=fun H0 X0 E H β A=>
 (h H0 X0 E H β A).mono fun x _ _ G=>by obtain⟨bH,B',β',I,a,b⟩:=G;exact⟨bH,B',β',I,a,k _ _ _ b⟩
theorem wY{ops:List bl}(h:VO T ops VE B fun bH B'=>R .normal bH B'):VC T (.region false ops) VE B R:=fun H0 X0 E H β z=>wpC_region (h H0 X0 E H β z)
theorem Gk{ops:List bl}(h:VQ T ops VE B [] fun bH B'=>R .normal bH B'):VC T (.region true ops) VE B R:=fun H0 X0 E H β z=>wpC_regionQ (h H0 X0 E H β z [] ⟨rfl,fun i x r hi=>by simp at hi⟩)
theorem ko{a b:IC}(h:VC T a VE B fun x bH B'=>match x with|.normal=>VC T b bH B' R|x=>R x bH B'):VC T (.seq a b) VE B R:=fun H0 X0 E H β L=>by
 refine wpC_seq ((h H0 X0 E H β L).mono fun x E' H' A=>?_);obtain⟨bH,B',β',G,z,I⟩:=A
 cases x with
 |normal=>exact⟨fun _=>(I H0 X0 E' H' β' z).mono fun _ _ _ A=>A.of G L.aQ,fun e=>absurd rfl e⟩
 |exit id=>exact⟨fun e=>(by cases e),fun _=>⟨bH,B',β',G,z,I⟩⟩
 |ret=>exact⟨fun e=>(by cases e),fun _=>⟨bH,B',β',G,z,I⟩⟩
theorem uL(h:R .normal VE B):VC T .skip VE B R:=fun _ _ _ _ β z=>wpC_skip ⟨VE,B,β,.refl,z,h⟩
theorem Gl{id:Nat}(h:R (.exit id) VE B):VC T (.exit id) VE B R:=fun _ _ _ _ β z=>wpC_exit ⟨VE,B,β,.refl,z,h⟩
theorem GN(h:R .ret VE B):VC T .ret VE B R:=fun _ _ _ _ β z=>wpC_ret ⟨VE,B,β,.refl,z,h⟩
theorem aas{k:Key}{a b:IC}(A:aN VE k.n=some (.d (.b true)))(h:VC T a VE B R):VC T (.cond (.t k) a b) VE B R:=fun H0 X0 E H β z=>
 Qr (t:=true) (z.bool A) (fun _=>h H0 X0 E H β z) (fun e=>by cases e)
theorem aat{k:Key}{a b:IC}(A:aN VE k.n=some (.d (.b false)))(h:VC T b VE B R):VC T (.cond (.t k) a b) VE B R:=fun H0 X0 E H β z=>
 Qr (t:=false) (z.bool A) (fun e=>by cases e) (fun _=>h H0 X0 E H β z)
theorem cO{k:Key}{a b:IC}{t:Bool}(A:aN VE k.n=some (.d (.b t)))(G:t=true→VC T a VE B R)(h2:t=false→VC T b VE B R):VC T (.cond (.t k) a b) VE B R:=fun H0 X0 E H β z=>
 Qr (t:=t) (z.bool A) (fun e=>G e H0 X0 E H β z) (fun e=>h2 e H0 X0 E H β z)
theorem vc_block{id:Nat}{c:IC}(h:VC T c VE B fun x=>R (O6 id x)):VC T (.block id c) VE B R:=fun H0 X0 E H β z=>wpC_block (h H0 X0 E H β z)
theorem Q0{c:IC}(I:Nat→bq→aU→Prop)(hI:∀k VE B,I k VE B→VC T c VE B fun x bH B'=>match x with|.normal=>∃j,j<k∧I j bH B'|x=>R x bH B'){k:Nat}(h0:I k VE B):VC T (.loop c) VE B R:=by
 intro H0 X0 E H β hr;refine wpC_loop (fun k E1 H1=>∃z M A,gA B β H (fun _=>True) M A H1∧Rel H0 X0 z M E1 H1 A∧I k z M) (fun k E1 H1 hk=>?_) k E H ⟨VE,B,β,.refl,hr,h0⟩;obtain⟨z,M,A,O,U,hi⟩:=hk;refine(hI k z M hi H0 X0 E1 H1 A U).mono fun x E' H' hp=>?_
 obtain⟨bH,B',β',hw,G,Y⟩:=hp;have L:=O.trans hw hr.aQ
 cases x with
 |normal=>
  obtain⟨j,hj,Z⟩:=Y;exact⟨fun _=>⟨j,hj,bH,B',β',L,G,Z⟩,fun e=>absurd rfl e⟩
 |exit id=>exact⟨fun e=>(by cases e),fun _=>⟨bH,B',β',L,G,Y⟩⟩
 |ret=>exact⟨fun e=>(by cases e),fun _=>⟨bH,B',β',L,G,Y⟩⟩
theorem abj{c:IC}(z:∀k v,aN bH k=some v→aN VE k=some v)(h:VC T c bH B R):VC T c VE B R:=
 fun H0 X0 E H β A=>h H0 X0 E H β (A.less z)
theorem abk{c:IC}(b:Nat)(h:VC T c VE (du B b) R):VC T c VE B R:=
 fun H0 X0 E H β z=>(h H0 X0 E H β (z.drop b)).mono fun _ _ _ A=>A.more xf
end
end Go.Ev
