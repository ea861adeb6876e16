/- Part 12 of rules for walks through the code of a program, and of such walks; what each part proves is said by its theorems. -/
import Derived.Test.YtdaamclhcpjdpaaGreatDoorR11
set_option linter.unusedVariables false
set_option linter.unusedSimpArgs false
noncomputable section
set_option maxRecDepth 100000
set_option maxHeartbeats 4000000
namespace Go.Ev
structure e9(H:aw)(X:Nat→Prop)(H':aw)(X':Nat→Prop):Prop where
 next:H.next≤H'.next
 same:∀f,f<H.next→¬X f→¬X' f∧H'.t.get f=H.t.get f
section
variable{H H':aw}{X X':Nat→Prop}
mutual
theorem bH.lift(z:e9 H X H' X'):∀{d:DC}{a:al},bH H X d a→bH H' X' d a
 |.i _ _,_,h=>h
 |.b _,_,h=>h
 |.s _ _,_,h=>h
 |.nil,_,h=>h
 |.raw _ _ _,_,h=>h
 |.sl rows,a,h=>by
  simp only[bH] at h⊢;obtain⟨f,g,off,es,I,h2⟩:=h;exact⟨f,g,off,es,I,h2.imp id fun⟨G,A,q,ho,L⟩=>⟨(z.same f A G).1,jg A z.next,q,ho,dF.lift z G A L⟩⟩
theorem dF.lift(z:e9 H X H' X'){f g es:Nat}(A:¬X f)(G:f<H.next):∀{q:Nat}{rows:ak},dF H X f g es q rows→dF H' X' f g es q rows
 |_,[],_=>trivial
 |q,row::r,h=>by
  simp only[dF] at h⊢;obtain⟨⟨l,I,h2,L⟩,M⟩:=h;exact⟨⟨l,I.fX (z.same f G A).2,h2,bU.lift z L⟩,dF.lift z A G M⟩
theorem bU.lift(z:e9 H X H' X'):∀{row:List DC}{l:List al},bU H X row l→bU H' X' row l
 |[],_,h=>h
 |d::r,l,h=>by
  simp only[bU] at h⊢;obtain⟨a,s,A,h2,G⟩:=h;exact⟨a,s,A,bH.lift z h2,bU.lift z G⟩
end
end
inductive VV where
 |d (x:DC)
 |agg (l:List VV)
 |tuple (l:List VV)
 |vp (b off:Nat)
 |bp (b g q off es:Nat)
 |rp (row:List DC) (off:Nat)
 |bs (b n es:Nat)
 |ac (b n es:Nat)
 |fn (f:Nat) (dL:List VV)
 |k (a:al)
 |il
 |undef
inductive BS where
 |one (elem aF:Nat) (row:List VV)
 |arr (elem aF es lo:Nat) (rows:ak)
 |acc (elem aF es:Nat) (rows:ak)
 |c9 (f:Nat) (s:BS)
def BS.born:BS→Prop
 |.acc _ _ _ rows=>rows≠[]
 |.c9 _ s=>s.born
 |_=>True
abbrev bo:=List (Nat×VV)
abbrev aT:=List (Nat×BS)
def aL{α:Type}:List (Nat×α)→Nat→Option α
 |[],_=>none
 |(i,v)::r,k=>bif Nat.beq i k then some v else aL r k
theorem dn{α:Type}(i:Nat)(v:α)(r:List (Nat×α))(k:Nat):aL ((i,v)::r) k=if i=k then some v else aL r k:=by
 show(bif Nat.beq i k then some v else aL r k)=_
 by_cases h:i=k
 ·rw[bh h,h,show Nat.beq k k=true from ia k];rfl
 rw[aZ h]
 cases z:Nat.beq i k
 ·rfl
 exact absurd (cq z) h
def du{α:Type}:List (Nat×α)→Nat→List (Nat×α)
 |[],_=>[]
 |(i,v)::r,k=>bif Nat.beq i k then du r k else(i,v)::du r k
theorem mL{α:Type}(b k:Nat):∀l:List (Nat×α),aL (du l b) k=if b=k then none else aL l k
 |[]=>by by_cases h:b=k<;>simp[du,aL,h]
 |(i,v)::r=>by
  rw[dn];show aL (bif Nat.beq i b then du r b else(i,v)::du r b) k=_
  by_cases h:i=b
  ·subst h;rw[show Nat.beq i i=true from ia i];show aL (du r i) k=_;rw[mL i k r]
   by_cases z:i=k
   ·simp[z]
   simp[z]
  have A:Nat.beq i b=false:=by
   cases A:Nat.beq i b
   ·rfl
   exact absurd (cq A) h
  rw[A];show aL ((i,v)::du r b) k=_;rw[dn,mL b k r]
  by_cases z:i=k
  ·subst z;rw[bh rfl,aZ (fun e=>h e.symm),bh rfl]
  rw[aZ z,aZ z]
mutual
def aG(H:aw)(X:Nat→Prop)(β:Nat→Nat):VV→al→Prop
 |.d x,a=>bH H X x a
 |.agg l,a=>∃cs,a= .agg cs∧bb H X β l cs
 |.tuple l,a=>∃cs,a= .tuple cs∧bb H X β l cs
 |.vp b off,a=>a= .ptr (β b) 1 off
 |.bp b g q off es,a=>a= .ptr (β b) g (q*es+off)
 |.rp row off,a=>∃f g Q l,a= .ptr f g (Q*l.length+off)∧lj H f g Q l∧bU H X row l∧¬X f∧f<H.next
 |.bs b n es,a=>a= .slice (β b) n 0 n es
 |.ac b n es,a=>(n=0∧a= .fE)∨(0<n∧a= .slice (β b) n 0 n es)
 |.fn f dL,a=>∃cs,a= .func f [] cs∧bb H X β dL cs
 |.k x,a=>a=x
 |.il,a=>∃t x,a= .iface t x
 |.undef,_=>True
def bb(H:aw)(X:Nat→Prop)(β:Nat→Nat):List VV→List al→Prop
 |[],l=>l=[]
 |v::r,l=>∃a s,l=a::s∧aG H X β v a∧bb H X β r s
end
mutual
def VV.nb:VV→Prop
 |.d _=>True
 |.agg l=>lT l
 |.tuple l=>lT l
 |.vp _ _=>False
 |.bp _ _ _ _ _=>False
 |.rp _ _=>True
 |.bs _ _ _=>False
 |.ac _ _ _=>False
 |.fn _ dL=>lT dL
 |.k _=>True
 |.il=>True
 |.undef=>True
def lT:List VV→Prop
 |[]=>True
 |v::r=>v.nb∧lT r
end
mutual
def VV.no(b:Nat):VV→Bool
 |.d _=>true
 |.agg l=>sE b l
 |.tuple l=>sE b l
 |.vp c _=>!Nat.beq c b
 |.bp c _ _ _ _=>!Nat.beq c b
 |.rp _ _=>true
 |.bs c _ _=>!Nat.beq c b
 |.ac c _ _=>!Nat.beq c b
 |.fn _ dL=>sE b dL
 |.k _=>true
 |.il=>true
 |.undef=>true
def sE(b:Nat):List VV→Bool
 |[]=>true
 |v::r=>v.no b&&sE b r
end
def BS.no(b:Nat):BS→Bool
 |.one _ _ row=>sE b row
 |.arr _ _ _ _ _=>true
 |.acc _ _ _ _=>true
 |.c9 _ s=>s.no b
def nw(b:Nat):bo→Bool
 |[]=>true
 |(_,v)::r=>v.no b&&nw b r
def jJ(b:Nat):Bool:=Nat.ble 1000 b&&Nat.ble b 1049
def lU(b:Nat):aT→Bool
 |[]=>!jJ b
 |(c,s)::r=>!Nat.beq c b&&s.no b&&lU b r
section
variable{H H':aw}{X X':Nat→Prop}{β β':Nat→Nat}
theorem oT{c b:Nat}(h:(!Nat.beq c b)=true):c≠b:=by
 rintro rfl;rw[show Nat.beq c c=true from ia c] at h
 cases h
mutual
theorem aG.lift(z:e9 H X H' X'):∀{v:VV}{a:al},aG H X β v a→aG H' X' β v a
 |.d x,_,h=>by simp only[aG] at h⊢;exact bH.lift z h
 |.agg l,_,h=>by
  simp only[aG] at h⊢;obtain⟨cs,e,h⟩:=h;exact⟨cs,e,bb.lift z h⟩
 |.tuple l,_,h=>by
  simp only[aG] at h⊢;obtain⟨cs,e,h⟩:=h;exact⟨cs,e,bb.lift z h⟩
 |.vp b off,_,h=>by simp only[aG] at h⊢;exact h
 |.bp b g q off es,_,h=>by simp only[aG] at h⊢;exact h
 |.rp row off,_,h=>by
  simp only[aG] at h⊢;obtain⟨f,g,Q,l,e,I,h2,G,A⟩:=h;exact⟨f,g,Q,l,e,I.fX (z.same f A G).2,bU.lift z h2,(z.same f A G).1,jg A z.next⟩
 |.bs b n es,_,h=>by simp only[aG] at h⊢;exact h
 |.ac b n es,_,h=>by simp only[aG] at h⊢;exact h
 |.fn f dL,_,h=>by
  simp only[aG] at h⊢;obtain⟨cs,e,h⟩:=h;exact⟨cs,e,bb.lift z h⟩
 |.k x,_,h=>by simp only[aG] at h⊢;exact h
 |.il,_,h=>by simp only[aG] at h⊢;exact h
 |.undef,_,_=>by simp only[aG]
theorem bb.lift(z:e9 H X H' X'):∀{l:List VV}{s:List al},bb H X β l s→bb H' X' β l s
 |[],_,h=>by simp only[bb] at h⊢;exact h
 |v::r,_,h=>by
  simp only[bb] at h⊢;obtain⟨a,s,e,A,h2⟩:=h;exact⟨a,s,e,aG.lift z A,bb.lift z h2⟩
end
mutual
theorem aG.nb:∀{v:VV}{a:al},v.nb→aG H X β v a→aG H X β' v a
 |.d x,_,_,h=>by simp only[aG] at h⊢;exact h
 |.agg l,_,n,h=>by
  simp only[aG,VV.nb] at h n⊢;obtain⟨cs,e,h⟩:=h;exact⟨cs,e,bb.nb n h⟩
 |.tuple l,_,n,h=>by
  simp only[aG,VV.nb] at h n⊢;obtain⟨cs,e,h⟩:=h;exact⟨cs,e,bb.nb n h⟩
 |.vp b off,_,n,_=>by simp only[VV.nb] at n
 |.bp b g q off es,_,n,_=>by simp only[VV.nb] at n
 |.rp row off,_,_,h=>by simp only[aG] at h⊢;exact h
 |.bs b m es,_,n,_=>by simp only[VV.nb] at n
 |.ac b m es,_,n,_=>by simp only[VV.nb] at n
 |.fn f dL,_,n,h=>by
  simp only[aG,VV.nb] at h n⊢;obtain⟨cs,e,h⟩:=h;exact⟨cs,e,bb.nb n h⟩
 |.k x,_,_,h=>by simp only[aG] at h⊢;exact h
 |.il,_,_,h=>by simp only[aG] at h⊢;exact h
 |.undef,_,_,_=>by simp only[aG]
theorem bb.nb:∀{l:List VV}{s:List al},lT l→bb H X β l s→bb H X β' l s
 |[],_,_,h=>by simp only[bb] at h⊢;exact h
 |v::r,_,n,h=>by
  simp only[bb,lT] at h n⊢;obtain⟨a,s,e,z,h2⟩:=h;exact⟨a,s,e,aG.nb n.1 z,bb.nb n.2 h2⟩
end
mutual
theorem aG.no{b f:Nat}:∀{v:VV}{a:al},v.no b=true→aG H X β v a→aG H X (fun c=>if c=b then f else β c) v a
 |.d x,_,_,h=>by simp only[aG] at h⊢;exact h
 |.agg l,_,n,h=>by
  simp only[aG,VV.no] at h n⊢;obtain⟨cs,e,h⟩:=h;exact⟨cs,e,bb.no n h⟩
 |.tuple l,_,n,h=>by
  simp only[aG,VV.no] at h n⊢;obtain⟨cs,e,h⟩:=h;exact⟨cs,e,bb.no n h⟩
 |.vp c off,_,n,h=>by simp only[aG,VV.no] at h n⊢;rw[aZ (oT n)];exact h
 |.bp c g q off es,_,n,h=>by simp only[aG,VV.no] at h n⊢;rw[aZ (oT n)];exact h
 |.rp row off,_,_,h=>by simp only[aG] at h⊢;exact h
 |.bs c m es,_,n,h=>by simp only[aG,VV.no] at h n⊢;rw[aZ (oT n)];exact h
 |.ac c m es,_,n,h=>by simp only[aG,VV.no] at h n⊢;rw[aZ (oT n)];exact h
 |.fn f dL,_,n,h=>by
  simp only[aG,VV.no] at h n⊢;obtain⟨cs,e,h⟩:=h;exact⟨cs,e,bb.no n h⟩
 |.k x,_,_,h=>by simp only[aG] at h⊢;exact h
 |.il,_,_,h=>by simp only[aG] at h⊢;exact h
 |.undef,_,_,_=>by simp only[aG]
theorem bb.no{b f:Nat}:∀{l:List VV}{s:List al},sE b l=true→bb H X β l s→bb H X (fun c=>if c=b then f else β c) l s
 |[],_,_,h=>by simp only[bb] at h⊢;exact h
 |v::r,_,n,h=>by
  simp only[bb,sE,cS] at h n⊢;obtain⟨a,s,e,z,h2⟩:=h;exact⟨a,s,e,aG.no n.1 z,bb.no n.2 h2⟩
end
theorem bb.length:∀{l:List VV}{s:List al},bb H X β l s→s.length=l.length
 |[],_,h=>by simp only[bb] at h;subst h;rfl
 |v::r,_,h=>by
  simp only[bb] at h;obtain⟨a,s,rfl,_,h2⟩:=h;simp[bb.length h2]
theorem bb.get:∀{l:List VV}{s:List al},bb H X β l s→∀{i:Nat}{v:VV},l[i]?=some v→∃a,s[i]?=some a∧aG H X β v a
 |[],_,_,i,v,hi=>by simp at hi
 |x::r,_,h,i,v,hi=>by
  simp only[bb] at h;obtain⟨a,s,rfl,z,h2⟩:=h
  cases i with
  |zero=>simp at hi;subst hi;exact⟨a,rfl,z⟩
  |succ i=>simpa using bb.get h2 (i:=i) (v:=v) (by simpa using hi)
theorem bb.append:∀{l m:List VV}{s t:List al},bb H X β l s→bb H X β m t→bb H X β (l++m) (s++t)
 |[],_,_,_,h,k=>by simp only[bb] at h;subst h;exact k
 |x::r,_,_,_,h,k=>by
  simp only[bb] at h;obtain⟨a,s,rfl,z,h2⟩:=h;simp only[DS,bb];exact⟨a,_,rfl,z,bb.append h2 k⟩
theorem bb.drop:∀{l:List VV}{s:List al}(n:Nat),bb H X β l s→bb H X β (l.drop n) (s.drop n)
 |_,_,0,h=>h
 |[],_,n+1,h=>by simp only[bb] at h;subst h;simp[bb]
 |x::r,_,n+1,h=>by
  simp only[bb] at h;obtain⟨a,s,rfl,_,h2⟩:=h;simpa using bb.drop n h2
theorem bb.take:∀{l:List VV}{s:List al}(n:Nat),bb H X β l s→bb H X β (l.take n) (s.take n)
 |_,_,0,h=>by simp[bb]
 |[],_,n+1,h=>by simp only[bb] at h;subst h;simp[bb]
 |x::r,_,n+1,h=>by
  simp only[bb] at h;obtain⟨a,s,rfl,z,h2⟩:=h;simp only[xD,bb];exact⟨a,_,rfl,z,bb.take n h2⟩
theorem bb.sZ:∀{row:List DC}{l:List al},bU H X row l→bb H X β (row.map .d) l
 |[],_,h=>by simp only[bU] at h;subst h;simp[bb]
 |d::r,_,h=>by
  simp only[bU] at h;obtain⟨a,s,rfl,z,h2⟩:=h;simp only[jo,bb,aG];exact⟨a,s,rfl,z,bb.sZ h2⟩
theorem bU.F5:∀{row:List DC}{l:List al},bb H X β (row.map .d) l→bU H X row l
 |[],_,h=>by simpa[bb,bU] using h
 |d::r,_,h=>by
  simp only[jo,bb,aG] at h;obtain⟨a,s,rfl,z,h2⟩:=h;simp only[bU];exact⟨a,s,rfl,z,bU.F5 h2⟩
end
def XB(X0:Nat→Prop)(B:aT)(β:Nat→Nat)(f:Nat):Prop:=X0 f∨∃b s,aL B b=some s∧s.born∧β b=f
def dk(H:aw)(X:Nat→Prop)(β:Nat→Nat)(f:Nat):BS→Prop
 |.one elem aF row=>∃l lo cs,H.t.get f=some (.row elem l.length aF 1 lo 0 cs)∧lo≤1∧cs.get 0=some l∧bb H X β row l
 |.arr elem aF es lo rows=>∃z cs,H.t.get f=some (.row elem es aF rows.length z 0 cs)∧z≤lo∧lo≤rows.length∧∀q row,rows[q]?=some row→∃l,cs.get q=some l∧l.length=es∧bU H X row l
 |.acc elem aF es rows=>rows=[]∨∃lo cs,H.t.get f=some (.row elem es aF rows.length lo 0 cs)∧lo≤rows.length∧∀q row,rows[q]?=some row→∃l,cs.get q=some l∧l.length=es∧bU H X row l
 |.c9 g s=>(s.born→f=g)∧dk H X β f s
theorem Qd{b:Nat}:∀{B:aT},lU b B=true→jJ b=false
 |[],h=>by simpa[lU] using h
 |(_,_)::r,h=>by
  simp only[lU,cS] at h;exact Qd h.2
structure Rel(H0:Nat→Nat)(X0:Nat→Prop)(VE:bo)(B:aT)(E:Env)(H:aw)(β:Nat→Nat):Prop where
 kY:∀b,jJ b=true→β b=H0 b
 aQ:H.aQ≤H.next
 x0:∀f,X0 f→f<H.next
 new:∀b s,aL B b=some s→s.born→¬X0 (β b)∧β b<H.next
 inj:∀b c s t,aL B b=some s→aL B c=some t→s.born→t.born→β b=β c→b=c
 env:∀k v,aL VE (Key.n k)=some v→∃a,E.get k=some a∧aG H (XB X0 B β) β v a
 box:∀b s,aL B b=some s→dk H (XB X0 B β) β (β b) s
theorem dk.lift{H H':aw}{X X':Nat→Prop}{β:Nat→Nat}(I:e9 H X H' X'){f:Nat}(L:H'.t.get f=H.t.get f):∀{s:BS},dk H X β f s→dk H' X' β f s
 |.one _ _ _,h=>by
  obtain⟨l,lo,cs,A,h2,M,G⟩:=h;exact⟨l,lo,cs,L.trans A,h2,M,bb.lift I G⟩
 |.arr _ _ _ _ _,h=>by
  obtain⟨z,cs,A,h2,M,G⟩:=h;refine⟨z,cs,L.trans A,h2,M,fun q row O=>?_⟩;obtain⟨l,U,Y,Z⟩:=G q row O;exact⟨l,U,Y,bU.lift I Z⟩
 |.acc _ _ _ _,h=>by
  rcases h with h|⟨z,cs,A,h2,G⟩
  ·exact .inl h
  refine .inr ⟨z,cs,L.trans A,h2,fun q row O=>?_⟩;obtain⟨l,U,Y,Z⟩:=G q row O;exact⟨l,U,Y,bU.lift I Z⟩
 |.c9 _ s,h=>⟨h.1,dk.lift I L (s:=s) h.2⟩
theorem dk.adb{H:aw}{X:Nat→Prop}{β:Nat→Nat}{f:Nat}:∀{s:BS},¬s.born→dk H X β f s
 |.one _ _ _,h=>absurd trivial h
 |.arr _ _ _ _ _,h=>absurd trivial h
 |.acc _ _ _ rows,h=>.inl (by
  cases rows with
  |nil=>rfl
  |cons x r=>exact absurd (fun e:x::r=[]=>by cases e) h)
 |.c9 _ s,h=>⟨fun z=>absurd z h,dk.adb (s:=s) h⟩
theorem dk.U6{H:aw}{X:Nat→Prop}{β:Nat→Nat}{b g f:Nat}:∀{s:BS},s.no b=true→dk H X β f s→dk H X (fun c=>if c=b then g else β c) f s
 |.one _ _ _,z,⟨l,lo,cs,A,G,I,L⟩=>⟨l,lo,cs,A,G,I,bb.no z L⟩
 |.arr _ _ _ _ _,_,h=>h
 |.acc _ _ _ _,_,h=>h
 |.c9 _ s,z,h=>⟨h.1,dk.U6 (s:=s) z h.2⟩
theorem dk.HS{H H':aw}{X X':Nat→Prop}{β:Nat→Nat}(A:e9 H X H' X'){f:Nat}{s:BS}(G:s.born→H'.t.get f=H.t.get f)(h:dk H X β f s):dk H' X' β f s:=by
 by_cases z:s.born
 ·exact h.lift A (G z)
 exact .adb z
section
variable{T:aN}{H0:Nat→Nat}{X0:Nat→Prop}{VE:bo}{B:aT}{E:Env}{H:aw}{β:Nat→Nat}
theorem Rel.grow(h:Rel H0 X0 VE B E H β){H':aw}(A:H.next≤H'.next)(I:∀f,f<H.next→H'.t.get f=H.t.get f)(M:H'.aQ≤H'.next):Rel H0 X0 VE B E H' β:=by
 have L:e9 H (XB X0 B β) H' (XB X0 B β):=⟨A,fun f G O=>⟨O,I f G⟩⟩;refine⟨h.kY,M,fun f G=>jg (h.x0 f G) A,fun b s z ho=>⟨(h.new b s z ho).1,jg (h.new b s z ho).2 A⟩,h.inj,fun k v U=>?_,fun b s z=>(h.box b s z).HS L fun ho=>I _ (h.new b s z ho).2⟩;obtain⟨a,Y,h2⟩:=h.env k v U;exact⟨a,Y,h2.lift L⟩
theorem Rel.set(h:Rel H0 X0 VE B E H β){d:Key}{v:VV}{a:al}(A:aG H (XB X0 B β) β v a):Rel H0 X0 ((d.n,v)::VE) B (E.set d a) H β:=by
 refine{h with env:=fun k w z=>?_};rw[dn] at z;rw[T4.di]
 by_cases e:d.n=k.n
 ·rw[bh e] at z
  cases z
  exact⟨a,by rw[bh (Key.inj e).symm],A⟩
 rw[aZ e] at z;rw[aZ (fun G=>e (by rw[G]))];exact h.env k w z
theorem Rel.less(h:Rel H0 X0 VE B E H β){bF:bo}(z:∀k v,aL bF k=some v→aL VE k=some v):Rel H0 X0 bF B E H β:=
 {h with env:=fun k v A=>h.env k v (z _ v A)}
theorem Rel.drop(h:Rel H0 X0 VE B E H β)(b:Nat):Rel H0 X0 VE (du B b) E H β:=by
 have A:∀c s,aL (du B b) c=some s→aL B c=some s∧b≠c:=fun c s z=>by
  rw[mL] at z
  by_cases e:b=c
  ·rw[bh e] at z;cases z
  rw[aZ e] at z;exact⟨z,e⟩
 have I:e9 H (XB X0 B β) H (XB X0 (du B b) β):=⟨bq _,fun f _ L=>⟨fun k=>L (k.imp id fun⟨c,s,G,h2⟩=>⟨c,s,(A c s G).1,h2⟩),rfl⟩⟩;refine⟨h.kY,h.aQ,h.x0,fun c s z ho=>h.new c s (A c s z).1 ho,fun c e s t z M O U=>h.inj c e s t (A c s z).1 (A e t M).1 O U,fun k v Y=>?_,fun c s z=>(h.box c s (A c s z).1).lift I rfl⟩;obtain⟨a,G,h2⟩:=h.env k v Y;exact⟨a,G,h2.lift I⟩
theorem K1{b:Nat}:∀{VE:bo},nw b VE=true→∀{k:Nat}{v:VV},aL VE k=some v→v.no b=true
 |[],_,_,_,h=>by cases h
 |(i,w)::r,z,k,v,h=>by
  simp only[nw,cS] at z;rw[dn] at h
  by_cases e:i=k
  ·rw[bh e] at h;cases h;exact z.1
  rw[aZ e] at h;exact K1 z.2 h
theorem K2{b:Nat}:∀{B:aT},lU b B=true→∀{c:Nat}{s:BS},aL B c=some s→c≠b∧s.no b=true
 |[],_,_,_,h=>by cases h
 |(i,w)::r,z,c,s,h=>by
  simp only[lU,cS] at z;rw[dn] at h
  by_cases e:i=c
  ·rw[bh e] at h;cases h;exact⟨e▸oT z.1.1,z.1.2⟩
  rw[aZ e] at h;exact K2 z.2 h
theorem Rel.newBox(h:Rel H0 X0 VE B E H β){b:Nat}(hE:nw b VE=true)(hB:lU b B=true){H':aw}(hn:H'.next=H.next+1)(hs:∀f,f<H.next→H'.t.get f=H.t.get f)(hm:H'.aQ=H.aQ){s:BS}
  (U7:∀X β',(∀v a,v.no b=true→aG H (XB X0 B β) β v a→aG H' X β' v a)→(∀row l,bU H (XB X0 B β) row l→bU H' X row l)→dk H' X β' H.next s):
  ∃β',(β' b=H.next∧∀c,c≠b→β' c=β c)∧Rel H0 X0 VE ((b,s)::B) E H' β'∧∀v a,v.no b=true→aG H (XB X0 B β) β v a→aG H' (XB X0 ((b,s)::B) β') β' v a:=by
 let β':Nat→Nat:=fun c=>if c=b then H.next else β c
 have G:β' b=H.next:=bh rfl;have z:∀c,c≠b→β' c=β c:=fun c A=>aZ A
 have hg:∀c t,aL ((b,s)::B) c=some t→(c=b∧t=s)∨(c≠b∧aL B c=some t∧t.no b=true):=fun c t A=>by
  rw[dn] at A
  by_cases e:b=c
  ·rw[bh e] at A;cases A;exact .inl ⟨e.symm,rfl⟩
  rw[aZ e] at A;exact .inr ⟨fun k=>e k.symm,A,(K2 hB A).2⟩
 have hl:e9 H (XB X0 B β) H' (XB X0 ((b,s)::B) β'):=⟨ah,fun f hf hx=>⟨fun k=>by
  rcases k with k|⟨c,t,h1,ho,h2⟩
  ·exact hx (.inl k)
  rcases hg c t h1 with⟨rfl,rfl⟩|⟨A,M,_⟩
  ·rw[G] at h2;omega
  exact hx (.inr ⟨c,t,M,ho,by rw[←h2,z c A]⟩),hs f hf⟩⟩
 have hv:∀v a,v.no b=true→aG H (XB X0 B β) β v a→aG H' (XB X0 ((b,s)::B) β') β' v a:=fun v a Y hr=>(aG.no Y hr).lift hl
 have A:∀row l,bU H (XB X0 B β) row l→bU H' (XB X0 ((b,s)::B) β') row l:=fun row l hr=>hr.lift hl
 refine⟨β',⟨G,z⟩,⟨(fun c A=>(z c fun e=>by rw[e,Qd hB] at A;cases A).trans (h.kY c A)),by have:=h.aQ;omega,(fun f hf=>by have:=h.x0 f hf;omega),fun c t L O=>?_,fun c e t u L W8 O JW U=>?_,fun k v hk=>?_,fun c t L=>?_⟩,hv⟩
 ·rcases hg c t L with⟨rfl,rfl⟩|⟨I,M,_⟩
  ·rw[G];exact⟨(fun hx=>by have:=h.x0 _ hx;omega),ah⟩
  rw[z c I];have:=h.new c t M O;exact⟨this.1,ah⟩
 ·rcases hg c t L with⟨rfl,rfl⟩|⟨I,M,_⟩<;>rcases hg e u W8 with⟨rfl,rfl⟩|⟨JX,h4,_⟩
  ·rfl
  ·rw[G,z e JX] at U;have:=h.new e u h4 JW;omega
  ·rw[G,z c I] at U;have:=h.new c t M O;omega
  rw[z c I,z e JX] at U;exact h.inj c e t u M h4 O JW U
 ·obtain⟨a,h1,h2⟩:=h.env k v hk;exact⟨a,h1,hv v a (K1 hE hk) h2⟩
 rcases hg c t L with⟨rfl,rfl⟩|⟨I,M,Y⟩
 ·rw[G];exact U7 _ _ hv A
 rw[z c I];have ho:=h.box c t M;have Z:t.born→H'.t.get (β c)=H.t.get (β c):=fun ho=>hs _ (h.new c t M ho).2
 exact dk.HS (X:=XB X0 B β) hl Z (dk.U6 Y ho)
end
section
variable{T:aN}
theorem gg.mono{op:bn}{E:Env}{H:aw}{Q z:al→aw→Prop}(h:gg T op E H Q)(k:∀v H',Q v H'→z v H'):gg T op E H z:=
 let⟨N,v,H',a,b⟩:=h;⟨N,v,H',a,k _ _ b⟩
theorem oB.mono{ops:List bl}{E:Env}{H:aw}{Q z:Env→aw→Prop}(h:oB T ops E H Q)(k:∀v H',Q v H'→z v H'):oB T ops E H z:=
 let⟨N,v,H',a,b⟩:=h;⟨N,v,H',a,k _ _ b⟩
theorem JV.mono{ops:List bl}{E:Env}{H:aw}{r:List FP}{Q z:Env→aw→Prop}(h:JV T ops E H r Q)(k:∀v H',Q v H'→z v H'):JV T ops E H r z:=
 let⟨N,v,H',a,b⟩:=h;⟨N,v,H',a,k _ _ b⟩
structure gw(B:aT)(β:Nat→Nat)(H:aw)(W:Nat→Prop)(B':aT)(β':Nat→Nat)(H':aw):Prop where
 aQ:H'.aQ=H.aQ
 next:H.next≤H'.next
 ws:∀f,f∈H'.ws→f∈H.ws∨(f<H.aQ∧∃b s,W b∧aL B b=some s∧s.born∧β b=f)
 since:∀b s,aL B' b=some s→s.born→(∃t,aL B b=some t∧t.born∧β' b=β b)∨H.next≤β' b
 nx:∀f,f<H.next→(∀b s,aL B b=some s→s.born→β b≠f)→H'.t.get f=H.t.get f
theorem gw.refl{B:aT}{β:Nat→Nat}{H:aw}{W:Nat→Prop}:gw B β H W B β H:=
 ⟨rfl,bq _,fun _ h=>.inl h,fun _ s z h2=>.inl ⟨s,z,h2,rfl⟩,fun _ _ _=>rfl⟩
theorem gw.more{B L B':aT}{β β':Nat→Nat}{H H':aw}{W:Nat→Prop}(h:gw L β H W B' β' H')(k:∀b s,aL L b=some s→s.born→∃t,aL B b=some t∧t.born):gw B β H W B' β' H':=
 ⟨h.aQ,h.next,fun f G=>(h.ws f G).imp id fun⟨a,b,s,c,d,e,g⟩=>by obtain⟨t,z,A⟩:=k b s d e;exact⟨a,b,t,c,z,A,g⟩,
  fun b s I h2=>(h.since b s I h2).imp (fun⟨t,a,c,d⟩=>by obtain⟨u,z,A⟩:=k b t a c;exact⟨u,z,A,d⟩) id,
  fun f G M=>h.nx f G fun b s I h2=>by obtain⟨t,z,A⟩:=k b s I h2;exact M b t z A⟩
theorem gw.Mz{B z B':aT}{β β':Nat→Nat}{H H':aw}{W:Nat→Prop}(h:gw B β H W z β' H')(k:∀b s,aL B' b=some s→s.born→∃t,aL z b=some t∧t.born):gw B β H W B' β' H':=
 ⟨h.aQ,h.next,h.ws,fun b s A h2=>by obtain⟨t,G,I⟩:=k b s A h2;exact h.since b t G I,h.nx⟩
theorem gw.trans{B M O:aT}{β A G:Nat→Nat}{H H1 U:aw}{W W1:Nat→Prop}(h:gw B β H W M A H1)(k:gw M A H1 W1 O G U)(hm:H.aQ≤H.next):gw B β H (fun _=>True) O G U:=by
 refine⟨k.aQ.trans h.aQ,eZ h.next k.next,fun f z=>?_,fun b s I h2=>?_,fun f z Y=>?_⟩
 ·rcases k.ws f z with z|⟨a,b,s,_,c,d,e⟩
  ·rcases h.ws f z with z|⟨a,b,s,_,c,d,e⟩
   ·exact .inl z
   exact .inr ⟨a,b,s,trivial,c,d,e⟩
  rw[h.aQ] at a;rcases h.since b s c d with⟨t,Z,k2,k3⟩|Z
  ·exact .inr ⟨a,b,t,trivial,Z,k2,by rw[←k3,e]⟩
  omega
 ·rcases k.since b s I h2 with⟨t,a,c,d⟩|a
  ·rcases h.since b t a c with⟨u,L,c',d'⟩|L
   ·exact .inl ⟨u,L,c',d.trans d'⟩
   exact .inr (by rw[d];exact L)
  exact .inr (eZ h.next a)
 rw[k.nx f (jg z h.next) fun b s I h2 he=>?_,h.nx f z Y];rcases h.since b s I h2 with⟨t,a,c,d⟩|a
 ·exact Y b t a c (by rw[←d];exact he)
 omega
def Dq(H0:Nat→Nat)(X0:Nat→Prop)(VE:bo)(B:aT)(β:Nat→Nat)(E:Env)(H:aw)(W:List Nat)(Q:VV→aT→Prop)(a:al)(H':aw):Prop:=
 ∃v B' β',gw B β H (· ∈W) B' β' H'∧Rel H0 X0 VE B' E H' β'∧aG H' (XB X0 B' β') β' v a∧Q v B'
def VI(T:aN)(op:bn)(VE:bo)(B:aT)(W:List Nat)(Q:VV→aT→Prop):Prop:=
 ∀H0 X0 E H β,Rel H0 X0 VE B E H β→gg T op E H (Dq H0 X0 VE B β E H W Q)
def vg(H0:Nat→Nat)(X0:Nat→Prop)(B:aT)(β:Nat→Nat)(H:aw)(Q:bo→aT→Prop)(E':Env)(H':aw):Prop:=
 ∃bF B' β',gw B β H (fun _=>True) B' β' H'∧Rel H0 X0 bF B' E' H' β'∧Q bF B'
def VO(T:aN)(ops:List bl)(VE:bo)(B:aT)(Q:bo→aT→Prop):Prop:=
 ∀H0 X0 E H β,Rel H0 X0 VE B E H β→oB T ops E H (vg H0 X0 B β H Q)
inductive FL where
 |rd (R:List Nat)
 |qt
 |un
 |off (f:Nat)
 |wr (W:List Nat)
def rX(n:Nat)(B:aT)(β:Nat→Nat):FL→FP→Prop
 |.rd R,r=>r.ws=[]∧r.lo=r.hi∧∃l,r.rd=some l∧∀f,f∈l→f<n∧∀b s,aL B b=some s→s.born→β b=f→b∈R
 |.qt,r=>r.ws=[]
 |.un,_=>True
 |.off f,r=>f∉r.ws
 |.wr W,r=>∀f,f∈r.ws→f<n∧∀b s,aL B b=some s→s.born→β b=f→b∈W
def mF(n:Nat)(B:aT)(β:Nat→Nat)(fl:List FL)(bc:List FP):Prop:=
 bc.length=fl.length∧∀(i:Nat)x r,fl[i]?=some x→bc[i]?=some r→rX n B β x r
theorem rX.step{B B':aT}{β β':Nat→Nat}{H H':aw}{W:Nat→Prop}(A:gw B β H W B' β' H'):∀{x:FL}{r:FP},rX H.next B β x r→rX H'.next B' β' x r
 |.rd R,r,⟨O,h2,l,U,G⟩=>⟨O,h2,l,U,fun f z=>⟨jg (G f z).1 A.next,fun b s I L M=>by
  rcases A.since b s I L with⟨t,a,c,d⟩|a
  ·exact(G f z).2 b t a c (by rw[←d];exact M)
  have:=(G f z).1;omega⟩⟩
 |.qt,r,h=>h
 |.un,r,_=>trivial
 |.off _,r,h=>h
 |.wr W,r,h=>fun f z=>⟨jg (h f z).1 A.next,fun b s I L M=>by
  rcases A.since b s I L with⟨t,a,c,d⟩|a
  ·exact(h f z).2 b t a c (by rw[←d];exact M)
  have:=(h f z).1;omega⟩
theorem mF.step{B B':aT}{β β':Nat→Nat}{H H':aw}{W:Nat→Prop}{fl:List FL}{bc:List FP}(z:gw B β H W B' β' H')(h:mF H.next B β fl bc):mF H'.next B' β' fl bc:=
 ⟨h.1,fun i x r A h2=>(h.2 i x r A h2).step z⟩
theorem mF.cons{n:Nat}{B:aT}{β:Nat→Nat}{fl:List FL}{bc:List FP}{x:FL}{r:FP}(h:mF n B β fl bc)(k:rX n B β x r):mF n B β (x::fl) (r::bc):=
 ⟨by simp[h.1],fun i y z A h2=>by
  cases i with
  |zero=>simp at A h2;subst A;subst h2;exact k
  |succ i=>exact h.2 i y z (by simpa using A) (by simpa using h2)⟩
def VQ(T:aN)(ops:List bl)(VE:bo)(B:aT)(fl:List FL)(Q:bo→aT→Prop):Prop:=
 ∀H0 X0 E H β,Rel H0 X0 VE B E H β→∀bc:List FP,mF H.next B β fl bc→JV T ops E H bc (vg H0 X0 B β H Q)
def VC(T:aN)(c:IC)(VE:bo)(B:aT)(Q:Ex→bo→aT→Prop):Prop:=
 ∀H0 X0 E H β,Rel H0 X0 VE B E H β→jO T c E H fun x=>vg H0 X0 B β H (Q x)
variable{VE bF:bo}{B B':aT}
theorem vg.of{H0:Nat→Nat}{X0:Nat→Prop}{H H1:aw}{A:aT}{β z:Nat→Nat}{W:Nat→Prop}{Q:bo→aT→Prop}{E':Env}{H':aw}(h:vg H0 X0 A z H1 Q E' H')(G:gw B β H W A z H1)(I:H.aQ≤H.next):vg H0 X0 B β H Q E' H':=by
 obtain⟨bF,B',β',L,h2,M⟩:=h;exact⟨bF,B',β',G.trans L I,h2,M⟩
variable{Q:bo→aT→Prop}{W:List Nat}
theorem Ab(h:Q VE B):VO T [] VE B Q:=fun _ _ _ _ β z=>wpO_nil ⟨VE,B,β,.refl,z,h⟩
theorem ax{d:Key}{qq:Option (List Nat)}{op:bn}{r:List bl}(h:VI T op VE B W fun v B'=>VO T r ((d.n,v)::VE) B' Q):VO T (⟨some d,none,qq,op⟩::r) VE B Q:=by
 intro H0 X0 E H β G;refine wpO_cons ((h H0 X0 E H β G).mono fun a H' z=>?_);obtain⟨v,B',β',I,A,L,M⟩:=z;exact(M H0 X0 _ H' β' (A.set L)).mono fun _ _ z=>z.of I G.aQ
theorem jV{qq:Option (List Nat)}{op:bn}{r:List bl}(h:VI T op VE B W fun _ B'=>VO T r VE B' Q):VO T (⟨none,none,qq,op⟩::r) VE B Q:=by
 intro H0 X0 E H β G;refine wpO_consN ((h H0 X0 E H β G).mono fun a H' z=>?_);obtain⟨v,B',β',I,A,M,L⟩:=z;exact(L H0 X0 _ H' β' A).mono fun _ _ z=>z.of I G.aQ
theorem Rel.bool{H0:Nat→Nat}{X0:Nat→Prop}{E:Env}{H:aw}{β:Nat→Nat}(z:Rel H0 X0 VE B E H β){g:Key}{t:Bool}(A:aL VE g.n=some (.d (.b t))):E.get g=some (.bool t):=by
 obtain⟨a,G,h2⟩:=z.env g _ A;simp only[aG,bH] at h2;rw[G,h2]
theorem vo_want{d g:Key}{want:Bool}{qq:Option (List Nat)}{op:bn}{r:List bl}(I:aL VE g.n=some (.d (.b want)))(h:VI T op VE B W fun v B'=>VO T r ((d.n,v)::VE) B' Q):VO T (⟨some d,some (g,want),qq,op⟩::r) VE B Q:=by
 intro H0 X0 E H β z;refine wpO_want (z.bool I) ((h H0 X0 E H β z).mono fun a H' A=>?_);obtain⟨v,B',β',L,G,M,O⟩:=A;exact(O H0 X0 _ H' β' (G.set M)).mono fun _ _ A=>A.of L z.aQ
theorem aaX{ops:List bl}(z:∀k v,aL bF k=some v→aL VE k=some v)(h:VO T ops bF B Q):VO T ops VE B Q:=
 fun H0 X0 E H β A=>h H0 X0 E H β (A.less z)
theorem vg.more{H0:Nat→Nat}{X0:Nat→Prop}{H:aw}{z:aT}{β:Nat→Nat}{Q:bo→aT→Prop}{E':Env}{H':aw}(h:vg H0 X0 z β H Q E' H')(k:∀b s,aL z b=some s→s.born→∃t,aL B b=some t∧t.born):vg H0 X0 B β H Q E' H':=by
 obtain⟨bF,B',β',A,h2,G⟩:=h;exact⟨bF,B',β',A.more k,h2,G⟩
theorem wS{b:Nat}:∀c s,aL (du B b) c=some s→s.born→∃t,aL B c=some t∧t.born:=fun c s z h2=>by
 rw[mL] at z
 split at z
 ·cases z
 exact⟨s,z,h2⟩
theorem zN{ops:List bl}(b:Nat)(h:VO T ops VE (du B b) Q):VO T ops VE B Q:=
 fun H0 X0 E H β z=>(h H0 X0 E H β (z.drop b)).mono fun _ _ A=>A.more wS
theorem RH{fl:List FL}(h:Q VE B):VQ T [] VE B fl Q:=fun _ _ _ _ β z _ _=>⟨0,_,_,fun _ _ _ _=>rfl,VE,B,β,.refl,z,h⟩
theorem aR{fl:List FL}{d:Key}{op:bn}{r:List bl}(h:VI T op VE B W fun v B'=>VQ T r ((d.n,v)::VE) B' fl Q):VQ T (⟨some d,none,none,op⟩::r) VE B fl Q:=by
 intro H0 X0 E H β A bc I;obtain⟨N,a,H',e,v,B',β',G,z,L,M⟩:=h H0 X0 E H β A;obtain⟨O,U,Y,Z,hp⟩:=M H0 X0 _ H' β' (z.set L) bc (I.step G);refine⟨max N O,U,Y,fun lf n a1 a2=>?_,hp.of G A.aQ⟩;show bl.jd (T.call lf n) ⟨some d,none,none,op⟩ E H bc (iC (T.call lf n) r)=_;rw[uB,YL rfl,e lf n ah ah,KK];exact Z lf n ah ah
theorem vq_want{fl:List FL}{d g:Key}{want:Bool}{op:bn}{r:List bl}(I:aL VE g.n=some (.d (.b want)))(h:VI T op VE B W fun v B'=>VQ T r ((d.n,v)::VE) B' fl Q):VQ T (⟨some d,some (g,want),none,op⟩::r) VE B fl Q:=by
 intro H0 X0 E H β z bc L;obtain⟨N,a,H',e,v,B',β',G,A,M,O⟩:=h H0 X0 E H β z;obtain⟨U,Y,Z,e2,hp⟩:=O H0 X0 _ H' β' (A.set M) bc (L.step G);refine⟨max N U,Y,Z,fun lf n a1 a2=>?_,hp.of G z.aQ⟩;show bl.jd (T.call lf n) ⟨some d,some (g,want),none,op⟩ E H bc (iC (T.call lf n) r)=_;rw[Kp (z.bool I),bh rfl,YL rfl,e lf n ah ah,KK];exact e2 lf n ah ah
theorem uC{call:dG}{E:Env}{H:aw}{d:Option Key}{g:Option (Key×Bool)}{l:List Nat}{op:bn}{bc:List FP}{K:Env→aw→List FP→dD}{v:al}{H1:aw}(h:op.ev call E H.mark= .ok v H1)(G:lZ ⟨op.reads E,H1.ws,H.next,H1.next⟩ bc l=true):
  bl.pg call ⟨d,g,some l,op⟩ E H bc K=K (iJ E d v) ⟨H1.next,H.aQ,oN H.aQ H.ws H1.ws,H1.t⟩ (⟨op.reads E,H1.ws,H.next,H1.next⟩::bc):=by
 cases H with
 |mk next aQ ws t=>cases H1 with
  |mk next' A z t'=>
   show ct next (fun next=>Eg (op.reads E) l next aQ ws bc d E K (op.ev call E ⟨next,next,[],t⟩))=_;rw[fK];have h:op.ev call E ⟨next,next,[],t⟩= .ok v ⟨next',A,z,t'⟩:=h;rw[h];have G:lZ ⟨op.reads E,z,next,next'⟩ bc l=true:=G
   cases d with
   |none=>
    show aD (lZ ⟨op.reads E,z,next,next'⟩ bc l) (K E ⟨next',aQ,oN aQ ws z,t'⟩ (⟨op.reads E,z,next,next'⟩::bc)) (.err 50)=_;rw[G];rfl
   |some d=>
    unfold Eg;dsimp only;rw[G,dV,T4.FN];rfl
def yw(x:Nat):List Nat→Bool
 |[]=>false
 |y::r=>Nat.beq x y||yw x r
theorem KM{x:Nat}:∀{l:List Nat},x∈l→yw x l=true
 |y::r,h=>by
  rcases List.mem_cons.1 h with rfl|h
  ·show(Nat.beq x x||yw x r)=true;rw[show Nat.beq x x=true from ia x];rfl
  show(Nat.beq x y||yw x r)=true;rw[KM h,Bool.or_true]
def IU(R:List Nat):List Nat→Bool
 |[]=>true
 |b::r=>!yw b R&&IU R r
theorem Z3{R:List Nat}:∀{W:List Nat},IU R W=true→∀b,b∈W→b∉R
 |c::r,h,b,z=>by
  simp only[IU,cS] at h;rcases List.mem_cons.1 z with rfl|z
  ·intro A;rw[KM A] at h;simp at h
  exact Z3 h.2 b z
def l8(W:List Nat)(l:List Nat)(fl:List FL):Bool:=
 match l with
 |[]=>true
 |i::r=>(match fl[i]?with
  |some (.rd R)=>IU R W
  |some .qt=>W.isEmpty
  |_=>false)&&l8 W r fl
theorem Z4{l m:List Nat}(h:∀f,f∈l→f∉m):Dm l m=true:=by
 induction l with
 |nil=>rfl
 |cons x r z=>
  show aD (qG x m) false (Dm r m)=true;rw[z fun f A=>h f (m5 _ A)];have G:qG x m=false:=by
   cases I:qG x m
   ·rfl
   exact absurd ((P9 _ _).1 I) (h x (gu ..))
  rw[G];rfl
theorem PQ(r:Option (List Nat)):HM [] r=true:=rfl
theorem PG{l m:List Nat}(h:∀f,f∈l→f∉m):HM l (some m)=true:=by
 cases l with
 |nil=>rfl
 |cons x r=>exact Z4 h
theorem Zk{n:Nat}:∀{l:List Nat},yt l n n=true
 |[]=>rfl
 |x::r=>by
  show aD (Nat.ble n x) (aD (Nat.ble n x) (yt r n n) false) (yt r n n)=true;rw[Zk]
  cases Nat.ble n x<;>rfl
theorem wT{n:Nat}{β:Nat→Nat}{fl:List FL}{bc:List FP}{fp:FP}(G:mF n B β fl bc)(M:∀f,f∈fp.ws→∃b s,b∈W∧aL B b=some s∧s.born∧β b=f):∀{l:List Nat},l8 W l fl=true→lZ fp bc l=true
 |[],_=>rfl
 |i::r,h=>by
  simp only[l8,cS] at h;obtain⟨hi,Z⟩:=h;show ob (bc[i]?) false (fun b=>aD (mQ fp b) (lZ fp bc r) false)=true;have A:i<bc.length:=by
   rw[G.1]
   cases z:fl[i]?with
   |none=>rw[z] at hi;simp at hi
   |some x=>exact(List.getElem?_eq_some_iff.1 z).1
  rw[c7 A,cI];have L:i<fl.length:=by rw[←G.1];exact A
  have I:=G.2 i _ _ (c7 L) (c7 A);rw[c7 L] at hi;have e:mQ fp bc[i]=true:=by
   unfold mQ
   cases z:fl[i] with
   |un=>rw[z] at hi;simp at hi
   |off _=>rw[z] at hi;simp at hi
   |wr _=>rw[z] at hi;simp at hi
   |qt=>
    rw[z] at hi I;have hW:W=[]:=by cases W with
     |nil=>rfl
     |cons _ _=>simp at hi
    have O:fp.ws=[]:=by
     cases hl:fp.ws with
     |nil=>rfl
     |cons f _=>
      obtain⟨b,_,Y,_⟩:=M f (by rw[hl];exact gu ..);rw[hW] at Y;cases Y
    have I:bc[i].ws=[]:=I;rw[O,I];rfl
   |rd R=>
    rw[z] at hi I;obtain⟨k1,k2,l,k3,k4⟩:=I;have hi:IU R W=true:=hi;rw[k1,k2,k3,PQ,PG (fun f G U=>?_),Z4 (fun f _ h=>by cases h),Zk]
    ·rfl
    obtain⟨b,s,h1,h2,h3,h4⟩:=M f G;exact Z3 hi b h1 ((k4 f U).2 b s h2 h3 h4)
  rw[e,dV];exact wT G M Z
theorem gw.mark{β β':Nat→Nat}{H H1:aw}(h:gw B β H.mark (· ∈W) B' β' H1):gw B β H (· ∈W) B' β' ⟨H1.next,H.aQ,oN H.aQ H.ws H1.ws,H1.t⟩:=by
 cases H with
 |mk next aQ ws t=>
  refine⟨rfl,h.next,fun f z=>?_,h.since,h.nx⟩;rcases(Fk _ _ _ _).1 z with z|⟨z,k⟩
  ·exact .inl z
  rcases h.ws f z with z|⟨a,A⟩
  ·cases z
  exact .inr ⟨k,A⟩
theorem uN{H0:Nat→Nat}{X0:Nat→Prop}{E:Env}{H:aw}{β:Nat→Nat}{op:bn}{Q:VV→aT→Prop}(h:VI T op VE B W Q)(L:Rel H0 X0 VE B E H β):
  gg T op E H.mark fun a H1=>(∀f,f∈H1.ws→∃b s,b∈W∧aL B b=some s∧s.born∧β b=f)∧∃v B' β',gw B β H (· ∈W) B' β' ⟨H1.next,H.aQ,oN H.aQ H.ws H1.ws,H1.t⟩∧Rel H0 X0 VE B' E ⟨H1.next,H.aQ,oN H.aQ H.ws H1.ws,H1.t⟩ β'∧aG ⟨H1.next,H.aQ,oN H.aQ H.ws H1.ws,H1.t⟩ (XB X0 B' β') β' v a∧Q v B':=by
 have z:H.mark.aQ=H.next∧H.mark.ws=[]∧H.mark.next=H.next∧H.mark.t=H.t:=by cases H;exact⟨rfl,rfl,rfl,rfl⟩
 have A:Rel H0 X0 VE B E H.mark β:=L.grow (by rw[z.2.2.1];exact bq _) (fun f _=>by rw[z.2.2.2]) (by rw[z.1,z.2.2.1];exact bq _);refine(h H0 X0 E H.mark β A).mono fun a H1 M=>?_
 obtain⟨v,B',β',G,I,O,U⟩:=M;have Y:H.aQ≤H1.next:=by
  have h1:=L.aQ;have h2:=G.next;rw[z.2.2.1] at h2;omega
 have Z:e9 H1 (XB X0 B' β') ⟨H1.next,H.aQ,oN H.aQ H.ws H1.ws,H1.t⟩ (XB X0 B' β'):=⟨bq _,fun _ _ hx=>⟨hx,rfl⟩⟩;refine⟨fun f hf=>?_,v,B',β',G.mark,I.grow (bq _) (fun _ _=>rfl) Y,O.lift Z,U⟩;rcases G.ws f hf with h|⟨_,b,s,h⟩
 ·rw[z.2.1] at h;cases h
 exact⟨b,s,h⟩
def tZ:List Nat→FL
 |[]=>.qt
 |_=>.un
theorem QJ{n:Nat}{β:Nat→Nat}{fp:FP}(A:∀f,f∈fp.ws→∃b s,b∈W∧aL B b=some s∧s.born∧β b=f){G:aT}{z:Nat→Nat}:rX n G z (tZ W) fp:=by
 cases W with
 |cons _ _=>trivial
 |nil=>
  show fp.ws=[]
  cases I:fp.ws with
  |nil=>rfl
  |cons f _=>
   obtain⟨b,_,L,_⟩:=A f (by rw[I];exact gu ..)
   cases L
theorem aP{fl:List FL}{d:Key}{l:List Nat}{op:bn}{r:List bl}(M:l8 W l fl=true)(h:VI T op VE B W fun v B'=>VQ T r ((d.n,v)::VE) B' (tZ W::fl) Q):VQ T (⟨some d,none,some l,op⟩::r) VE B fl Q:=by
 intro H0 X0 E H β A bc G;obtain⟨N,a,H',e,I,v,B',β',L,z,O,U⟩:=uN h A;obtain⟨Y,Z,H2,e2,hp⟩:=U H0 X0 _ _ β' (z.set O) (⟨op.reads E,H'.ws,H.next,H'.next⟩::bc) ((G.step L).cons (QJ I));refine⟨max N Y,Z,H2,fun lf n a1 a2=>?_,hp.of L A.aQ⟩;show bl.jd (T.call lf n) ⟨some d,none,some l,op⟩ E H bc (iC (T.call lf n) r)=_;rw[uB,uC (e lf n ah ah) (wT G I M)];exact e2 lf n ah ah
theorem gK{fl:List FL}{l:List Nat}{op:bn}{r:List bl}(M:l8 W l fl=true)(h:VI T op VE B W fun _ B'=>VQ T r VE B' (tZ W::fl) Q):VQ T (⟨none,none,some l,op⟩::r) VE B fl Q:=by
 intro H0 X0 E H β A bc G;obtain⟨N,a,H',e,I,v,B',β',L,z,hv,O⟩:=uN h A;obtain⟨U,Y,Z,e2,hp⟩:=O H0 X0 _ _ β' z (⟨op.reads E,H'.ws,H.next,H'.next⟩::bc) ((G.step L).cons (QJ I));refine⟨max N U,Y,Z,fun lf n a1 a2=>?_,hp.of L A.aQ⟩;show bl.jd (T.call lf n) ⟨none,none,some l,op⟩ E H bc (iC (T.call lf n) r)=_;rw[uB,uC (e lf n ah ah) (wT G I M)];exact e2 lf n ah ah
theorem vq_wantM{fl:List FL}{d g:Key}{want:Bool}{l:List Nat}{op:bn}{r:List bl}(M:aL VE g.n=some (.d (.b want)))(O:l8 W l fl=true)(h:VI T op VE B W fun v B'=>VQ T r ((d.n,v)::VE) B' (tZ W::fl) Q):VQ T (⟨some d,some (g,want),some l,op⟩::r) VE B fl Q:=by
 intro H0 X0 E H β z bc G;obtain⟨N,a,H',e,I,v,B',β',L,A,U,Y⟩:=uN h z;obtain⟨Z,E2,H2,e2,hp⟩:=Y H0 X0 _ _ β' (A.set U) (⟨op.reads E,H'.ws,H.next,H'.next⟩::bc) ((G.step L).cons (QJ I));refine⟨max N Z,E2,H2,fun lf n a1 a2=>?_,hp.of L z.aQ⟩;show bl.jd (T.call lf n) ⟨some d,some (g,want),some l,op⟩ E H bc (iC (T.call lf n) r)=_;rw[Kp (z.bool M),bh rfl,uC (e lf n ah ah) (wT G I O)];exact e2 lf n ah ah
variable{R:Ex→bo→aT→Prop}
theorem VC.mono{c:IC}{z:Ex→bo→aT→Prop}(h:VC T c VE B R)(k:∀x VE B,R x VE B→z x VE B):VC T c VE B z:=fun H0 X0 E H β A=>
 (h H0 X0 E H β A).mono fun x _ _ G=>by obtain⟨bF,B',β',I,a,b⟩:=G;exact⟨bF,B',β',I,a,k _ _ _ b⟩
theorem uF{ops:List bl}(h:VO T ops VE B fun bF B'=>R .normal bF B'):VC T (.region false ops) VE B R:=fun H0 X0 E H β z=>wpC_region (h H0 X0 E H β z)
theorem F6{ops:List bl}(h:VQ T ops VE B [] fun bF B'=>R .normal bF B'):VC T (.region true ops) VE B R:=fun H0 X0 E H β z=>wpC_regionQ (h H0 X0 E H β z [] ⟨rfl,fun i x r hi=>by simp at hi⟩)
theorem jW{a b:IC}(h:VC T a VE B fun x bF B'=>match x with|.normal=>VC T b bF B' R|x=>R x bF B'):VC T (.seq a b) VE B R:=fun H0 X0 E H β L=>by
 refine wpC_seq ((h H0 X0 E H β L).mono fun x E' H' A=>?_);obtain⟨bF,B',β',G,z,I⟩:=A
 cases x with
 |normal=>exact⟨fun _=>(I H0 X0 E' H' β' z).mono fun _ _ _ A=>A.of G L.aQ,fun e=>absurd rfl e⟩
 |exit id=>exact⟨fun e=>(by cases e),fun _=>⟨bF,B',β',G,z,I⟩⟩
 |ret=>exact⟨fun e=>(by cases e),fun _=>⟨bF,B',β',G,z,I⟩⟩
theorem uO(h:R .normal VE B):VC T .skip VE B R:=fun _ _ _ _ β z=>wpC_skip ⟨VE,B,β,.refl,z,h⟩
theorem F7{id:Nat}(h:R (.exit id) VE B):VC T (.exit id) VE B R:=fun _ _ _ _ β z=>wpC_exit ⟨VE,B,β,.refl,z,h⟩
theorem GA(h:R .ret VE B):VC T .ret VE B R:=fun _ _ _ _ β z=>wpC_ret ⟨VE,B,β,.refl,z,h⟩
theorem Z5{k:Key}{a b:IC}(A:aL VE k.n=some (.d (.b true)))(h:VC T a VE B R):VC T (.cond (.t k) a b) VE B R:=fun H0 X0 E H β z=>
 KL (t:=true) (z.bool A) (fun _=>h H0 X0 E H β z) (fun e=>by cases e)
theorem Z6{k:Key}{a b:IC}(A:aL VE k.n=some (.d (.b false)))(h:VC T b VE B R):VC T (.cond (.t k) a b) VE B R:=fun H0 X0 E H β z=>
 KL (t:=false) (z.bool A) (fun e=>by cases e) (fun _=>h H0 X0 E H β z)
theorem cH{k:Key}{a b:IC}{t:Bool}(A:aL VE k.n=some (.d (.b t)))(G:t=true→VC T a VE B R)(h2:t=false→VC T b VE B R):VC T (.cond (.t k) a b) VE B R:=fun H0 X0 E H β z=>
 KL (t:=t) (z.bool A) (fun e=>G e H0 X0 E H β z) (fun e=>h2 e H0 X0 E H β z)
theorem vc_block{id:Nat}{c:IC}(h:VC T c VE B fun x=>R (OT id x)):VC T (.block id c) VE B R:=fun H0 X0 E H β z=>wpC_block (h H0 X0 E H β z)
theorem QK{c:IC}(I:Nat→bo→aT→Prop)(hI:∀k VE B,I k VE B→VC T c VE B fun x bF B'=>match x with|.normal=>∃j,j<k∧I j bF B'|x=>R x bF B'){k:Nat}(h0:I k VE B):VC T (.loop c) VE B R:=by
 intro H0 X0 E H β hr;refine wpC_loop (fun k E1 H1=>∃z M A,gw B β H (fun _=>True) M A H1∧Rel H0 X0 z M E1 H1 A∧I k z M) (fun k E1 H1 hk=>?_) k E H ⟨VE,B,β,.refl,hr,h0⟩;obtain⟨z,M,A,O,U,hi⟩:=hk;refine(hI k z M hi H0 X0 E1 H1 A U).mono fun x E' H' hp=>?_
 obtain⟨bF,B',β',hw,G,Y⟩:=hp;have L:=O.trans hw hr.aQ
 cases x with
 |normal=>
  obtain⟨j,hj,Z⟩:=Y;exact⟨fun _=>⟨j,hj,bF,B',β',L,G,Z⟩,fun e=>absurd rfl e⟩
 |exit id=>exact⟨fun e=>(by cases e),fun _=>⟨bF,B',β',L,G,Y⟩⟩
 |ret=>exact⟨fun e=>(by cases e),fun _=>⟨bF,B',β',L,G,Y⟩⟩
theorem aaY{c:IC}(z:∀k v,aL bF k=some v→aL VE k=some v)(h:VC T c bF B R):VC T c VE B R:=
 fun H0 X0 E H β A=>h H0 X0 E H β (A.less z)
theorem aaZ{c:IC}(b:Nat)(h:VC T c VE (du B b) R):VC T c VE B R:=
 fun H0 X0 E H β z=>(h H0 X0 E H β (z.drop b)).mono fun _ _ _ A=>A.more wS
end
end Go.Ev
