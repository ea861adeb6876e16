/- Part 8 of rules for walks through the code of a program, and of such walks; what each part proves is said by its theorems. -/
import Derived.Test.YtijnechfhdlgiaaGreatDoorS7
set_option linter.unusedVariables false
set_option linter.unusedSimpArgs false
namespace Go.Ev
structure iC(H:aB)(X:Nat→Prop)(H':aB)(X':Nat→Prop):Prop where
 next:H.next≤H'.next
 same:∀f,f<H.next→¬X f→¬X' f∧H'.t.get f=H.t.get f
section
variable{H H':aB}{X X':Nat→Prop}
mutual
theorem cO.lift(z:iC H X H' X'):∀{d:DC}{a:an},cO H X d a→cO H' X' d a
 |.i _ _,_,h=>h
 |.b _,_,h=>h
 |.s _ _,_,h=>h
 |.nil,_,h=>h
 |.sl rows,a,h=>by
  simp only[cO] at h⊢
  obtain⟨f,g,off,es,I,h2⟩:=h
  exact⟨f,g,off,es,I,h2.imp id fun⟨G,A,q,ho,J⟩=>⟨(z.same f A G).1,mw A z.next,q,ho,gG.lift z G A J⟩⟩
theorem gG.lift(z:iC H X H' X'){f g es:Nat}(A:¬X f)(G:f<H.next):∀{q:Nat}{rows:List (List DC)},gG H X f g es q rows→gG H' X' f g es q rows
 |_,[],_=>trivial
 |q,row::r,h=>by
  simp only[gG] at h⊢
  obtain⟨⟨l,I,h2,J⟩,K⟩:=h
  exact⟨⟨l,I.iO (z.same f G A).2,h2,cW.lift z J⟩,gG.lift z A G K⟩
theorem cW.lift(z:iC H X H' X'):∀{row:List DC}{l:List an},cW H X row l→cW H' X' row l
 |[],_,h=>h
 |d::r,l,h=>by
  simp only[cW] at h⊢
  obtain⟨a,s,A,h2,G⟩:=h
  exact⟨a,s,A,cO.lift z h2,cW.lift z G⟩
end
end
inductive VV where
 |d (x:DC)
 |agg (l:List VV)
 |tuple (l:List VV)
 |vp (b off:Nat)
 |bp (b g q off es:Nat)
 |rp (row:List DC) (off:Nat)
 |bs (b n es:Nat)
 |ac (b n es:Nat)
 |fn (f:Nat) (eG:List VV)
 |k (a:an)
 |jq
 |undef
inductive BS where
 |one (elem aT:Nat) (row:List VV)
 |arr (elem aT es lo:Nat) (rows:List (List DC))
 |acc (elem aT es:Nat) (rows:List (List DC))
def BS.born:BS→Prop
 |.acc _ _ _ rows=>rows≠[]
 |_=>True
abbrev b0:=List (Nat×VV)
abbrev br:=List (Nat×BS)
def aZ{α:Type}:List (Nat×α)→Nat→Option α
 |[],_=>none
 |(i,v)::r,k=>bif Nat.beq i k then some v else aZ r k
theorem en{α:Type}(i:Nat)(v:α)(r:List (Nat×α))(k:Nat):aZ ((i,v)::r) k=if i=k then some v else aZ r k:=by
 show(bif Nat.beq i k then some v else aZ r k)=_
 by_cases h:i=k
 ·rw[aw h,h,show Nat.beq k k=true from iX k];rfl
 rw[aj h]
 cases z:Nat.beq i k
 ·rfl
 exact absurd (dZ z) h
def hH{α:Type}:List (Nat×α)→Nat→List (Nat×α)
 |[],_=>[]
 |(i,v)::r,k=>bif Nat.beq i k then hH r k else(i,v)::hH r k
theorem vx{α:Type}(b k:Nat):∀l:List (Nat×α),aZ (hH l b) k=if b=k then none else aZ l k
 |[]=>by by_cases h:b=k<;>simp[hH,aZ,h]
 |(i,v)::r=>by
  rw[en]
  show aZ (bif Nat.beq i b then hH r b else(i,v)::hH r b) k=_
  by_cases h:i=b
  ·subst h
   rw[show Nat.beq i i=true from iX i]
   show aZ (hH r i) k=_
   rw[vx i k r]
   by_cases hk:i=k
   ·simp[hk]
   simp[hk]
  have z:Nat.beq i b=false:=by
   cases z:Nat.beq i b
   ·rfl
   exact absurd (dZ z) h
  rw[z]
  show aZ ((i,v)::hH r b) k=_
  rw[en,vx b k r]
  by_cases hk:i=k
  ·subst hk;rw[aw rfl,aj (fun e=>h e.symm),aw rfl]
  rw[aj hk,aj hk]
mutual
def aN(H:aB)(X:Nat→Prop)(β:Nat→Nat):VV→an→Prop
 |.d x,a=>cO H X x a
 |.agg l,a=>∃cs,a= .agg cs∧bm H X β l cs
 |.tuple l,a=>∃cs,a= .tuple cs∧bm H X β l cs
 |.vp b off,a=>a= .ptr (β b) 1 off
 |.bp b g q off es,a=>a= .ptr (β b) g (q*es+off)
 |.rp row off,a=>∃f g Q l,a= .ptr f g (Q*l.length+off)∧mm H f g Q l∧cW H X row l∧¬X f∧f<H.next
 |.bs b n es,a=>a= .slice (β b) n 0 n es
 |.ac b n es,a=>(n=0∧a= .cb)∨(0<n∧a= .slice (β b) n 0 n es)
 |.fn f eG,a=>∃cs,a= .func f [] cs∧bm H X β eG cs
 |.k x,a=>a=x
 |.jq,a=>∃t x,a= .iface t x
 |.undef,_=>True
def bm(H:aB)(X:Nat→Prop)(β:Nat→Nat):List VV→List an→Prop
 |[],l=>l=[]
 |v::r,l=>∃a s,l=a::s∧aN H X β v a∧bm H X β r s
end
mutual
def VV.nb:VV→Prop
 |.d _=>True
 |.agg l=>mf l
 |.tuple l=>mf l
 |.vp _ _=>False
 |.bp _ _ _ _ _=>False
 |.rp _ _=>True
 |.bs _ _ _=>False
 |.ac _ _ _=>False
 |.fn _ eG=>mf eG
 |.k _=>True
 |.jq=>True
 |.undef=>True
def mf:List VV→Prop
 |[]=>True
 |v::r=>v.nb∧mf r
end
mutual
def VV.no(b:Nat):VV→Bool
 |.d _=>true
 |.agg l=>pc b l
 |.tuple l=>pc b l
 |.vp c _=>!Nat.beq c b
 |.bp c _ _ _ _=>!Nat.beq c b
 |.rp _ _=>true
 |.bs c _ _=>!Nat.beq c b
 |.ac c _ _=>!Nat.beq c b
 |.fn _ eG=>pc b eG
 |.k _=>true
 |.jq=>true
 |.undef=>true
def pc(b:Nat):List VV→Bool
 |[]=>true
 |v::r=>v.no b&&pc b r
end
def BS.no(b:Nat):BS→Bool
 |.one _ _ row=>pc b row
 |.arr _ _ _ _ _=>true
 |.acc _ _ _ _=>true
def n6(b:Nat):b0→Bool
 |[]=>true
 |(_,v)::r=>v.no b&&n6 b r
def lK(b:Nat):Bool:=Nat.ble 1000 b&&Nat.ble b 1049
def n7(b:Nat):br→Bool
 |[]=>!lK b
 |(c,s)::r=>!Nat.beq c b&&s.no b&&n7 b r
section
variable{H H':aB}{X X':Nat→Prop}{β β':Nat→Nat}
theorem oD{c b:Nat}(h:(!Nat.beq c b)=true):c≠b:=by
 rintro rfl
 rw[show Nat.beq c c=true from iX c] at h
 cases h
mutual
theorem aN.lift(z:iC H X H' X'):∀{v:VV}{a:an},aN H X β v a→aN H' X' β v a
 |.d x,_,h=>by simp only[aN] at h⊢;exact cO.lift z h
 |.agg l,_,h=>by
  simp only[aN] at h⊢
  obtain⟨cs,e,h⟩:=h
  exact⟨cs,e,bm.lift z h⟩
 |.tuple l,_,h=>by
  simp only[aN] at h⊢
  obtain⟨cs,e,h⟩:=h
  exact⟨cs,e,bm.lift z h⟩
 |.vp b off,_,h=>by simp only[aN] at h⊢;exact h
 |.bp b g q off es,_,h=>by simp only[aN] at h⊢;exact h
 |.rp row off,_,h=>by
  simp only[aN] at h⊢
  obtain⟨f,g,Q,l,e,I,h2,G,A⟩:=h
  exact⟨f,g,Q,l,e,I.iO (z.same f A G).2,cW.lift z h2,(z.same f A G).1,mw A z.next⟩
 |.bs b n es,_,h=>by simp only[aN] at h⊢;exact h
 |.ac b n es,_,h=>by simp only[aN] at h⊢;exact h
 |.fn f eG,_,h=>by
  simp only[aN] at h⊢
  obtain⟨cs,e,h⟩:=h
  exact⟨cs,e,bm.lift z h⟩
 |.k x,_,h=>by simp only[aN] at h⊢;exact h
 |.jq,_,h=>by simp only[aN] at h⊢;exact h
 |.undef,_,_=>by simp only[aN]
theorem bm.lift(z:iC H X H' X'):∀{l:List VV}{s:List an},bm H X β l s→bm H' X' β l s
 |[],_,h=>by simp only[bm] at h⊢;exact h
 |v::r,_,h=>by
  simp only[bm] at h⊢
  obtain⟨a,s,e,A,h2⟩:=h
  exact⟨a,s,e,aN.lift z A,bm.lift z h2⟩
end
mutual
theorem aN.nb:∀{v:VV}{a:an},v.nb→aN H X β v a→aN H X β' v a
 |.d x,_,_,h=>by simp only[aN] at h⊢;exact h
 |.agg l,_,n,h=>by
  simp only[aN,VV.nb] at h n⊢
  obtain⟨cs,e,h⟩:=h
  exact⟨cs,e,bm.nb n h⟩
 |.tuple l,_,n,h=>by
  simp only[aN,VV.nb] at h n⊢
  obtain⟨cs,e,h⟩:=h
  exact⟨cs,e,bm.nb n h⟩
 |.vp b off,_,n,_=>by simp only[VV.nb] at n
 |.bp b g q off es,_,n,_=>by simp only[VV.nb] at n
 |.rp row off,_,_,h=>by simp only[aN] at h⊢;exact h
 |.bs b m es,_,n,_=>by simp only[VV.nb] at n
 |.ac b m es,_,n,_=>by simp only[VV.nb] at n
 |.fn f eG,_,n,h=>by
  simp only[aN,VV.nb] at h n⊢
  obtain⟨cs,e,h⟩:=h
  exact⟨cs,e,bm.nb n h⟩
 |.k x,_,_,h=>by simp only[aN] at h⊢;exact h
 |.jq,_,_,h=>by simp only[aN] at h⊢;exact h
 |.undef,_,_,_=>by simp only[aN]
theorem bm.nb:∀{l:List VV}{s:List an},mf l→bm H X β l s→bm H X β' l s
 |[],_,_,h=>by simp only[bm] at h⊢;exact h
 |v::r,_,n,h=>by
  simp only[bm,mf] at h n⊢
  obtain⟨a,s,e,z,h2⟩:=h
  exact⟨a,s,e,aN.nb n.1 z,bm.nb n.2 h2⟩
end
mutual
theorem aN.no{b f:Nat}:∀{v:VV}{a:an},v.no b=true→aN H X β v a→aN H X (fun c=>if c=b then f else β c) v a
 |.d x,_,_,h=>by simp only[aN] at h⊢;exact h
 |.agg l,_,n,h=>by
  simp only[aN,VV.no] at h n⊢
  obtain⟨cs,e,h⟩:=h
  exact⟨cs,e,bm.no n h⟩
 |.tuple l,_,n,h=>by
  simp only[aN,VV.no] at h n⊢
  obtain⟨cs,e,h⟩:=h
  exact⟨cs,e,bm.no n h⟩
 |.vp c off,_,n,h=>by simp only[aN,VV.no] at h n⊢;rw[aj (oD n)];exact h
 |.bp c g q off es,_,n,h=>by simp only[aN,VV.no] at h n⊢;rw[aj (oD n)];exact h
 |.rp row off,_,_,h=>by simp only[aN] at h⊢;exact h
 |.bs c m es,_,n,h=>by simp only[aN,VV.no] at h n⊢;rw[aj (oD n)];exact h
 |.ac c m es,_,n,h=>by simp only[aN,VV.no] at h n⊢;rw[aj (oD n)];exact h
 |.fn f eG,_,n,h=>by
  simp only[aN,VV.no] at h n⊢
  obtain⟨cs,e,h⟩:=h
  exact⟨cs,e,bm.no n h⟩
 |.k x,_,_,h=>by simp only[aN] at h⊢;exact h
 |.jq,_,_,h=>by simp only[aN] at h⊢;exact h
 |.undef,_,_,_=>by simp only[aN]
theorem bm.no{b f:Nat}:∀{l:List VV}{s:List an},pc b l=true→bm H X β l s→bm H X (fun c=>if c=b then f else β c) l s
 |[],_,_,h=>by simp only[bm] at h⊢;exact h
 |v::r,_,n,h=>by
  simp only[bm,pc,eZ] at h n⊢
  obtain⟨a,s,e,z,h2⟩:=h
  exact⟨a,s,e,aN.no n.1 z,bm.no n.2 h2⟩
end
theorem bm.length:∀{l:List VV}{s:List an},bm H X β l s→s.length=l.length
 |[],_,h=>by simp only[bm] at h;subst h;rfl
 |v::r,_,h=>by
  simp only[bm] at h
  obtain⟨a,s,rfl,_,h2⟩:=h
  simp[bm.length h2]
theorem bm.get:∀{l:List VV}{s:List an},bm H X β l s→∀{i:Nat}{v:VV},l[i]?=some v→∃a,s[i]?=some a∧aN H X β v a
 |[],_,_,i,v,hi=>by simp at hi
 |x::r,_,h,i,v,hi=>by
  simp only[bm] at h
  obtain⟨a,s,rfl,z,h2⟩:=h
  cases i with
  |zero=>simp at hi;subst hi;exact⟨a,rfl,z⟩
  |succ i=>simpa using bm.get h2 (i:=i) (v:=v) (by simpa using hi)
theorem bm.append:∀{l m:List VV}{s t:List an},bm H X β l s→bm H X β m t→bm H X β (l++m) (s++t)
 |[],_,_,_,h,k=>by simp only[bm] at h;subst h;exact k
 |x::r,_,_,_,h,k=>by
  simp only[bm] at h
  obtain⟨a,s,rfl,z,h2⟩:=h
  simp only[yA,bm]
  exact⟨a,_,rfl,z,bm.append h2 k⟩
theorem bm.drop:∀{l:List VV}{s:List an}(n:Nat),bm H X β l s→bm H X β (l.drop n) (s.drop n)
 |_,_,0,h=>h
 |[],_,n+1,h=>by simp only[bm] at h;subst h;simp[bm]
 |x::r,_,n+1,h=>by
  simp only[bm] at h
  obtain⟨a,s,rfl,_,h2⟩:=h
  simpa using bm.drop n h2
theorem bm.take:∀{l:List VV}{s:List an}(n:Nat),bm H X β l s→bm H X β (l.take n) (s.take n)
 |_,_,0,h=>by simp[bm]
 |[],_,n+1,h=>by simp only[bm] at h;subst h;simp[bm]
 |x::r,_,n+1,h=>by
  simp only[bm] at h
  obtain⟨a,s,rfl,z,h2⟩:=h
  simp only[xD,bm]
  exact⟨a,_,rfl,z,bm.take n h2⟩
theorem bm.tC:∀{row:List DC}{l:List an},cW H X row l→bm H X β (row.map .d) l
 |[],_,h=>by simp only[cW] at h;subst h;simp[bm]
 |d::r,_,h=>by
  simp only[cW] at h
  obtain⟨a,s,rfl,z,h2⟩:=h
  simp only[eB,bm,aN]
  exact⟨a,s,rfl,z,bm.tC h2⟩
theorem cW.zu:∀{row:List DC}{l:List an},bm H X β (row.map .d) l→cW H X row l
 |[],_,h=>by simpa[bm,cW] using h
 |d::r,_,h=>by
  simp only[eB,bm,aN] at h
  obtain⟨a,s,rfl,z,h2⟩:=h
  simp only[cW]
  exact⟨a,s,rfl,z,cW.zu h2⟩
end
def XB(X0:Nat→Prop)(B:br)(β:Nat→Nat)(f:Nat):Prop:=X0 f∨∃b s,aZ B b=some s∧s.born∧β b=f
def gQ(H:aB)(X:Nat→Prop)(β:Nat→Nat)(f:Nat):BS→Prop
 |.one elem aT row=>∃l lo cs,H.t.get f=some (.row elem l.length aT 1 lo 0 cs)∧lo≤1∧cs.get 0=some l∧bm H X β row l
 |.arr elem aT es lo rows=>∃z cs,H.t.get f=some (.row elem es aT rows.length z 0 cs)∧z≤lo∧lo≤rows.length∧∀q row,rows[q]?=some row→∃l,cs.get q=some l∧l.length=es∧cW H X row l
 |.acc elem aT es rows=>rows=[]∨∃lo cs,H.t.get f=some (.row elem es aT rows.length lo 0 cs)∧lo≤rows.length∧∀q row,rows[q]?=some row→∃l,cs.get q=some l∧l.length=es∧cW H X row l
theorem K3{b:Nat}:∀{B:br},n7 b B=true→lK b=false
 |[],h=>by simpa[n7] using h
 |(_,_)::r,h=>by
  simp only[n7,eZ] at h
  exact K3 h.2
structure Rel(H0:Nat→Nat)(X0:Nat→Prop)(VE:b0)(B:br)(E:Env)(H:aB)(β:Nat→Nat):Prop where
 n8:∀b,lK b=true→β b=H0 b
 bc:H.bc≤H.next
 x0:∀f,X0 f→f<H.next
 new:∀b s,aZ B b=some s→s.born→¬X0 (β b)∧β b<H.next
 inj:∀b c s t,aZ B b=some s→aZ B c=some t→s.born→t.born→β b=β c→b=c
 env:∀k v,aZ VE (Key.n k)=some v→∃a,E.get k=some a∧aN H (XB X0 B β) β v a
 box:∀b s,aZ B b=some s→gQ H (XB X0 B β) β (β b) s
theorem gQ.lift{H H':aB}{X X':Nat→Prop}{β:Nat→Nat}(I:iC H X H' X'){f:Nat}(J:H'.t.get f=H.t.get f):∀{s:BS},gQ H X β f s→gQ H' X' β f s
 |.one _ _ _,h=>by
  obtain⟨l,lo,cs,A,h2,K,G⟩:=h
  exact⟨l,lo,cs,J.trans A,h2,K,bm.lift I G⟩
 |.arr _ _ _ _ _,h=>by
  obtain⟨z,cs,A,h2,K,G⟩:=h
  refine⟨z,cs,J.trans A,h2,K,fun q row O=>?_⟩
  obtain⟨l,U,Y,Z⟩:=G q row O
  exact⟨l,U,Y,cW.lift I Z⟩
 |.acc _ _ _ _,h=>by
  rcases h with h|⟨z,cs,A,h2,G⟩
  ·exact .inl h
  refine .inr ⟨z,cs,J.trans A,h2,fun q row O=>?_⟩
  obtain⟨l,U,Y,Z⟩:=G q row O
  exact⟨l,U,Y,cW.lift I Z⟩
theorem gQ.Vb{H:aB}{X:Nat→Prop}{β:Nat→Nat}{f:Nat}:∀{s:BS},¬s.born→gQ H X β f s
 |.one _ _ _,h=>absurd trivial h
 |.arr _ _ _ _ _,h=>absurd trivial h
 |.acc _ _ _ rows,h=>.inl (by
  cases rows with
  |nil=>rfl
  |cons x r=>exact absurd (fun e:x::r=[]=>by cases e) h)
theorem gQ.vW{H H':aB}{X X':Nat→Prop}{β:Nat→Nat}(A:iC H X H' X'){f:Nat}{s:BS}(G:s.born→H'.t.get f=H.t.get f)(h:gQ H X β f s):gQ H' X' β f s:=by
 by_cases z:s.born
 ·exact h.lift A (G z)
 exact .Vb z
section
variable{T:bf}{H0:Nat→Nat}{X0:Nat→Prop}{VE:b0}{B:br}{E:Env}{H:aB}{β:Nat→Nat}
theorem Rel.grow(h:Rel H0 X0 VE B E H β){H':aB}(A:H.next≤H'.next)(I:∀f,f<H.next→H'.t.get f=H.t.get f)(K:H'.bc≤H'.next):Rel H0 X0 VE B E H' β:=by
 have J:iC H (XB X0 B β) H' (XB X0 B β):=⟨A,fun f G O=>⟨O,I f G⟩⟩
 refine⟨h.n8,K,fun f G=>mw (h.x0 f G) A,fun b s z ho=>⟨(h.new b s z ho).1,mw (h.new b s z ho).2 A⟩,h.inj,fun k v hk=>?_,fun b s z=>(h.box b s z).vW J fun ho=>I _ (h.new b s z ho).2⟩
 obtain⟨a,U,h2⟩:=h.env k v hk
 exact⟨a,U,h2.lift J⟩
theorem Rel.set(h:Rel H0 X0 VE B E H β){d:Key}{v:VV}{a:an}(z:aN H (XB X0 B β) β v a):Rel H0 X0 ((d.n,v)::VE) B (E.set d a) H β:=by
 refine{h with env:=fun k w hk=>?_}
 rw[en] at hk
 rw[T4.eU]
 by_cases e:d.n=k.n
 ·rw[aw e] at hk
  cases hk
  exact⟨a,by rw[aw (Key.inj e).symm],z⟩
 rw[aj e] at hk
 rw[aj (fun A=>e (by rw[A]))]
 exact h.env k w hk
theorem Rel.less(h:Rel H0 X0 VE B E H β){eh:b0}(z:∀k v,aZ eh k=some v→aZ VE k=some v):Rel H0 X0 eh B E H β:=
 {h with env:=fun k v hk=>h.env k v (z _ v hk)}
theorem Rel.drop(h:Rel H0 X0 VE B E H β)(b:Nat):Rel H0 X0 VE (hH B b) E H β:=by
 have A:∀c s,aZ (hH B b) c=some s→aZ B c=some s∧b≠c:=fun c s z=>by
  rw[vx] at z
  by_cases e:b=c
  ·rw[aw e] at z;cases z
  rw[aj e] at z;exact⟨z,e⟩
 have I:iC H (XB X0 B β) H (XB X0 (hH B b) β):=⟨bY _,fun f _ J=>⟨fun k=>J (k.imp id fun⟨c,s,G,h2⟩=>⟨c,s,(A c s G).1,h2⟩),rfl⟩⟩
 refine⟨h.n8,h.bc,h.x0,fun c s z ho=>h.new c s (A c s z).1 ho,fun c e s t z he K O=>h.inj c e s t (A c s z).1 (A e t he).1 K O,fun k v hk=>?_,fun c s z=>(h.box c s (A c s z).1).lift I rfl⟩
 obtain⟨a,G,h2⟩:=h.env k v hk
 exact⟨a,G,h2.lift I⟩
theorem Ci{b:Nat}:∀{VE:b0},n6 b VE=true→∀{k:Nat}{v:VV},aZ VE k=some v→v.no b=true
 |[],_,_,_,h=>by cases h
 |(i,w)::r,z,k,v,h=>by
  simp only[n6,eZ] at z
  rw[en] at h
  by_cases e:i=k
  ·rw[aw e] at h;cases h;exact z.1
  rw[aj e] at h;exact Ci z.2 h
theorem LO{b:Nat}:∀{B:br},n7 b B=true→∀{c:Nat}{s:BS},aZ B c=some s→c≠b∧s.no b=true
 |[],_,_,_,h=>by cases h
 |(i,w)::r,z,c,s,h=>by
  simp only[n7,eZ] at z
  rw[en] at h
  by_cases e:i=c
  ·rw[aw e] at h;cases h;exact⟨e▸oD z.1.1,z.1.2⟩
  rw[aj e] at h;exact LO z.2 h
theorem Rel.Vc(h:Rel H0 X0 VE B E H β){b:Nat}(hE:n6 b VE=true)(hB:n7 b B=true){H':aB}(hn:H'.next=H.next+1)(hs:∀f,f<H.next→H'.t.get f=H.t.get f)(hm:H'.bc=H.bc){s:BS}
  (H6:∀X β',(∀v a,v.no b=true→aN H (XB X0 B β) β v a→aN H' X β' v a)→(∀row l,cW H (XB X0 B β) row l→cW H' X row l)→gQ H' X β' H.next s):
  ∃β',(β' b=H.next∧∀c,c≠b→β' c=β c)∧Rel H0 X0 VE ((b,s)::B) E H' β'∧∀v a,v.no b=true→aN H (XB X0 B β) β v a→aN H' (XB X0 ((b,s)::B) β') β' v a:=by
 let β':Nat→Nat:=fun c=>if c=b then H.next else β c
 have I:β' b=H.next:=aw rfl
 have z:∀c,c≠b→β' c=β c:=fun c A=>aj A
 have hg:∀c t,aZ ((b,s)::B) c=some t→(c=b∧t=s)∨(c≠b∧aZ B c=some t∧t.no b=true):=fun c t A=>by
  rw[en] at A
  by_cases e:b=c
  ·rw[aw e] at A;cases A;exact .inl ⟨e.symm,rfl⟩
  rw[aj e] at A
  exact .inr ⟨fun k=>e k.symm,A,(LO hB A).2⟩
 have hl:iC H (XB X0 B β) H' (XB X0 ((b,s)::B) β'):=⟨by omega,fun f hf hx=>⟨fun k=>by
  rcases k with k|⟨c,t,h1,ho,h2⟩
  ·exact hx (.inl k)
  rcases hg c t h1 with⟨rfl,rfl⟩|⟨A,O,_⟩
  ·rw[I] at h2;omega
  exact hx (.inr ⟨c,t,O,ho,by rw[←h2,z c A]⟩),hs f hf⟩⟩
 have hv:∀v a,v.no b=true→aN H (XB X0 B β) β v a→aN H' (XB X0 ((b,s)::B) β') β' v a:=fun v a Z hr=>(aN.no Z hr).lift hl
 have A:∀row l,cW H (XB X0 B β) row l→cW H' (XB X0 ((b,s)::B) β') row l:=fun row l hr=>hr.lift hl
 refine⟨β',⟨I,z⟩,⟨(fun c A=>(z c fun e=>by rw[e,K3 hB] at A;cases A).trans (h.n8 c A)),by have:=h.bc;omega,(fun f hf=>by have:=h.x0 f hf;omega),fun c t K U=>?_,fun c e t u K IK U Bf Y=>?_,fun k v hk=>?_,fun c t K=>?_⟩,hv⟩
 ·rcases hg c t K with⟨rfl,rfl⟩|⟨J,O,_⟩
  ·rw[I];exact⟨(fun hx=>by have:=h.x0 _ hx;omega),by omega⟩
  rw[z c J];have:=h.new c t O U;exact⟨this.1,by omega⟩
 ·rcases hg c t K with⟨rfl,rfl⟩|⟨J,O,_⟩<;>rcases hg e u IK with⟨rfl,rfl⟩|⟨Bg,h4,_⟩
  ·rfl
  ·rw[I,z e Bg] at Y;have:=h.new e u h4 Bf;omega
  ·rw[I,z c J] at Y;have:=h.new c t O U;omega
  rw[z c J,z e Bg] at Y;exact h.inj c e t u O h4 U Bf Y
 ·obtain⟨a,h1,h2⟩:=h.env k v hk
  exact⟨a,h1,hv v a (Ci hE hk) h2⟩
 rcases hg c t K with⟨rfl,rfl⟩|⟨J,O,Z⟩
 ·rw[I];exact H6 _ _ hv A
 rw[z c J]
 have ho:=h.box c t O
 have G:t.born→H'.t.get (β c)=H.t.get (β c):=fun ho=>hs _ (h.new c t O ho).2
 cases t with
 |one elem aT row=>
  obtain⟨l,lo,cs,k1,k2,k3,k4⟩:=ho
  exact⟨l,lo,cs,(G trivial).trans k1,k2,k3,(bm.no Z k4).lift hl⟩
 |arr elem aT es lo rows=>exact gQ.vW (X:=XB X0 B β) (β:=β') hl G ho
 |acc elem aT es rows=>exact gQ.vW (X:=XB X0 B β) (β:=β') hl G ho
end
section
variable{T:bf}
theorem iP.mono{op:bE}{E:Env}{H:aB}{Q z:an→aB→Prop}(h:iP T op E H Q)(k:∀v H',Q v H'→z v H'):iP T op E H z:=
 let⟨N,v,H',a,b⟩:=h;⟨N,v,H',a,k _ _ b⟩
theorem n5.mono{ops:List bt}{E:Env}{H:aB}{Q z:Env→aB→Prop}(h:n5 T ops E H Q)(k:∀v H',Q v H'→z v H'):n5 T ops E H z:=
 let⟨N,v,H',a,b⟩:=h;⟨N,v,H',a,k _ _ b⟩
theorem Be.mono{ops:List bt}{E:Env}{H:aB}{r:List FP}{Q z:Env→aB→Prop}(h:Be T ops E H r Q)(k:∀v H',Q v H'→z v H'):Be T ops E H r z:=
 let⟨N,v,H',a,b⟩:=h;⟨N,v,H',a,k _ _ b⟩
structure iH(B:br)(β:Nat→Nat)(H:aB)(W:Nat→Prop)(B':br)(β':Nat→Nat)(H':aB):Prop where
 bc:H'.bc=H.bc
 next:H.next≤H'.next
 ws:∀f,f∈H'.ws→f∈H.ws∨(f<H.bc∧∃b s,W b∧aZ B b=some s∧s.born∧β b=f)
 since:∀b s,aZ B' b=some s→s.born→(∃t,aZ B b=some t∧t.born∧β' b=β b)∨H.next≤β' b
 ta:∀f,f<H.next→(∀b s,aZ B b=some s→s.born→β b≠f)→H'.t.get f=H.t.get f
theorem iH.refl{B:br}{β:Nat→Nat}{H:aB}{W:Nat→Prop}:iH B β H W B β H:=
 ⟨rfl,bY _,fun _ h=>.inl h,fun _ s z h2=>.inl ⟨s,z,h2,rfl⟩,fun _ _ _=>rfl⟩
theorem iH.dz{B B':br}{β β':Nat→Nat}{H H':aB}{W z:Nat→Prop}(h:iH B β H W B' β' H')(k:∀b,W b→z b):iH B β H z B' β' H':=
 ⟨h.bc,h.next,fun f A=>(h.ws f A).imp id fun⟨a,b,s,c,d⟩=>⟨a,b,s,k b c,d⟩,h.since,h.ta⟩
theorem iH.more{B J B':br}{β β':Nat→Nat}{H H':aB}{W:Nat→Prop}(h:iH J β H W B' β' H')(k:∀b s,aZ J b=some s→s.born→∃t,aZ B b=some t∧t.born):iH B β H W B' β' H':=
 ⟨h.bc,h.next,fun f G=>(h.ws f G).imp id fun⟨a,b,s,c,d,e,g⟩=>by obtain⟨t,z,A⟩:=k b s d e;exact⟨a,b,t,c,z,A,g⟩,
  fun b s I h2=>(h.since b s I h2).imp (fun⟨t,a,c,d⟩=>by obtain⟨u,z,A⟩:=k b t a c;exact⟨u,z,A,d⟩) id,
  fun f G K=>h.ta f G fun b s I h2=>by obtain⟨t,z,A⟩:=k b s I h2;exact K b t z A⟩
theorem iH.Hx{B z B':br}{β β':Nat→Nat}{H H':aB}{W:Nat→Prop}(h:iH B β H W z β' H')(k:∀b s,aZ B' b=some s→s.born→∃t,aZ z b=some t∧t.born):iH B β H W B' β' H':=
 ⟨h.bc,h.next,h.ws,fun b s A h2=>by obtain⟨t,G,I⟩:=k b s A h2;exact h.since b t G I,h.ta⟩
theorem iH.trans{B J K:br}{β A G:Nat→Nat}{H H1 O:aB}{W Z:Nat→Prop}(h:iH B β H W J A H1)(k:iH J A H1 Z K G O)(hm:H.bc≤H.next):iH B β H (fun _=>True) K G O:=by
 refine⟨k.bc.trans h.bc,jT h.next k.next,fun f z=>?_,fun b s I h2=>?_,fun f z U=>?_⟩
 ·rcases k.ws f z with z|⟨a,b,s,_,c,d,e⟩
  ·rcases h.ws f z with z|⟨a,b,s,_,c,d,e⟩
   ·exact .inl z
   exact .inr ⟨a,b,s,trivial,c,d,e⟩
  rw[h.bc] at a
  rcases h.since b s c d with⟨t,Y,k2,k3⟩|Y
  ·exact .inr ⟨a,b,t,trivial,Y,k2,by rw[←k3,e]⟩
  omega
 ·rcases k.since b s I h2 with⟨t,a,c,d⟩|a
  ·rcases h.since b t a c with⟨u,a',c',d'⟩|a'
   ·exact .inl ⟨u,a',c',d.trans d'⟩
   exact .inr (by rw[d];exact a')
  exact .inr (jT h.next a)
 rw[k.ta f (mw z h.next) fun b s I h2 he=>?_,h.ta f z U]
 rcases h.since b s I h2 with⟨t,a,c,d⟩|a
 ·exact U b t a c (by rw[←d];exact he)
 omega
def xV(H0:Nat→Nat)(X0:Nat→Prop)(VE:b0)(B:br)(β:Nat→Nat)(E:Env)(H:aB)(W:List Nat)(Q:VV→br→Prop)(a:an)(H':aB):Prop:=
 ∃v B' β',iH B β H (· ∈W) B' β' H'∧Rel H0 X0 VE B' E H' β'∧aN H' (XB X0 B' β') β' v a∧Q v B'
def VI(T:bf)(op:bE)(VE:b0)(B:br)(W:List Nat)(Q:VV→br→Prop):Prop:=
 ∀H0 X0 E H β,Rel H0 X0 VE B E H β→iP T op E H (xV H0 X0 VE B β E H W Q)
def sk(H0:Nat→Nat)(X0:Nat→Prop)(B:br)(β:Nat→Nat)(H:aB)(Q:b0→br→Prop)(E':Env)(H':aB):Prop:=
 ∃eh B' β',iH B β H (fun _=>True) B' β' H'∧Rel H0 X0 eh B' E' H' β'∧Q eh B'
def VO(T:bf)(ops:List bt)(VE:b0)(B:br)(Q:b0→br→Prop):Prop:=
 ∀H0 X0 E H β,Rel H0 X0 VE B E H β→n5 T ops E H (sk H0 X0 B β H Q)
inductive FL where
 |rd (R:List Nat)
 |qt
 |un
def uP(n:Nat)(B:br)(β:Nat→Nat):FL→FP→Prop
 |.rd R,r=>r.ws=[]∧r.lo=r.hi∧∃l,r.rd=some l∧∀f,f∈l→f<n∧∀b s,aZ B b=some s→s.born→β b=f→b∈R
 |.qt,r=>r.ws=[]
 |.un,_=>True
def u7(n:Nat)(B:br)(β:Nat→Nat)(fl:List FL)(bS:List FP):Prop:=
 bS.length=fl.length∧∀(i:Nat)x r,fl[i]?=some x→bS[i]?=some r→uP n B β x r
theorem uP.step{B B':br}{β β':Nat→Nat}{H H':aB}{W:Nat→Prop}(G:iH B β H W B' β' H'):∀{x:FL}{r:FP},uP H.next B β x r→uP H'.next B' β' x r
 |.rd R,r,⟨I,h2,l,J,z⟩=>⟨I,h2,l,J,fun f A=>⟨mw (z f A).1 G.next,fun b s K O U=>by
  rcases G.since b s K O with⟨t,a,c,d⟩|a
  ·exact(z f A).2 b t a c (by rw[←d];exact U)
  have:=(z f A).1;omega⟩⟩
 |.qt,r,h=>h
 |.un,r,_=>trivial
theorem u7.step{B B':br}{β β':Nat→Nat}{H H':aB}{W:Nat→Prop}{fl:List FL}{bS:List FP}(z:iH B β H W B' β' H')(h:u7 H.next B β fl bS):u7 H'.next B' β' fl bS:=
 ⟨h.1,fun i x r A h2=>(h.2 i x r A h2).step z⟩
theorem u7.cons{n:Nat}{B:br}{β:Nat→Nat}{fl:List FL}{bS:List FP}{x:FL}{r:FP}(h:u7 n B β fl bS)(k:uP n B β x r):u7 n B β (x::fl) (r::bS):=
 ⟨by simp[h.1],fun i y z A h2=>by
  cases i with
  |zero=>simp at A h2;subst A;subst h2;exact k
  |succ i=>exact h.2 i y z (by simpa using A) (by simpa using h2)⟩
def VQ(T:bf)(ops:List bt)(VE:b0)(B:br)(fl:List FL)(Q:b0→br→Prop):Prop:=
 ∀H0 X0 E H β,Rel H0 X0 VE B E H β→∀bS:List FP,u7 H.next B β fl bS→Be T ops E H bS (sk H0 X0 B β H Q)
def VC(T:bf)(c:IC)(VE:b0)(B:br)(Q:Ex→b0→br→Prop):Prop:=
 ∀H0 X0 E H β,Rel H0 X0 VE B E H β→lq T c E H fun x=>sk H0 X0 B β H (Q x)
variable{VE eh:b0}{B B':br}
theorem sk.of{H0:Nat→Nat}{X0:Nat→Prop}{H H1:aB}{A:br}{β z:Nat→Nat}{W:Nat→Prop}{Q:b0→br→Prop}{E':Env}{H':aB}(h:sk H0 X0 A z H1 Q E' H')(G:iH B β H W A z H1)(I:H.bc≤H.next):sk H0 X0 B β H Q E' H':=by
 obtain⟨eh,B',β',J,h2,K⟩:=h
 exact⟨eh,B',β',G.trans J I,h2,K⟩
variable{Q:b0→br→Prop}{W:List Nat}
theorem af(h:Q VE B):VO T [] VE B Q:=fun _ _ _ _ β z=>TP ⟨VE,B,β,.refl,z,h⟩
theorem al{d:Key}{G:Option (List Nat)}{op:bE}{r:List bt}(h:VI T op VE B W fun v B'=>VO T r ((d.n,v)::VE) B' Q):VO T (⟨some d,none,G,op⟩::r) VE B Q:=by
 intro H0 X0 E H β A
 refine K1 ((h H0 X0 E H β A).mono fun a H' hp=>?_)
 obtain⟨v,B',β',I,z,J,K⟩:=hp
 exact(K H0 X0 _ H' β' (z.set J)).mono fun _ _ hp=>hp.of I A.bc
theorem MM{G:Option (List Nat)}{op:bE}{r:List bt}(h:VI T op VE B W fun _ B'=>VO T r VE B' Q):VO T (⟨none,none,G,op⟩::r) VE B Q:=by
 intro H0 X0 E H β A
 refine R2 ((h H0 X0 E H β A).mono fun a H' hp=>?_)
 obtain⟨v,B',β',I,z,K,J⟩:=hp
 exact(J H0 X0 _ H' β' z).mono fun _ _ hp=>hp.of I A.bc
theorem Rel.bool{H0:Nat→Nat}{X0:Nat→Prop}{E:Env}{H:aB}{β:Nat→Nat}(z:Rel H0 X0 VE B E H β){g:Key}{t:Bool}(A:aZ VE g.n=some (.d (.b t))):E.get g=some (.bool t):=by
 obtain⟨a,G,h2⟩:=z.env g _ A
 simp only[aN,cO] at h2
 rw[G,h2]
theorem ee{d g:Key}{want t:Bool}{A:Option (List Nat)}{op:bE}{r:List bt}(G:aZ VE g.n=some (.d (.b t)))(I:t=!want)(h:VO T r ((d.n,.undef)::VE) B Q):VO T (⟨some d,some (g,want),A,op⟩::r) VE B Q:=by
 intro H0 X0 E H β z
 refine K2 (z.bool G) (by rw[I];cases want<;>decide) ?_
 exact h H0 X0 _ H β (z.set (by simp only[aN]))
theorem TV{d g:Key}{want:Bool}{G:Option (List Nat)}{op:bE}{r:List bt}(I:aZ VE g.n=some (.d (.b want)))(h:VI T op VE B W fun v B'=>VO T r ((d.n,v)::VE) B' Q):VO T (⟨some d,some (g,want),G,op⟩::r) VE B Q:=by
 intro H0 X0 E H β z
 refine SJ (z.bool I) ((h H0 X0 E H β z).mono fun a H' hp=>?_)
 obtain⟨v,B',β',J,A,K,O⟩:=hp
 exact(O H0 X0 _ H' β' (A.set K)).mono fun _ _ hp=>hp.of J z.bc
theorem sk.more{H0:Nat→Nat}{X0:Nat→Prop}{H:aB}{z:br}{β:Nat→Nat}{Q:b0→br→Prop}{E':Env}{H':aB}(h:sk H0 X0 z β H Q E' H')(k:∀b s,aZ z b=some s→s.born→∃t,aZ B b=some t∧t.born):sk H0 X0 B β H Q E' H':=by
 obtain⟨eh,B',β',A,h2,G⟩:=h
 exact⟨eh,B',β',A.more k,h2,G⟩
theorem K4{b:Nat}:∀c s,aZ (hH B b) c=some s→s.born→∃t,aZ B c=some t∧t.born:=fun c s z h2=>by
 rw[vx] at z
 split at z
 ·cases z
 exact⟨s,z,h2⟩
theorem dc{fl:List FL}(h:Q VE B):VQ T [] VE B fl Q:=fun _ _ _ _ β z _ _=>⟨0,_,_,fun _ _ _ _=>rfl,VE,B,β,.refl,z,h⟩
theorem dG{fl:List FL}{d:Key}{op:bE}{r:List bt}(h:VI T op VE B W fun v B'=>VQ T r ((d.n,v)::VE) B' fl Q):VQ T (⟨some d,none,none,op⟩::r) VE B fl Q:=by
 intro H0 X0 E H β A bS I
 obtain⟨N,a,H',e,v,B',β',G,z,J,K⟩:=h H0 X0 E H β A
 obtain⟨O,U,Y,e2,hp⟩:=K H0 X0 _ H' β' (z.set J) bS (I.step G)
 refine⟨max N O,U,Y,fun lf n Z a2=>?_,hp.of G A.bc⟩
 show bt.m9 (T.call lf n) ⟨some d,none,none,op⟩ E H bS (lU (T.call lf n) r)=_
 rw[y3,JV rfl,e lf n (by omega) (by omega),B2]
 exact e2 lf n (by omega) (by omega)
theorem TW{fl:List FL}{d g:Key}{want:Bool}{op:bE}{r:List bt}(I:aZ VE g.n=some (.d (.b want)))(h:VI T op VE B W fun v B'=>VQ T r ((d.n,v)::VE) B' fl Q):VQ T (⟨some d,some (g,want),none,op⟩::r) VE B fl Q:=by
 intro H0 X0 E H β z bS J
 obtain⟨N,a,H',e,v,B',β',G,A,K,O⟩:=h H0 X0 E H β z
 obtain⟨U,Y,Z,e2,hp⟩:=O H0 X0 _ H' β' (A.set K) bS (J.step G)
 refine⟨max N U,Y,Z,fun lf n a1 a2=>?_,hp.of G z.bc⟩
 show bt.m9 (T.call lf n) ⟨some d,some (g,want),none,op⟩ E H bS (lU (T.call lf n) r)=_
 rw[BC (z.bool I),aw rfl,JV rfl,e lf n (by omega) (by omega),B2]
 exact e2 lf n (by omega) (by omega)
theorem cP{fl:List FL}{d g:Key}{want t:Bool}{op:bE}{r:List bt}(A:aZ VE g.n=some (.d (.b t)))(G:t=!want)(h:VQ T r ((d.n,.undef)::VE) B fl Q):VQ T (⟨some d,some (g,want),none,op⟩::r) VE B fl Q:=by
 intro H0 X0 E H β z bS I
 obtain⟨J,K,O,e2,hp⟩:=h H0 X0 _ H β (z.set (d:=d) (v:=.undef) (a:=.undef) (by simp only[aN])) bS I
 refine⟨J,K,O,fun lf n U Y=>?_,hp⟩
 show bt.m9 (T.call lf n) ⟨some d,some (g,want),none,op⟩ E H bS (lU (T.call lf n) r)=_
 rw[BC (z.bool A),aj (by rw[G];cases want<;>decide)]
 exact e2 lf n U Y
theorem iJ{fl:List FL}{d g:Key}{want t:Bool}{l:List Nat}{op:bE}{r:List bt}(A:aZ VE g.n=some (.d (.b t)))(G:t=!want)(h:VQ T r ((d.n,.undef)::VE) B (.rd []::fl) Q):VQ T (⟨some d,some (g,want),some l,op⟩::r) VE B fl Q:=by
 intro H0 X0 E H β z bS I
 obtain⟨J,K,O,e2,hp⟩:=h H0 X0 _ H β (z.set (d:=d) (v:=.undef) (a:=.undef) (by simp only[aN])) (⟨some [],[],0,0⟩::bS) (I.cons ⟨rfl,rfl,[],rfl,fun f h=>by cases h⟩)
 refine⟨J,K,O,fun lf n U Y=>?_,hp⟩
 show bt.m9 (T.call lf n) ⟨some d,some (g,want),some l,op⟩ E H bS (lU (T.call lf n) r)=_
 rw[BC (z.bool A),aj (by rw[G];cases want<;>decide)]
 exact e2 lf n U Y
theorem y4{call:eF}{E:Env}{H:aB}{d:Option Key}{g:Option (Key×Bool)}{l:List Nat}{op:bE}{bS:List FP}{K:Env→aB→List FP→eD}{v:an}{H1:aB}(h:op.ev call E H.mark= .ok v H1)(G:pv ⟨op.reads E,H1.ws,H.next,H1.next⟩ bS l=true):
  bt.pZ call ⟨d,g,some l,op⟩ E H bS K=K (kf E d v) ⟨H1.next,H.bc,ot H.bc H.ws H1.ws,H1.t⟩ (⟨op.reads E,H1.ws,H.next,H1.next⟩::bS):=by
 cases H with
 |mk next bc ws t=>cases H1 with
  |mk next' A z t'=>
   show dr next (fun next=>yl (op.reads E) l next bc ws bS d E K (op.ev call E ⟨next,next,[],t⟩))=_
   rw[im]
   have h:op.ev call E ⟨next,next,[],t⟩= .ok v ⟨next',A,z,t'⟩:=h
   rw[h]
   have G:pv ⟨op.reads E,z,next,next'⟩ bS l=true:=G
   cases d with
   |none=>
    show aH (pv ⟨op.reads E,z,next,next'⟩ bS l) (K E ⟨next',bc,ot bc ws z,t'⟩ (⟨op.reads E,z,next,next'⟩::bS)) (.err 50)=_
    rw[G];rfl
   |some d=>
    unfold yl
    dsimp only
    rw[G,f9,T4.zj];rfl
def AP(x:Nat):List Nat→Bool
 |[]=>false
 |y::r=>Nat.beq x y||AP x r
theorem K5{x:Nat}:∀{l:List Nat},x∈l→AP x l=true
 |y::r,h=>by
  rcases List.mem_cons.1 h with rfl|h
  ·show(Nat.beq x x||AP x r)=true
   rw[show Nat.beq x x=true from iX x];rfl
  show(Nat.beq x y||AP x r)=true
  rw[K5 h,Bool.or_true]
def AQ(R:List Nat):List Nat→Bool
 |[]=>true
 |b::r=>!AP b R&&AQ R r
theorem K6{R:List Nat}:∀{W:List Nat},AQ R W=true→∀b,b∈W→b∉R
 |c::r,h,b,z=>by
  simp only[AQ,eZ] at h
  rcases List.mem_cons.1 z with rfl|z
  ·intro A
   rw[K5 A] at h
   simp at h
  exact K6 h.2 b z
def nG(W:List Nat)(l:List Nat)(fl:List FL):Bool:=
 match l with
 |[]=>true
 |i::r=>(match fl[i]?with
  |some (.rd R)=>AQ R W
  |some .qt=>W.isEmpty
  |_=>false)&&nG W r fl
theorem K7{l m:List Nat}(h:∀f,f∈l→f∉m):xR l m=true:=by
 induction l with
 |nil=>rfl
 |cons x r z=>
  show aH (pY x m) false (xR r m)=true
  rw[z fun f A=>h f (nO _ A)]
  have G:pY x m=false:=by
   cases I:pY x m
   ·rfl
   exact absurd ((F' _ _).1 I) (h x (lh ..))
  rw[G];rfl
theorem R4(r:Option (List Nat)):Ak [] r=true:=rfl
theorem Rl{l m:List Nat}(h:∀f,f∈l→f∉m):Ak l (some m)=true:=by
 cases l with
 |nil=>rfl
 |cons x r=>exact K7 h
theorem Ko{n:Nat}:∀{l:List Nat},uN l n n=true
 |[]=>rfl
 |x::r=>by
  show aH (Nat.ble n x) (aH (Nat.ble n x) (uN r n n) false) (uN r n n)=true
  rw[Ko]
  cases Nat.ble n x<;>rfl
theorem wY{n:Nat}{β:Nat→Nat}{fl:List FL}{bS:List FP}{fp:FP}(A:u7 n B β fl bS)(J:∀f,f∈fp.ws→∃b s,b∈W∧aZ B b=some s∧s.born∧β b=f):∀{l:List Nat},nG W l fl=true→pv fp bS l=true
 |[],_=>rfl
 |i::r,h=>by
  simp only[nG,eZ] at h
  obtain⟨hi,Y⟩:=h
  show ob (bS[i]?) false (fun b=>aH (r4 fp b) (pv fp bS r) false)=true
  have z:i<bS.length:=by
   rw[A.1]
   cases G:fl[i]?with
   |none=>rw[G] at hi;simp at hi
   |some x=>exact(List.getElem?_eq_some_iff.1 G).1
  rw[eY z,dh]
  have I:i<fl.length:=by rw[←A.1];exact z
  have hk:=A.2 i _ _ (eY I) (eY z)
  rw[eY I] at hi
  have e:r4 fp bS[i]=true:=by
   unfold r4
   cases G:fl[i] with
   |un=>rw[G] at hi;simp at hi
   |qt=>
    rw[G] at hi hk
    have Z:W=[]:=by cases W with
     |nil=>rfl
     |cons _ _=>simp at hi
    have K:fp.ws=[]:=by
     cases hl:fp.ws with
     |nil=>rfl
     |cons f _=>
      obtain⟨b,_,U,_⟩:=J f (by rw[hl];exact lh ..)
      rw[Z] at U;cases U
    have hk:bS[i].ws=[]:=hk
    rw[K,hk];rfl
   |rd R=>
    rw[G] at hi hk
    obtain⟨k1,k2,l,k3,k4⟩:=hk
    have hi:AQ R W=true:=hi
    rw[k1,k2,k3,R4,Rl (fun f A O=>?_),K7 (fun f _ h=>by cases h),Ko]
    ·rfl
    obtain⟨b,s,h1,h2,h3,h4⟩:=J f A
    exact K6 hi b h1 ((k4 f O).2 b s h2 h3 h4)
  rw[e,f9]
  exact wY A J Y
theorem iH.mark{β β':Nat→Nat}{H H1:aB}(h:iH B β H.mark (· ∈W) B' β' H1):iH B β H (· ∈W) B' β' ⟨H1.next,H.bc,ot H.bc H.ws H1.ws,H1.t⟩:=by
 cases H with
 |mk next bc ws t=>
  refine⟨rfl,h.next,fun f z=>?_,h.since,h.ta⟩
  rcases(yY _ _ _ _).1 z with z|⟨z,k⟩
  ·exact .inl z
  rcases h.ws f z with z|⟨a,A⟩
  ·cases z
  exact .inr ⟨k,A⟩
theorem zw{H0:Nat→Nat}{X0:Nat→Prop}{E:Env}{H:aB}{β:Nat→Nat}{op:bE}{Q:VV→br→Prop}(h:VI T op VE B W Q)(J:Rel H0 X0 VE B E H β):
  iP T op E H.mark fun a H1=>(∀f,f∈H1.ws→∃b s,b∈W∧aZ B b=some s∧s.born∧β b=f)∧∃v B' β',iH B β H (· ∈W) B' β' ⟨H1.next,H.bc,ot H.bc H.ws H1.ws,H1.t⟩∧Rel H0 X0 VE B' E ⟨H1.next,H.bc,ot H.bc H.ws H1.ws,H1.t⟩ β'∧aN ⟨H1.next,H.bc,ot H.bc H.ws H1.ws,H1.t⟩ (XB X0 B' β') β' v a∧Q v B':=by
 have z:H.mark.bc=H.next∧H.mark.ws=[]∧H.mark.next=H.next∧H.mark.t=H.t:=by cases H;exact⟨rfl,rfl,rfl,rfl⟩
 have A:Rel H0 X0 VE B E H.mark β:=J.grow (by rw[z.2.2.1];exact bY _) (fun f _=>by rw[z.2.2.2]) (by rw[z.1,z.2.2.1];exact bY _)
 refine(h H0 X0 E H.mark β A).mono fun a H1 hp=>?_
 obtain⟨v,B',β',G,I,K,O⟩:=hp
 have U:H.bc≤H1.next:=by
  have h1:=J.bc
  have h2:=G.next
  rw[z.2.2.1] at h2
  omega
 have Y:iC H1 (XB X0 B' β') ⟨H1.next,H.bc,ot H.bc H.ws H1.ws,H1.t⟩ (XB X0 B' β'):=⟨bY _,fun _ _ Z=>⟨Z,rfl⟩⟩
 refine⟨fun f hf=>?_,v,B',β',G.mark,I.grow (bY _) (fun _ _=>rfl) U,K.lift Y,O⟩
 rcases G.ws f hf with h|⟨_,b,s,h⟩
 ·rw[z.2.1] at h;cases h
 exact⟨b,s,h⟩
def sI:List Nat→FL
 |[]=>.qt
 |_=>.un
theorem Gz{n:Nat}{β:Nat→Nat}{fp:FP}(A:∀f,f∈fp.ws→∃b s,b∈W∧aZ B b=some s∧s.born∧β b=f){G:br}{z:Nat→Nat}:uP n G z (sI W) fp:=by
 cases W with
 |cons _ _=>trivial
 |nil=>
  show fp.ws=[]
  cases I:fp.ws with
  |nil=>rfl
  |cons f _=>
   obtain⟨b,_,J,_⟩:=A f (by rw[I];exact lh ..)
   cases J
theorem eL{fl:List FL}{d:Key}{l:List Nat}{op:bE}{r:List bt}(hk:nG W l fl=true)(h:VI T op VE B W fun v B'=>VQ T r ((d.n,v)::VE) B' (sI W::fl) Q):VQ T (⟨some d,none,some l,op⟩::r) VE B fl Q:=by
 intro H0 X0 E H β A bS G
 obtain⟨N,a,H',e,I,v,B',β',J,z,K,O⟩:=zw h A
 obtain⟨U,Y,Z,e2,hp⟩:=O H0 X0 _ _ β' (z.set K) (⟨op.reads E,H'.ws,H.next,H'.next⟩::bS) ((G.step J).cons (Gz I))
 refine⟨max N U,Y,Z,fun lf n a1 a2=>?_,hp.of J A.bc⟩
 show bt.m9 (T.call lf n) ⟨some d,none,some l,op⟩ E H bS (lU (T.call lf n) r)=_
 rw[y3,y4 (e lf n (by omega) (by omega)) (wY G I hk)]
 exact e2 lf n (by omega) (by omega)
theorem SO{fl:List FL}{l:List Nat}{op:bE}{r:List bt}(hk:nG W l fl=true)(h:VI T op VE B W fun _ B'=>VQ T r VE B' (sI W::fl) Q):VQ T (⟨none,none,some l,op⟩::r) VE B fl Q:=by
 intro H0 X0 E H β A bS G
 obtain⟨N,a,H',e,I,v,B',β',J,z,Z,K⟩:=zw h A
 obtain⟨O,U,Y,e2,hp⟩:=K H0 X0 _ _ β' z (⟨op.reads E,H'.ws,H.next,H'.next⟩::bS) ((G.step J).cons (Gz I))
 refine⟨max N O,U,Y,fun lf n a1 a2=>?_,hp.of J A.bc⟩
 show bt.m9 (T.call lf n) ⟨none,none,some l,op⟩ E H bS (lU (T.call lf n) r)=_
 rw[y3,y4 (e lf n (by omega) (by omega)) (wY G I hk)]
 exact e2 lf n (by omega) (by omega)
theorem SP{fl:List FL}{d g:Key}{want:Bool}{l:List Nat}{op:bE}{r:List bt}(K:aZ VE g.n=some (.d (.b want)))(hk:nG W l fl=true)(h:VI T op VE B W fun v B'=>VQ T r ((d.n,v)::VE) B' (sI W::fl) Q):VQ T (⟨some d,some (g,want),some l,op⟩::r) VE B fl Q:=by
 intro H0 X0 E H β z bS G
 obtain⟨N,a,H',e,I,v,B',β',J,A,O,U⟩:=zw h z
 obtain⟨Y,Z,H2,e2,hp⟩:=U H0 X0 _ _ β' (A.set O) (⟨op.reads E,H'.ws,H.next,H'.next⟩::bS) ((G.step J).cons (Gz I))
 refine⟨max N Y,Z,H2,fun lf n a1 a2=>?_,hp.of J z.bc⟩
 show bt.m9 (T.call lf n) ⟨some d,some (g,want),some l,op⟩ E H bS (lU (T.call lf n) r)=_
 rw[BC (z.bool K),aw rfl,y4 (e lf n (by omega) (by omega)) (wY G I hk)]
 exact e2 lf n (by omega) (by omega)
variable{R:Ex→b0→br→Prop}
theorem VC.mono{c:IC}{z:Ex→b0→br→Prop}(h:VC T c VE B R)(k:∀x VE B,R x VE B→z x VE B):VC T c VE B z:=fun H0 X0 E H β A=>
 (h H0 X0 E H β A).mono fun x _ _ hp=>by obtain⟨eh,B',β',G,a,b⟩:=hp;exact⟨eh,B',β',G,a,k _ _ _ b⟩
theorem bG{ops:List bt}(h:VO T ops VE B fun eh B'=>R .normal eh B'):VC T (.region false ops) VE B R:=fun H0 X0 E H β z=>Rk (h H0 X0 E H β z)
theorem iK{ops:List bt}(h:VQ T ops VE B [] fun eh B'=>R .normal eh B'):VC T (.region true ops) VE B R:=fun H0 X0 E H β z=>QR (h H0 X0 E H β z [] ⟨rfl,fun i x r hi=>by simp at hi⟩)
theorem aM{a b:IC}(h:VC T a VE B fun x eh B'=>match x with|.normal=>VC T b eh B' R|x=>R x eh B'):VC T (.seq a b) VE B R:=fun H0 X0 E H β I=>by
 refine TQ ((h H0 X0 E H β I).mono fun x E' H' hp=>?_)
 obtain⟨eh,B',β',A,z,G⟩:=hp
 cases x with
 |normal=>exact⟨fun _=>(G H0 X0 E' H' β' z).mono fun _ _ _ hp=>hp.of A I.bc,fun e=>absurd rfl e⟩
 |exit id=>exact⟨fun e=>(by cases e),fun _=>⟨eh,B',β',A,z,G⟩⟩
 |ret=>exact⟨fun e=>(by cases e),fun _=>⟨eh,B',β',A,z,G⟩⟩
theorem aU(h:R .normal VE B):VC T .skip VE B R:=fun _ _ _ _ β z=>SK ⟨VE,B,β,.refl,z,h⟩
theorem dM{id:Nat}(h:R (.exit id) VE B):VC T (.exit id) VE B R:=fun _ _ _ _ β z=>SL ⟨VE,B,β,.refl,z,h⟩
theorem ax(h:R .ret VE B):VC T .ret VE B R:=fun _ _ _ _ β z=>TR ⟨VE,B,β,.refl,z,h⟩
theorem SQ{k:Key}{a b:IC}(A:aZ VE k.n=some (.d (.b true)))(h:VC T a VE B R):VC T (.cond (.t k) a b) VE B R:=fun H0 X0 E H β z=>
 Gf (t:=true) (z.bool A) (fun _=>h H0 X0 E H β z) (fun e=>by cases e)
theorem SR{k:Key}{a b:IC}(A:aZ VE k.n=some (.d (.b false)))(h:VC T b VE B R):VC T (.cond (.t k) a b) VE B R:=fun H0 X0 E H β z=>
 Gf (t:=false) (z.bool A) (fun e=>by cases e) (fun _=>h H0 X0 E H β z)
theorem aK{k:Key}{a b:IC}{t:Bool}(A:aZ VE k.n=some (.d (.b t)))(G:t=true→VC T a VE B R)(h2:t=false→VC T b VE B R):VC T (.cond (.t k) a b) VE B R:=fun H0 X0 E H β z=>
 Gf (t:=t) (z.bool A) (fun e=>G e H0 X0 E H β z) (fun e=>h2 e H0 X0 E H β z)
theorem SS{id:Nat}{c:IC}(h:VC T c VE B fun x=>R (Ff id x)):VC T (.block id c) VE B R:=fun H0 X0 E H β z=>R3 (h H0 X0 E H β z)
theorem d6{c:IC}(I:Nat→b0→br→Prop)(hI:∀k VE B,I k VE B→VC T c VE B fun x eh B'=>match x with|.normal=>∃j,j<k∧I j eh B'|x=>R x eh B'){k:Nat}(h0:I k VE B):VC T (.loop c) VE B R:=by
 intro H0 X0 E H β hr
 refine SM (fun k E1 H1=>∃z K A,iH B β H (fun _=>True) K A H1∧Rel H0 X0 z K E1 H1 A∧I k z K) (fun k E1 H1 hk=>?_) k E H ⟨VE,B,β,.refl,hr,h0⟩
 obtain⟨z,K,A,O,U,hi⟩:=hk
 refine(hI k z K hi H0 X0 E1 H1 A U).mono fun x E' H' hp=>?_
 obtain⟨eh,B',β',hw,G,Y⟩:=hp
 have J:=O.trans hw hr.bc
 cases x with
 |normal=>
  obtain⟨j,hj,Z⟩:=Y
  exact⟨fun _=>⟨j,hj,eh,B',β',J,G,Z⟩,fun e=>absurd rfl e⟩
 |exit id=>exact⟨fun e=>(by cases e),fun _=>⟨eh,B',β',J,G,Y⟩⟩
 |ret=>exact⟨fun e=>(by cases e),fun _=>⟨eh,B',β',J,G,Y⟩⟩
end
def sg:an→Option VV
 |.int k n=>some (.d (.i k n))
 |.bool b=>some (.d (.b b))
 |.str l v=>some (.d (.s l v))
 |.cb=>some (.d .nil)
 |.gO=>some (.k .gO)
 |.hU=>some (.k .hU)
 |.nC=>some (.k .nC)
 |.func f z cs=>match z,cs with
  |[],[]=>some (.fn f [])
  |_,_=>none
 |_=>none
def aG.vv(VE:b0):aG→Option VV
 |.t k=>aZ VE k.n
 |.c a=>sg a
def VV.cells:VV→Option (List VV)
 |.agg l=>some l
 |.d x=>some [.d x]
 |.vp b o=>some [.vp b o]
 |.bs b n es=>some [.bs b n es]
 |.ac b n es=>some [.ac b n es]
 |.k .gO=>some [.k .gO]
 |.k .hU=>some [.k .hU]
 |.k .nC=>some [.k .nC]
 |.jq=>some [.jq]
 |.fn f c=>some [.fn f c]
 |_=>none
def lP:List VV→Option (List DC)
 |[]=>some []
 |.d x::r=>(lP r).map (x:: ·)
 |_::_=>none
def bw{α:Type}:List (Nat×α)→List (Nat×α)→Prop
 |[],_=>True
 |(i,v)::r,l=>aZ l i=some v∧bw r l
theorem bw.get{α:Type}:∀{l m:List (Nat×α)},bw l m→∀{k:Nat}{v:α},aZ l k=some v→aZ m k=some v
 |[],_,_,_,_,h=>by cases h
 |(i,w)::r,m,z,k,v,h=>by
  rw[en] at h
  by_cases e:i=k
  ·rw[aw e] at h;cases h;exact e▸z.1
  rw[aj e] at h;exact bw.get z.2 h
theorem LP:∀{l:List VV}{row:List DC},lP l=some row→l=row.map .d
 |[],row,h=>by simp only[lP,gJ] at h;subst h;rfl
 |.d x::r,row,h=>by
  simp only[lP,CU] at h
  obtain⟨s,z,rfl⟩:=h
  rw[LP z];rfl
 |.agg _::_,_,h=>by simp[lP] at h
 |.tuple _::_,_,h=>by simp[lP] at h
 |.vp _ _::_,_,h=>by simp[lP] at h
 |.bp _ _ _ _ _::_,_,h=>by simp[lP] at h
 |.rp _ _::_,_,h=>by simp[lP] at h
 |.bs _ _ _::_,_,h=>by simp[lP] at h
 |.ac _ _ _::_,_,h=>by simp[lP] at h
 |.fn _ _::_,_,h=>by simp[lP] at h
 |.k _::_,_,h=>by simp[lP] at h
 |.jq::_,_,h=>by simp[lP] at h
 |.undef::_,_,h=>by simp[lP] at h
section
variable{T:bf}{H0:Nat→Nat}{X0:Nat→Prop}{VE eh:b0}{B B':br}{E:Env}{H H':aB}{β:Nat→Nat}{X:Nat→Prop}
theorem FQ{a:an}{v:VV}(h:sg a=some v):aN H X β v a:=by
 cases a
 case func f z cs=>
  cases z<;>cases cs<;>simp only[sg,gJ,reduceCtorEq] at h
  subst h
  simp only[aN,bm]
  exact⟨[],rfl,rfl⟩
 all_goals simp only[sg,gJ,reduceCtorEq] at h
 all_goals subst h
 all_goals first|(simp only[aN,cO];done)|(simp only[aN])
theorem R5{a:an}{v:VV}(h:sg a=some v)(b:Nat):v.no b=true:=by
 cases a
 case func f z cs=>
  cases z<;>cases cs<;>simp only[sg,gJ,reduceCtorEq] at h
  subst h
  rfl
 all_goals simp only[sg,gJ,reduceCtorEq] at h
 all_goals subst h
 all_goals simp only[VV.no]
theorem Rel.b9(z:Rel H0 X0 VE B E H β){x:aG}{v:VV}(h:x.vv VE=some v):∃a,x.ev E=some a∧aN H (XB X0 B β) β v a:=by
 cases x with
 |t k=>exact z.env k v h
 |c a=>exact⟨a,rfl,FQ h⟩
theorem aN.cells{v:VV}{a:an}{l:List VV}(h:v.cells=some l)(z:aN H X β v a):∃s,jK a=some s∧bm H X β l s:=by
 cases v with
 |agg m=>
  simp only[VV.cells,gJ] at h;subst h
  simp only[aN] at z
  obtain⟨cs,rfl,h⟩:=z
  exact⟨cs,rfl,h⟩
 |d x=>
  simp only[VV.cells,gJ] at h;subst h
  have:jK a=some [a]:=by
   simp only[aN] at z
   cases x with
   |i k n=>simp only[cO] at z;subst z;rfl
   |b t=>simp only[cO] at z;subst z;rfl
   |s l n=>simp only[cO] at z;subst z;rfl
   |nil=>simp only[cO] at z;subst z;rfl
   |sl rows=>simp only[cO] at z;obtain⟨f,g,off,es,rfl,_⟩:=z;rfl
  exact⟨[a],this,by simp only[bm];exact⟨a,[],rfl,z,rfl⟩⟩
 |vp b o=>
  simp only[VV.cells,gJ] at h;subst h
  have e:a= .ptr (β b) 1 o:=by simpa only[aN] using z
  exact⟨[a],by subst e;rfl,by simp only[bm];exact⟨a,[],rfl,z,rfl⟩⟩
 |bs b n es=>
  simp only[VV.cells,gJ] at h;subst h
  have e:a= .slice (β b) n 0 n es:=by simpa only[aN] using z
  exact⟨[a],by subst e;rfl,by simp only[bm];exact⟨a,[],rfl,z,rfl⟩⟩
 |fn f c=>
  simp only[VV.cells,gJ] at h;subst h
  have e:∃cs,a= .func f [] cs∧bm H X β c cs:=by simpa only[aN] using z
  obtain⟨cs,e,_⟩:=e
  exact⟨[a],by subst e;rfl,by simp only[bm];exact⟨a,[],rfl,z,rfl⟩⟩
 |jq=>
  simp only[VV.cells,gJ] at h;subst h
  have e:∃t x,a= .iface t x:=by simpa only[aN] using z
  obtain⟨t,x,e⟩:=e
  exact⟨[a],by subst e;rfl,by simp only[bm];exact⟨a,[],rfl,z,rfl⟩⟩
 |k x=>
  have e:a=x:=by simpa only[aN] using z
  cases x<;>simp only[VV.cells,gJ,reduceCtorEq] at h
  all_goals subst h
  all_goals exact⟨[a],by subst e;rfl,by simp only[bm];exact⟨a,[],rfl,z,rfl⟩⟩
 |ac b n es=>
  simp only[VV.cells,gJ] at h;subst h
  have e:jK a=some [a]:=by
   simp only[aN] at z
   rcases z with⟨_,rfl⟩|⟨_,rfl⟩<;>rfl
  exact⟨[a],e,by simp only[bm];exact⟨a,[],rfl,z,rfl⟩⟩
 |tuple _=>simp[VV.cells] at h
 |bp _ _ _ _ _=>simp[VV.cells] at h
 |rp _ _=>simp[VV.cells] at h
 |undef=>simp[VV.cells] at h
theorem e7{W:List Nat}{Q:VV→br→Prop}{a:an}{v:VV}(z:Rel H0 X0 VE B E H β)(A:aN H (XB X0 B β) β v a)(G:Q v B):xV H0 X0 VE B β E H W Q a H:=
 ⟨v,B,β,.refl,z,A,G⟩
theorem Rel.Ap(h:Rel H0 X0 VE B E H β)(z:∀k s,aZ B' k=some s→aZ B k=some s):Rel H0 X0 VE B' E H β:=by
 have I:iC H (XB X0 B β) H (XB X0 B' β):=⟨bY _,fun f _ J=>⟨fun k=>J (k.imp id fun⟨c,s,G,h2⟩=>⟨c,s,z c s G,h2⟩),rfl⟩⟩
 refine⟨h.n8,h.bc,h.x0,fun c s A=>h.new c s (z c s A),fun c e s t A he=>h.inj c e s t (z c s A) (z e t he),fun k v hk=>?_,fun c s A=>(h.box c s (z c s A)).lift I rfl⟩
 obtain⟨a,G,h2⟩:=h.env k v hk
 exact⟨a,G,h2.lift I⟩
theorem dx{c:IC}{R:Ex→b0→br→Prop}(eh:b0)(B':br)(z:bw eh VE)(h2:bw B' B)(h:VC T c eh B' R):VC T c VE B R:=
 fun H0 X0 E H β A=>(h H0 X0 E H β ((A.less fun _ _ hk=>z.get hk).Ap fun _ _ hk=>h2.get hk)).mono fun _ _ _ hp=>hp.more fun _ s G I=>⟨s,h2.get G,I⟩
mutual
def VV.mA(b:Nat)(x:DC):VV→VV
 |.agg l=>.agg (EI b x l)
 |.bs c n es=>bif Nat.beq c b then .d x else .bs c n es
 |.ac c n es=>bif Nat.beq c b then .d x else .ac c n es
 |v=>v
def EI(b:Nat)(x:DC):List VV→List VV
 |[]=>[]
 |v::r=>v.mA b x::EI b x r
end
mutual
def VV.u9(b n es:Nat):VV→Prop
 |.agg l=>EJ b n es l
 |.bs c m e=>c=b→m=n∧e=es
 |.ac c _ _=>c≠b
 |_=>True
def EJ(b n es:Nat):List VV→Prop
 |[]=>True
 |v::r=>v.u9 b n es∧EJ b n es r
end
theorem gG.qT{f g es:Nat}:∀{rows:List (List DC)}{q:Nat},(∀i row,rows[i]?=some row→∃l,mm H f g (q+i) l∧l.length=es∧cW H X row l)→gG H X f g es q rows
 |[],_,_=>trivial
 |row::r,q,h=>by
  simp only[gG]
  refine⟨h 0 row rfl,gG.qT fun i row hi=>?_⟩
  rw[show q+1+i=q+(i+1) by omega]
  exact h (i+1) row (by simpa using hi)
theorem gQ.cells{f elem aT es lo:Nat}{rows:List (List DC)}(h:gQ H X β f (.arr elem aT es lo rows)){g:Nat}(Y:lo≤g)(h2:g≤rows.length){q:Nat}(I:q<g){row:List DC}(z:rows[q]?=some row):∃l,mm H f g q l∧l.length=es∧cW H X row l:=by
 obtain⟨A,cs,J,Z,k3,K⟩:=h
 obtain⟨l,O,G,U⟩:=K q row z
 exact⟨l,⟨elem,aT,rows.length,A,0,cs,by rw[G];exact J,by omega,h2,I,O⟩,G,U⟩
theorem Rel.asData(G:Rel H0 X0 VE B E H β){b elem aT es lo:Nat}{rows:List (List DC)}(I:aZ B b=some (.arr elem aT es lo rows)){X:Nat→Prop}(J:¬X (β b))(K:iC H (XB X0 B β) H X):cO H X (.sl rows) (.slice (β b) rows.length 0 rows.length es):=by
 have hk:=G.box b _ I
 simp only[cO]
 refine⟨β b,rows.length,0,es,rfl,.inr ⟨J,(G.new b _ I trivial).2,0,by simp,gG.qT fun i row hi=>?_⟩⟩
 have z:=(List.getElem?_eq_some_iff.1 hi).1
 have A:lo≤rows.length:=by obtain⟨_,_,_,_,h,_⟩:=hk;exact h
 obtain⟨l,O,h2,U⟩:=hk.cells (g:=rows.length) A (bY _) z hi
 exact⟨l,by rw[jA];exact O,h2,U.lift K⟩
theorem Rel.mA(I:Rel H0 X0 VE B E H β){b elem aT es lo:Nat}{rows:List (List DC)}(J:aZ B b=some (.arr elem aT es lo rows)){k:Nat}{v:VV}(hv:aZ VE k=some v)(ho:v.u9 b rows.length es):
  Rel H0 X0 ((k,v.mA b (.sl rows))::VE) (hH B b) E H β:=by
 have K:=I.drop b
 have O:¬XB X0 (hH B b) β (β b):=by
  rintro(h|⟨c,s,z,U,h2⟩)
  ·exact(I.new b _ J trivial).1 h
  rw[vx] at z
  by_cases e:b=c
  ·rw[aw e] at z;cases z
  rw[aj e] at z;exact e (I.inj c b s _ z J U trivial h2).symm
 have hl:iC H (XB X0 B β) H (XB X0 (hH B b) β):=⟨bY _,fun f _ O=>⟨fun k=>O (k.imp id fun⟨c,s,z,h2⟩=>⟨c,s,by
  rw[vx] at z
  by_cases e:b=c
  ·rw[aw e] at z;cases z
  rw[aj e] at z;exact z,h2⟩),rfl⟩⟩
 have G:=I.asData J O hl
 have main:(∀v:VV,v.u9 b rows.length es→∀a,aN H (XB X0 (hH B b) β) β v a→aN H (XB X0 (hH B b) β) β (v.mA b (.sl rows)) a):=by
  intro v
  refine VV.rec (motive_1:=fun v=>v.u9 b rows.length es→∀a,aN H (XB X0 (hH B b) β) β v a→aN H (XB X0 (hH B b) β) β (v.mA b (.sl rows)) a)
   (motive_2:=fun l=>EJ b rows.length es l→∀s,bm H (XB X0 (hH B b) β) β l s→bm H (XB X0 (hH B b) β) β (EI b (.sl rows) l) s) ?_ ?_ ?_ ?_ ?_ ?_ ?_ ?_ ?_ ?_ ?_ ?_ ?_ ?_ v
  ·intro x _ a h;exact h
  ·intro l ih ho a h
   simp only[aN,VV.mA,VV.u9] at h ho⊢
   obtain⟨cs,e,h⟩:=h
   exact⟨cs,e,ih ho cs h⟩
  ·intro l _ _ a h;exact h
  ·intro c o _ a h;exact h
  ·intro c g q o e _ a h;exact h
  ·intro row o _ a h;exact h
  ·intro c n e ho a h
   simp only[VV.mA,VV.u9] at h ho⊢
   by_cases A:c=b
   ·obtain⟨rfl,rfl⟩:=ho A
    subst A
    rw[show Nat.beq c c=true from iX c]
    simp only[aN] at h
    subst h
    show aN H _ β (.d (.sl rows)) _
    simp only[aN]
    exact G
   have:Nat.beq c b=false:=by
    cases Y:Nat.beq c b
    ·rfl
    exact absurd (dZ Y) A
   rw[this];exact h
  ·intro c n e ho a h
   simp only[VV.mA,VV.u9] at ho⊢
   have:Nat.beq c b=false:=by
    cases Y:Nat.beq c b
    ·rfl
    exact absurd (dZ Y) ho
   rw[this];exact h
  ·intro f c _ _ a h;exact h
  ·intro x _ a h;exact h
  ·intro _ a h;exact h
  ·intro _ a h;exact h
  ·intro _ s h;exact h
  intro v r Z IL ho s h
  simp only[bm,EI,EJ] at h ho⊢
  obtain⟨a,s,e,z,h2⟩:=h
  exact⟨a,s,e,Z ho.1 a z,IL ho.2 s h2⟩
 refine{K with env:=fun c w A=>?_}
 rw[en] at A
 by_cases e:k=c.n
 ·rw[aw e] at A
  cases A
  obtain⟨a,z,h2⟩:=K.env c v (e▸hv)
  exact⟨a,z,main v ho a h2⟩
 rw[aj e] at A
 exact K.env c w A
theorem gn{ops:List bt}{Q:b0→br→Prop}(k b:Nat){v:VV}{elem aT es lo:Nat}{rows:List (List DC)}(z:aZ VE k=some v)(A:aZ B b=some (.arr elem aT es lo rows))(ho:v.u9 b rows.length es)(h:VO T ops ((k,v.mA b (.sl rows))::VE) (hH B b) Q):VO T ops VE B Q:=
 fun H0 X0 E H β G=>(h H0 X0 E H β (G.mA A z ho)).mono fun _ _ hp=>hp.more K4
variable{W:List Nat}{Q:VV→br→Prop}
theorem wrap64{n:Int}(z: -9223372036854775808≤n)(h2:n≤9223372036854775807):IntKind.i64.wrap n=n:=by
 simp[IntKind.wrap,IntKind.bits,IntKind.signed]
 split<;>omega
theorem bM{x:aG}{v:VV}(A:x.vv VE=some v)(G:Q v B):VI T (.nX x) VE B [] Q:=fun _ _ _ _ _ z=>by
 obtain⟨a,I,h2⟩:=z.b9 A
 exact TL I (e7 z h2 G)
theorem K8{c x y:aG}{v:VV}(G:c.vv VE=some (.d (.b true)))(I:x.vv VE=some v)(J:Q v B):VI T (.pick c x y) VE B [] Q:=fun _ _ _ _ _ z=>by
 obtain⟨a,K,h2⟩:=z.b9 I
 obtain⟨t,O,A⟩:=z.b9 G
 simp only[aN,cO] at A
 subst A
 exact KY (t:=true) O K (e7 z h2 J)
theorem K9{c x y:aG}{v:VV}(G:c.vv VE=some (.d (.b false)))(I:y.vv VE=some v)(J:Q v B):VI T (.pick c x y) VE B [] Q:=fun _ _ _ _ _ z=>by
 obtain⟨a,K,h2⟩:=z.b9 I
 obtain⟨t,O,A⟩:=z.b9 G
 simp only[aN,cO] at A
 subst A
 exact KY (t:=false) O K (e7 z h2 J)
theorem LQ{op:BinOp}{x y:aG}{k A:IntKind}{a b:Int}{r:an}{v:VV}(I:x.vv VE=some (.d (.i k a)))(J:y.vv VE=some (.d (.i A b)))(h:iQ op k a A b=some r)(K:sg r=some v)(O:Q v B):VI T (.bin op x y) VE B [] Q:=fun _ _ _ _ _ z=>by
 obtain⟨_,U,h2⟩:=z.b9 I
 obtain⟨_,Y,G⟩:=z.b9 J
 simp only[aN,cO] at h2 G
 subst h2;subst G
 exact xb U Y h (e7 z (FQ K) O)
theorem N8{x y:aG}{a b:Int}(z:x.vv VE=some (.d (.i .i64 a)))(A:y.vv VE=some (.d (.i .i64 b)))(G:Q (.d (.b (decide (a<b)))) B):VI T (.bin .lss x y) VE B [] Q:=
 LQ z A (r:=.bool (kQ a b)) rfl rfl (by rw[oA];exact G)
theorem Vd{x y:aG}{a b:Int}(z:x.vv VE=some (.d (.i .i64 a)))(A:y.vv VE=some (.d (.i .i64 b)))(G: -9223372036854775808≤a+b)(h2:a+b≤9223372036854775807)(I:Q (.d (.i .i64 (a+b))) B):VI T (.bin .add x y) VE B [] Q:=
 LQ z A (r:=.int .i64 (lV .i64 (a+b))) rfl rfl (by
  have:lV .i64 (a+b)=a+b:=by rw[mW];exact wrap64 G h2
  rw[this];exact I)
theorem ju{x:aG}{b:Bool}(A:x.vv VE=some (.d (.b b)))(G:Q (.d (.b (!b))) B):VI T (.un .not x) VE B [] Q:=fun _ _ _ _ _ z=>by
 obtain⟨_,I,h2⟩:=z.b9 A
 simp only[aN,cO] at h2
 subst h2
 exact ML I rfl (e7 z (v:=.d (.b (!b))) (by simp only[aN,cO]) G)
theorem Cj{k A:IntKind}{x:aG}{n:Int}(G:x.vv VE=some (.d (.i A n)))(I:Q (.d (.i k (k.wrap n))) B):VI T (.conv k x) VE B [] Q:=fun _ _ _ _ _ z=>by
 obtain⟨_,J,h2⟩:=z.b9 G
 simp only[aN,cO] at h2
 subst h2
 exact SH J (e7 z (v:=.d (.i k (k.wrap n))) (by simp only[aN,cO,mW]) I)
theorem CK{x:aG}{rows:List (List DC)}(A:x.vv VE=some (.d (.sl rows)))(G:Q (.d (.i .i64 rows.length)) B):VI T (.len x) VE B [] Q:=fun _ _ _ _ _ z=>by
 obtain⟨_,I,h2⟩:=z.b9 A
 simp only[aN,cO] at h2
 obtain⟨f,g,off,es,rfl,_⟩:=h2
 exact Gx I (e7 z (v:=.d (.i .i64 rows.length)) (by simp only[aN,cO]) G)
theorem GA{x:aG}(A:x.vv VE=some (.d .nil))(G:Q (.d (.i .i64 0)) B):VI T (.len x) VE B [] Q:=fun _ _ _ _ _ z=>by
 obtain⟨_,I,h2⟩:=z.b9 A
 simp only[aN,cO] at h2
 subst h2
 exact JH I (e7 z (v:=.d (.i .i64 0)) (by simp only[aN,cO]) G)
theorem TX{x:aG}{b n es:Nat}(A:x.vv VE=some (.bs b n es))(G:Q (.d (.i .i64 n)) B):VI T (.len x) VE B [] Q:=fun _ _ _ _ _ z=>by
 obtain⟨_,I,h2⟩:=z.b9 A
 simp only[aN] at h2
 subst h2
 exact Gx I (e7 z (v:=.d (.i .i64 n)) (by simp only[aN,cO]) G)
theorem TY{x:aG}{l s:Nat}(A:x.vv VE=some (.d (.s l s)))(G:Q (.d (.i .i64 l)) B):VI T (.o5 x) VE B [] Q:=fun _ _ _ _ _ z=>by
 obtain⟨_,I,h2⟩:=z.b9 A
 simp only[aN,cO] at h2
 subst h2
 exact KZ I (e7 z (v:=.d (.i .i64 l)) (by simp only[aN,cO]) G)
theorem kZ{x i:aG}{es j:Nat}{k:IntKind}{rows:List (List DC)}{row:List DC}(K:x.vv VE=some (.d (.sl rows)))(hi:i.vv VE=some (.d (.i k (j:Int))))(G:rows[j]?=some row)(O:row.length=es)(U:Q (.rp row 0) B):VI T (.eg es x i) VE B [] Q:=fun _ _ _ _ _ z=>by
 obtain⟨_,Y,h2⟩:=z.b9 K
 obtain⟨_,Z,A⟩:=z.b9 hi
 simp only[aN] at h2 A
 simp only[cO] at A
 subst A
 obtain⟨f,g,off,gM,rfl,hg⟩:=h2.slice
 obtain⟨k1,k2,Q1,l,k3,I,k5,J⟩:=hg G
 have e:gM=es:=by rw[←I,J.length,O]
 subst e
 refine R0 Y Z (List.getElem?_eq_some_iff.1 G).1 (e7 z (v:=.rp row 0) ?_ U)
 simp only[aN]
 exact⟨f,g,Q1,l,by rw[k5,I];rfl,k3,J,k1,k2⟩
theorem tD{x:aG}{row:List DC}{o k:Nat}(A:x.vv VE=some (.rp row o))(G:Q (.rp row (o+k)) B):VI T (.nR x k) VE B [] Q:=fun _ _ _ _ _ z=>by
 obtain⟨_,I,h2⟩:=z.b9 A
 simp only[aN] at h2
 obtain⟨f,g,J,l,rfl,K⟩:=h2
 exact Gd I (e7 z (v:=.rp row (o+k)) (by simp only[aN];exact⟨f,g,J,l,by rw[nd],K⟩) G)
theorem du{x:aG}{b o k:Nat}(A:x.vv VE=some (.vp b o))(G:Q (.vp b (o+k)) B):VI T (.nR x k) VE B [] Q:=fun _ _ _ _ _ z=>by
 obtain⟨_,I,h2⟩:=z.b9 A
 simp only[aN] at h2
 subst h2
 exact Gd I (e7 z (v:=.vp b (o+k)) (by simp only[aN]) G)
theorem SU{x:aG}{b g j o es k:Nat}(A:x.vv VE=some (.bp b g j o es))(G:Q (.bp b g j (o+k) es) B):VI T (.nR x k) VE B [] Q:=fun _ _ _ _ _ z=>by
 obtain⟨_,I,h2⟩:=z.b9 A
 simp only[aN] at h2
 subst h2
 exact Gd I (e7 z (v:=.bp b g j (o+k) es) (by simp only[aN];rw[nd]) G)
theorem TZ{x:aG}{l:List VV}{i:Nat}{v:VV}(A:x.vv VE=some (.tuple l))(hi:l[i]?=some v)(G:Q v B):VI T (.ry x i) VE B [] Q:=fun _ _ _ _ _ z=>by
 obtain⟨_,I,h2⟩:=z.b9 A
 simp only[aN] at h2
 obtain⟨cs,rfl,h2⟩:=h2
 obtain⟨a,J,K⟩:=h2.get hi
 exact SI I J (e7 z K G)
end
end Go.Ev
