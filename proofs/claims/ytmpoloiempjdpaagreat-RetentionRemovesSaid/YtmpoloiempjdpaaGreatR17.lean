/- Part 17 of rules for walks through the code of a program, and of such walks; what each part proves is said by its theorems. -/
import Derived.Test.YtmpoloiempjdpaaGreatR16
set_option linter.unusedVariables false
set_option linter.unusedSimpArgs false
noncomputable section
set_option maxRecDepth 100000
set_option maxHeartbeats 4000000
namespace Go.Ev
def cn(σ:List (Nat×Nat))(N c:Nat):Nat:=match aF σ c with
 |some k=>k
 |none=>c+N
mutual
def VV.cn(σ:List (Nat×Nat))(N:Nat):VV→VV
 |.d x=>.d x
 |.agg l=>.agg (nL σ N l)
 |.tuple l=>.tuple (nL σ N l)
 |.vp b o=>.vp (Ev.cn σ N b) o
 |.bp b g q o es=>.bp (Ev.cn σ N b) g q o es
 |.rp row o=>.rp row o
 |.bs b n es=>.bs (Ev.cn σ N b) n es
 |.ac b n es=>.ac (Ev.cn σ N b) n es
 |.fn f eo=>.fn f (nL σ N eo)
 |.k a=>.k a
 |.jB=>.jB
 |.undef=>.undef
def nL(σ:List (Nat×Nat))(N:Nat):List VV→List VV
 |[]=>[]
 |v::r=>v.cn σ N::nL σ N r
end
mutual
def VV.lt(N:Nat):VV→Bool
 |.d _=>true
 |.agg l=>B3 N l
 |.tuple l=>B3 N l
 |.vp b _=>Nat.blt b N
 |.bp b _ _ _ _=>Nat.blt b N
 |.rp _ _=>true
 |.bs b _ _=>Nat.blt b N
 |.ac b _ _=>Nat.blt b N
 |.fn _ eo=>B3 N eo
 |.k _=>true
 |.jB=>true
 |.undef=>true
def B3(N:Nat):List VV→Bool
 |[]=>true
 |v::r=>v.lt N&&B3 N r
end
def BS.cn(σ:List (Nat×Nat))(N:Nat):BS→BS
 |.one e b row=>.one e b (nL σ N row)
 |.arr e b es lo rows=>.arr e b es lo rows
 |.acc e b es rows=>.acc e b es rows
 |.bP g s=>.bP g (s.cn σ N)
def BS.lt(N:Nat):BS→Bool
 |.one _ _ row=>B3 N row
 |.bP _ s=>s.lt N
 |_=>true
def nM(σ:List (Nat×Nat))(N:Nat):aK→aK
 |[]=>[]
 |(b,s)::r=>(cn σ N b,s.cn σ N)::nM σ N r
def B4(N:Nat):bb→Bool
 |[]=>true
 |(_,v)::r=>v.lt N&&B4 N r
def B5(N:Nat):aK→Bool
 |[]=>true
 |(b,s)::r=>Nat.blt b N&&s.lt N&&B5 N r
def jV:List (Nat×Nat)→List (Nat×Nat)
 |[]=>[]
 |(a,b)::r=>(b,a)::jV r
def rj(N:Nat):List (Nat×Nat)→Bool
 |[]=>true
 |(c,k)::r=>(aF r c).isNone&&(aF (jV r) k).isNone&&(ke c||!ke k)&&Nat.blt k N&&rj N r
def IJ(σ:List (Nat×Nat))(N:Nat):aK→aK→Prop
 |[],_=>True
 |(c,s)::r,B=>(aF σ c).isSome=true∧aF B (cn σ N c)=some (s.cn σ N)∧IJ σ N r B
def Mv:List (Nat×Nat)→aK→Bool
 |[],_=>true
 |(c,_)::r,Bi=>(aF Bi c).isSome&&Mv r Bi
def iu(σ:List (Nat×Nat)):aK→aK
 |[]=>[]
 |(b,s)::r=>bif(aF (jV σ) b).isSome then iu σ r else(b,s)::iu σ r
def clean(VE:bb)(z:aK):List (Nat×Nat)→Bool
 |[]=>true
 |(c,k)::r=>(ke c||(vo k VE&&IK k z))&&clean VE z r
where IK (k:Nat):aK→Bool
 |[]=>true
 |(_,s)::r=>s.zero k&&IK k r
section
variable{T:aM}{H0:Nat→Nat}{X0:Nat→Prop}{VE bh:bb}{B B':aK}{E:Env}{H H':ax}{β β':Nat→Nat}{X:Nat→Prop}{σ:List (Nat×Nat)}{N:Nat}
theorem CW{a b:Nat}(h:Nat.blt a b=true):a<b:=aX h
mutual
theorem aE.rI:∀{v:VV}{a:aj},aE H X β (v.cn σ N) a→aE H X (fun c=>β (Ev.cn σ N c)) v a
 |.d x,_,h=>by simp only[aE,VV.cn] at h⊢;exact h
 |.agg l,_,h=>by
  simp only[aE,VV.cn] at h⊢;obtain⟨cs,e,h⟩:=h;exact⟨cs,e,bc.rI h⟩
 |.tuple l,_,h=>by
  simp only[aE,VV.cn] at h⊢;obtain⟨cs,e,h⟩:=h;exact⟨cs,e,bc.rI h⟩
 |.vp c off,_,h=>by simp only[aE,VV.cn] at h⊢;exact h
 |.bp c g q off es,_,h=>by simp only[aE,VV.cn] at h⊢;exact h
 |.rp row off,_,h=>by simp only[aE,VV.cn] at h⊢;exact h
 |.bs c m es,_,h=>by simp only[aE,VV.cn] at h⊢;exact h
 |.ac c m es,_,h=>by simp only[aE,VV.cn] at h⊢;exact h
 |.fn f eo,_,h=>by
  simp only[aE,VV.cn] at h⊢;obtain⟨cs,e,h⟩:=h;exact⟨cs,e,bc.rI h⟩
 |.k x,_,h=>by simp only[aE,VV.cn] at h⊢;exact h
 |.jB,_,h=>by simp only[aE,VV.cn] at h⊢;exact h
 |.undef,_,_=>by simp only[aE]
theorem bc.rI:∀{l:List VV}{s:List aj},bc H X β (nL σ N l) s→bc H X (fun c=>β (Ev.cn σ N c)) l s
 |[],_,h=>by simp only[bc,nL] at h⊢;exact h
 |v::r,_,h=>by
  simp only[bc,nL] at h⊢;obtain⟨a,s,e,z,h2⟩:=h;exact⟨a,s,e,aE.rI z,bc.rI h2⟩
end
mutual
theorem aE.cn(z:∀c,β' (Ev.cn σ N c)=β c):∀{v:VV}{a:aj},aE H X β v a→aE H X β' (v.cn σ N) a
 |.d x,_,h=>by simp only[aE,VV.cn] at h⊢;exact h
 |.agg l,_,h=>by
  simp only[aE,VV.cn] at h⊢;obtain⟨cs,e,h⟩:=h;exact⟨cs,e,bc.cn z h⟩
 |.tuple l,_,h=>by
  simp only[aE,VV.cn] at h⊢;obtain⟨cs,e,h⟩:=h;exact⟨cs,e,bc.cn z h⟩
 |.vp c off,_,h=>by simp only[aE,VV.cn] at h⊢;rw[z];exact h
 |.bp c g q off es,_,h=>by simp only[aE,VV.cn] at h⊢;rw[z];exact h
 |.rp row off,_,h=>by simp only[aE,VV.cn] at h⊢;exact h
 |.bs c m es,_,h=>by simp only[aE,VV.cn] at h⊢;rw[z];exact h
 |.ac c m es,_,h=>by simp only[aE,VV.cn] at h⊢;rw[z];exact h
 |.fn f eo,_,h=>by
  simp only[aE,VV.cn] at h⊢;obtain⟨cs,e,h⟩:=h;exact⟨cs,e,bc.cn z h⟩
 |.k x,_,h=>by simp only[aE,VV.cn] at h⊢;exact h
 |.jB,_,h=>by simp only[aE,VV.cn] at h⊢;exact h
 |.undef,_,_=>by simp only[aE,VV.cn]
theorem bc.cn(z:∀c,β' (Ev.cn σ N c)=β c):∀{l:List VV}{s:List aj},bc H X β l s→bc H X β' (nL σ N l) s
 |[],_,h=>by simp only[bc,nL] at h⊢;exact h
 |v::r,_,h=>by
  simp only[bc,nL] at h⊢;obtain⟨a,s,e,A,h2⟩:=h;exact⟨a,s,e,aE.cn z A,bc.cn z h2⟩
end
mutual
theorem aE.at{G:List Nat}(z:∀b,b<N→(∀k,k∈G→b≠k)→β' b=β b):∀{v:VV}{a:aj},v.lt N=true→(∀k,k∈G→v.zero k=true)→aE H X β v a→aE H X β' v a
 |.d x,_,_,_,h=>by simp only[aE] at h⊢;exact h
 |.agg l,_,n,m,h=>by
  simp only[aE,VV.lt,VV.zero] at h n m⊢;obtain⟨cs,e,h⟩:=h;exact⟨cs,e,bc.at z n m h⟩
 |.tuple l,_,n,m,h=>by
  simp only[aE,VV.lt,VV.zero] at h n m⊢;obtain⟨cs,e,h⟩:=h;exact⟨cs,e,bc.at z n m h⟩
 |.vp c off,_,n,m,h=>by simp only[aE,VV.lt,VV.zero] at h n m⊢;rw[z c (CW n) fun k A=>pg (m k A)];exact h
 |.bp c g q off es,_,n,m,h=>by simp only[aE,VV.lt,VV.zero] at h n m⊢;rw[z c (CW n) fun k A=>pg (m k A)];exact h
 |.rp row off,_,_,_,h=>by simp only[aE] at h⊢;exact h
 |.bs c j es,_,n,m,h=>by simp only[aE,VV.lt,VV.zero] at h n m⊢;rw[z c (CW n) fun k A=>pg (m k A)];exact h
 |.ac c j es,_,n,m,h=>by
  simp only[aE,VV.lt,VV.zero,oN] at h n m⊢
  by_cases I:j=0
  ·rcases h with h|h
   ·exact .inl h
   omega
  rw[z c (CW n) fun k A=>(m k A).elim (fun e=>pg e) fun e=>absurd (cU e) I];exact h
 |.fn f eo,_,n,m,h=>by
  simp only[aE,VV.lt,VV.zero] at h n m⊢;obtain⟨cs,e,h⟩:=h;exact⟨cs,e,bc.at z n m h⟩
 |.k x,_,_,_,h=>by simp only[aE] at h⊢;exact h
 |.jB,_,_,_,h=>by simp only[aE] at h⊢;exact h
 |.undef,_,_,_,_=>by simp only[aE]
theorem bc.at{A:List Nat}(G:∀b,b<N→(∀k,k∈A→b≠k)→β' b=β b):∀{l:List VV}{s:List aj},B3 N l=true→(∀k,k∈A→vn k l=true)→bc H X β l s→bc H X β' l s
 |[],_,_,_,h=>by simp only[bc] at h⊢;exact h
 |v::r,_,n,m,h=>by
  simp only[bc,B3,vn,cN] at h n m⊢;obtain⟨a,s,e,I,h2⟩:=h;exact⟨a,s,e,aE.at G n.1 (fun k z=>(m k z).1) I,bc.at G n.2 (fun k z=>(m k z).2) h2⟩
end
theorem abW:∀{VE:bb},B4 N VE=true→∀{k:Nat}{v:VV},aF VE k=some v→v.lt N=true
 |[],_,_,_,h=>by cases h
 |(i,w)::r,z,k,v,h=>by
  simp only[B4,cN] at z;rw[c7] at h
  by_cases e:i=k
  ·rw[bg e] at h;cases h;exact z.1
  rw[aZ e] at h;exact abW z.2 h
theorem KZ:∀{B:aK},B5 N B=true→∀{c:Nat}{s:BS},aF B c=some s→c<N∧s.lt N=true
 |[],_,_,_,h=>by cases h
 |(i,w)::r,z,c,s,h=>by
  simp only[B5,cN] at z;rw[c7] at h
  by_cases e:i=c
  ·rw[bg e] at h;cases h;exact⟨e▸CW z.1.1,z.1.2⟩
  rw[aZ e] at h;exact KZ z.2 h
theorem Zn{α:Type}(k:Nat):∀(l m:List (Nat×α)),aF (l++m) k=match aF l k with|some v=>some v|none=>aF m k
 |[],m=>rfl
 |(i,v)::r,m=>by
  rw[A9,c7,c7]
  by_cases e:i=k
  ·rw[bg e,bg e]
  rw[aZ e,aZ e];exact Zn k r m
theorem zU:∀{σ:List (Nat×Nat)},rj N σ=true→∀{c k:Nat},aF σ c=some k↔aF (jV σ) k=some c
 |[],_,c,k=>by simp[jV,aF]
 |(a,b)::r,h,c,k=>by
  simp only[rj,cN] at h;obtain⟨⟨⟨⟨I,h2⟩,_⟩,_⟩,L⟩:=h;have A:= @zU r L c k;show aF ((a,b)::r) c=some k↔aF ((b,a)::jV r) k=some c;rw[c7,c7]
  by_cases e:a=c
  ·subst e;rw[bg rfl];have G:aF r a=none:=by simpa using I
   constructor
   ·intro h;cases h;rw[bg rfl]
   intro h
   by_cases z:b=k
   ·subst z;rfl
   rw[aZ z] at h;rw[←A,G] at h;cases h
  rw[aZ e];have G:aF (jV r) b=none:=by simpa using h2
  constructor
  ·intro h
   by_cases z:b=k
   ·subst z;rw[A,G] at h;cases h
   rw[aZ z];exact A.1 h
  intro h
  by_cases z:b=k
  ·subst z;rw[bg rfl] at h;cases h;exact absurd rfl e
  rw[aZ z] at h;exact A.2 h
theorem F4:∀{σ:List (Nat×Nat)},rj N σ=true→∀{c k:Nat},aF σ c=some k→(ke c=true∨ke k=false)∧k<N
 |(a,b)::r,h,c,k,z=>by
  simp only[rj,cN,oN,gx] at h;obtain⟨⟨⟨⟨_,_⟩,A⟩,G⟩,I⟩:=h;rw[c7] at z
  by_cases e:a=c
  ·subst e;rw[bg rfl] at z;cases z;exact⟨A,CW G⟩
  rw[aZ e] at z;exact F4 I z
theorem abX(h:rj N σ=true){c d:Nat}(e:cn σ N c=cn σ N d):c=d:=by
 unfold cn at e
 cases A:aF σ c with
 |some k=>
  have I:=(F4 h A).2;rw[A] at e
  cases z:aF σ d with
  |some j=>
   rw[z] at e;have e:k=j:=e;subst e;have G:=(zU h).1 A;have h2:=(zU h).1 z;rw[G] at h2;cases h2;rfl
  |none=>rw[z] at e;have e:k=d+N:=e;omega
 |none=>
  rw[A] at e
  cases z:aF σ d with
  |some j=>
   have L:=(F4 h z).2;rw[z] at e;have e:c+N=j:=e;omega
  |none=>rw[z] at e;have e:c+N=d+N:=e;omega
theorem BS.jW:∀{s:BS},(s.cn σ N).born↔s.born
 |.one _ _ _=>ga
 |.arr _ _ _ _ _=>ga
 |.acc _ _ _ _=>ga
 |.bP _ s=>BS.jW (s:=s)
theorem aaj(h:rj N σ=true){c:Nat}:∀{B:aK},aF (nM σ N B) (cn σ N c)=(aF B c).map (BS.cn σ N)
 |[]=>rfl
 |(b,s)::r=>by
  show aF ((cn σ N b,s.cn σ N)::nM σ N r) _=_;rw[c7,c7,aaj h (B:=r)]
  by_cases e:b=c
  ·rw[bg e,bg (by rw[e])];rfl
  rw[aZ e,aZ fun k=>e (abX h k)]
theorem YT{b:Nat}{t:BS}:∀{B:aK},aF (nM σ N B) b=some t→∃c,cn σ N c=b
 |(c,s)::r,h=>by
  have h:aF ((cn σ N c,s.cn σ N)::nM σ N r) b=some t:=h;rw[c7] at h
  by_cases e:cn σ N c=b
  ·exact⟨c,e⟩
  rw[aZ e] at h;exact YT h
theorem aak{b:Nat}:∀{B:aK},aF (iu σ B) b=if(aF (jV σ) b).isSome then none else aF B b
 |[]=>by show none=_;split<;>rfl
 |(c,s)::r=>by
  have z:= @aak b r;show aF (bif(aF (jV σ) c).isSome then iu σ r else(c,s)::iu σ r) b=_
  cases A:(aF (jV σ) c).isSome
  ·show aF ((c,s)::iu σ r) b=_;rw[c7,c7]
   by_cases e:c=b
   ·subst e;rw[bg rfl,bg rfl,A];rfl
   rw[aZ e,aZ e];exact z
  show aF (iu σ r) b=_;rw[z,c7]
  by_cases e:c=b
  ·subst e;rw[A];rfl
  rw[aZ e]
theorem aa3:∀{Bi:aK},IJ σ N Bi B→∀{c:Nat}{s:BS},aF Bi c=some s→(∃k,aF σ c=some k)∧aF B (cn σ N c)=some (s.cn σ N)
 |[],_,_,_,h=>by cases h
 |(a,t)::r,z,c,s,h=>by
  obtain⟨A,h2,G⟩:=z;rw[c7] at h
  by_cases e:a=c
  ·subst e;rw[bg rfl] at h;cases h;exact⟨Option.isSome_iff_exists.1 A,h2⟩
  rw[aZ e] at h;exact aa3 G h
theorem aa4{k:Nat}:∀{B:aK},clean.IK k B=true→∀{c:Nat}{s:BS},aF B c=some s→s.zero k=true
 |(i,w)::r,z,c,s,h=>by
  simp only[clean.IK,cN] at z;rw[c7] at h
  by_cases e:i=c
  ·rw[bg e] at h;cases h;exact z.1
  rw[aZ e] at h;exact aa4 z.2 h
theorem Qn{A:aK}:∀{σ:List (Nat×Nat)},clean VE A σ=true→∀{c k:Nat},aF σ c=some k→ke c=true∨(vo k VE=true∧clean.IK k A=true)
 |(a,b)::r,h,c,k,z=>by
  simp only[clean,cN,oN] at h;rw[c7] at z
  by_cases e:a=c
  ·subst e;rw[bg rfl] at z;cases z;exact h.1
  rw[aZ e] at z;exact Qn h.2 z
theorem db.rI{f:Nat}:∀{s:BS},db H X β f (s.cn σ N)→db H X (fun c=>β (Ev.cn σ N c)) f s
 |.one _ _ _,⟨l,lo,cs,z,h2,A,G⟩=>⟨l,lo,cs,z,h2,A,bc.rI G⟩
 |.arr _ _ _ _ _,h=>h
 |.acc _ _ _ _,h=>h
 |.bP _ s,h=>⟨fun I=>h.1 (BS.jW.2 I),db.rI (s:=s) h.2⟩
theorem db.cn{f:Nat}(A:∀c,β' (Ev.cn σ N c)=β c):∀{s:BS},db H X β f s→db H X β' f (s.cn σ N)
 |.one _ _ _,⟨l,lo,cs,G,h2,I,L⟩=>⟨l,lo,cs,G,h2,I,bc.cn A L⟩
 |.arr _ _ _ _ _,h=>h
 |.acc _ _ _ _,h=>h
 |.bP _ s,h=>⟨fun z=>h.1 (BS.jW.1 z),db.cn A (s:=s) h.2⟩
theorem db.at{f:Nat}{G:List Nat}(I:∀b,b<N→(∀k,k∈G→b≠k)→β' b=β b):∀{s:BS},s.lt N=true→(∀k,k∈G→s.zero k=true)→db H X β f s→db H X β' f s
 |.one _ _ _,z,A,⟨l,lo,cs,L,h2,M,O⟩=>⟨l,lo,cs,L,h2,M,bc.at I z A O⟩
 |.arr _ _ _ _ _,_,_,h=>h
 |.acc _ _ _ _,_,_,h=>h
 |.bP _ s,z,A,h=>⟨h.1,db.at I (s:=s) z A h.2⟩
def vO:List (Nat×Nat)→List Nat
 |[]=>[]
 |(c,k)::r=>bif ke c then vO r else k::vO r
theorem Fz:∀{σ:List (Nat×Nat)},rj N σ=true→∀{k:Nat},k∈vO σ→∃c,aF σ c=some k∧ke c=false
 |(a,b)::r,h,k,z=>by
  have h0:=h;simp only[rj,cN] at h;obtain⟨⟨⟨⟨L,_⟩,_⟩,_⟩,M⟩:=h;have up:∀{c j},aF r c=some j→aF ((a,b)::r) c=some j:=fun{c j}O=>by
   rw[c7]
   by_cases e:a=c
   ·subst e;rw[O] at L;simp at L
   rw[aZ e];exact O
  unfold vO at z
  cases A:ke a
  ·rw[A] at z;rcases List.mem_cons.1 z with rfl|z
   ·exact⟨a,by rw[c7,bg rfl],A⟩
   obtain⟨c,G,I⟩:=Fz M z;exact⟨c,up G,I⟩
  rw[A] at z;obtain⟨c,G,I⟩:=Fz M z;exact⟨c,up G,I⟩
theorem aa5:∀{σ:List (Nat×Nat)}{c k:Nat},aF σ c=some k→ke c=false→k∈vO σ
 |(a,b)::r,c,k,h,z=>by
  rw[c7] at h;unfold vO
  by_cases e:a=c
  ·subst e;rw[bg rfl] at h;cases h;rw[z];exact jw ..
  rw[aZ e] at h;have:=aa5 h z
  cases ke a
  ·exact pG _ this
  exact this
theorem aal{f:Nat}{vs:List aj}{di:List VV}{Bi:aK}{P:VV→aK→Prop}{Q:VV→aK→Prop}(σ:List (Nat×Nat))(N:Nat)(hN:Nat.ble 1050 N=true)(L:rj N σ=true)(hE:B4 N VE=true)(hB:B5 N B=true)(oW:Mv σ Bi=true)
  (Pd:clean VE (iu σ B) σ=true) (hBi:IJ σ N Bi B) (h:bY T f di Bi P) (hq:∀r Bn,P r Bn→Q (r.cn σ N) (nM σ N Bn++iu σ B)) (hr:Rel H0 X0 VE B E H β) (h2:bc H (XB X0 B β) β (nL σ N di) vs):uo T f vs H (Dr H0 X0 VE B β E H (σ.map (·.2)) Q):=by
 have hN:1050≤N:=aX hN
 let βc:Nat→Nat:=fun c=>β (cn σ N c)
 let X:Nat→Prop:=fun f=>X0 f∨∃b s,aF (iu σ B) b=some s∧s.born∧β b=f
 have z:∀{b s},aF (iu σ B) b=some s→aF (jV σ) b=none∧aF B b=some s:=fun{b s}h=>by
  rw[aak] at h
  cases I:aF (jV σ) b with
  |none=>rw[I] at h;exact⟨rfl,h⟩
  |some _=>rw[I] at h;cases h
 have A:∀{c s},aF Bi c=some s→(∃k,aF σ c=some k)∧aF B (cn σ N c)=some (s.cn σ N):=fun h=>aa3 hBi h
 have hX1:∀f,XB X Bi βc f→XB X0 B β f:=fun f hf=>by
  rcases hf with(hf|⟨b,s,M,O,k3⟩)|⟨c,s,M,O,k3⟩
  ·exact .inl hf
  ·exact .inr ⟨b,s,(z M).2,O,k3⟩
  exact .inr ⟨_,_,(A M).2,BS.jW.2 O,k3⟩
 have agJ:eP H (XB X0 B β) H (XB X Bi βc):=⟨bf _,fun f _ I=>⟨fun k=>I (hX1 f k),rfl⟩⟩;have IH:∀{c s b t},aF Bi c=some s→s.born→aF (iu σ B) b=some t→t.born→βc c≠β b:=fun{c s b t}M O k3 k4 e=>by
  obtain⟨⟨k,hk⟩,k5⟩:=A M;have:=hr.inj _ _ _ _ k5 (z k3).2 (BS.jW.2 O) k4 e;have e2:cn σ N c=k:=by unfold cn;rw[hk]
  rw[e2] at this;subst this;have:=(z k3).1;rw[(zU L).1 hk] at this;cases this
 have JR:Rel βc X [] Bi .emp H βc:=by
  refine⟨fun _ _=>rfl,hr.aR,fun f hf=>hr.lt f (hX1 f (.inl hf)),fun c s M O=>⟨fun I=>?_,(hr.new _ _ (A M).2 (BS.jW.2 O)).2⟩,fun c d s t M O k3 k4 e=>abX L (hr.inj _ _ _ _ (A M).2 (A O).2 (BS.jW.2 k3) (BS.jW.2 k4) e),(fun _ _ k=>by cases k),fun c s M=>?_⟩
  ·rcases I with I|⟨b,t,k3,k4,k5⟩
   ·exact(hr.new _ _ (A M).2 (BS.jW.2 O)).1 I
   exact IH M O k3 k4 k5.symm
  exact db.rI ((hr.box _ _ (A M).2).lift agJ rfl)
 refine(h βc X H βc vs JR (bc.rI (h2.lift agJ))).mono fun a H' hp=>?_
 obtain⟨r,B',β',hw,n7,hv,k6⟩:=hp
 let βn:Nat→Nat:=fun b=>match aF (jV σ) b with
  |some c=>β' c
  |none=>if N≤b then β' (b-N) else β b
 have G:∀c,βn (cn σ N c)=β' c:=fun c=>by
  show(match aF (jV σ) (cn σ N c) with|some c=>β' c|none=>if N≤cn σ N c then β' (cn σ N c-N) else β (cn σ N c))=_;unfold cn
  cases hc:aF σ c with
  |some k=>show(match aF (jV σ) k with|some c=>β' c|none=>_)=_;rw[(zU L).1 hc]
  |none=>
   show(match aF (jV σ) (c+N) with|some c=>β' c|none=>if N≤c+N then β' (c+N-N) else β (c+N))=_
   cases hs:aF (jV σ) (c+N) with
   |some d=>have:=(F4 L ((zU L).2 hs)).2;omega
   |none=>rw[bg al,Nat.add_sub_cancel]
 have JQ:∀b,b<N→(∀k,k∈vO σ→b≠k)→βn b=β b:=fun b Y hm=>by
  show(match aF (jV σ) b with|some c=>β' c|none=>if N≤b then β' (b-N) else β b)=_
  cases hs:aF (jV σ) b with
  |none=>rw[aZ al]
  |some c=>
   have hc:=(zU L).2 hs;have hp:ke c=true:=by
    cases hp:ke c
    ·exact absurd rfl (hm b (aa5 hc hp))
    rfl
   show β' c=β b;rw[n7.jD c hp];show β (cn σ N c)=β b;unfold cn;rw[hc]
 have U:∀{b t},aF (nM σ N B'++iu σ B) b=some t→(∃c t',cn σ N c=b∧aF B' c=some t'∧t=t'.cn σ N)∨(aF (iu σ B) b=some t∧b<N∧aF (jV σ) b=none):=fun{b t}hc=>by
  rw[Zn] at hc
  cases I:aF (nM σ N B') b with
  |some u=>
   rw[I] at hc;cases hc;obtain⟨c,rfl⟩:=YT I;rw[aaj L] at I;obtain⟨t',M,O⟩:=Option.map_eq_some_iff.1 I;exact .inl ⟨c,t',rfl,M,O.symm⟩
  |none=>
   rw[I] at hc;exact .inr ⟨hc,(KZ hB (z hc).2).1,(z hc).1⟩
 have Z:∀{b t},aF (iu σ B) b=some t→βn b=β b:=fun{b t}Y=>by
  have lJ:=(KZ hB (z Y).2).1;show(match aF (jV σ) b with|some c=>β' c|none=>if N≤b then β' (b-N) else β b)=_;rw[(z Y).1,aZ al]
 have hXn:∀f,XB X0 (nM σ N B'++iu σ B) βn f→XB X B' β' f:=fun f I=>by
  rcases I with k|⟨b,t,j1,ho,j2⟩
  ·exact .inl (.inl k)
  rcases U j1 with⟨c,t',rfl,n2,rfl⟩|⟨n1,_,_⟩
  ·exact .inr ⟨c,t',n2,BS.jW.1 ho,by rw[←G];exact j2⟩
  exact .inl (.inr ⟨b,t,n1,ho,by rw[←Z n1];exact j2⟩)
 have EM:eP H' (XB X B' β') H' (XB X0 (nM σ N B'++iu σ B) βn):=⟨bf _,fun f _ I=>⟨fun k=>I (hXn f k),rfl⟩⟩;have ajr:∀f,f<H.next→(∀b s,aF B b=some s→s.born→β b≠f)→H'.t.get f=H.t.get f:=fun f hf Y=>hw.jE f hf fun c s M O=>Y _ _ (A M).2 (BS.jW.2 O)
 have lI:eP H (XB X0 B β) H' (XB X0 (nM σ N B'++iu σ B) βn):=⟨hw.next,fun f hf I=>⟨fun k=>by
  rcases hXn f k with(k|⟨b,t,j1,j2,j3⟩)|⟨c,s,j1,ho,j2⟩
  ·exact I (.inl k)
  ·exact I (.inr ⟨b,t,(z j1).2,j2,j3⟩)
  rcases hw.since c s j1 ho with⟨u,n1,n2,n3⟩|n
  ·exact I (.inr ⟨_,_,(A n1).2,BS.jW.2 n2,by rw[←j2,n3]⟩)
  omega,ajr f hf fun b s M O k3=>I (.inr ⟨b,s,M,O,k3⟩)⟩⟩
 have hnoE:∀{k v},aF VE k=some v→∀j,j∈vO σ→v.zero j=true:=fun{k v}hk j hj=>by
  obtain⟨c,h3,h4⟩:=Fz L hj;rcases Qn Pd h3 with h5|⟨h5,_⟩
  ·rw[h4] at h5;cases h5
  exact Ql h5 hk
 have hnoB:∀{b s},aF (iu σ B) b=some s→∀j,j∈vO σ→s.zero j=true:=fun{b s}hk j hj=>by
  obtain⟨c,h3,h4⟩:=Fz L hj;rcases Qn Pd h3 with h5|⟨_,h5⟩
  ·rw[h4] at h5;cases h5
  exact aa4 h5 hk
 refine⟨r.cn σ N,nM σ N B'++iu σ B,βn,⟨hw.aR,hw.next,fun f hf=>?_,fun b t Y ho=>?_,ajr⟩,⟨fun b Y=>?_,n7.aR,fun f hf=>jh (hr.x0 f hf) hw.next,fun b t Y ho=>?_,fun b e t u Y he ho hu ze=>?_,fun k v hk=>?_,fun b t Y=>?_⟩,aE.cn G (hv.lift EM),hq r B' k6⟩
 ·rcases hw.ws f hf with h|⟨m,c,s,_,M,O,k3⟩
  ·exact .inl h
  obtain⟨⟨k,hk⟩,k4⟩:=A M;refine .inr ⟨m,cn σ N c,_,?_,k4,BS.jW.2 O,k3⟩;have e2:cn σ N c=k:=by unfold cn;rw[hk]
  rw[e2];have:∀{σ:List (Nat×Nat)}{c k:Nat},aF σ c=some k→k∈σ.map (·.2):=by
   intro σ
   induction σ with
   |nil=>intro c k h;cases h
   |cons x r ih=>
    obtain⟨a,b⟩:=x;intro c k h;rw[c7] at h
    by_cases e:a=c
    ·rw[bg e] at h;cases h;exact jw ..
    rw[aZ e] at h;exact pG _ (ih h)
  exact this hk
 ·rcases U Y with⟨c,t',rfl,n2,rfl⟩|⟨n1,_,_⟩
  ·rw[G];rcases hw.since c t' n2 (BS.jW.1 ho) with⟨u,j1,j2,j3⟩|j
   ·exact .inl ⟨_,(A j1).2,BS.jW.2 j2,j3⟩
   exact .inr j
  exact .inl ⟨t,(z n1).2,ho,Z n1⟩
 ·rw[JQ b (by simp only[ke,cN] at Y;have:=aX Y.2;omega) fun k hk e=>?_]
  ·exact hr.jD b Y
  subst e;obtain⟨c,h3,h4⟩:=Fz L hk;rcases(F4 L h3).1 with h5|h5
  ·rw[h4] at h5;cases h5
  rw[Y] at h5;cases h5
 ·rcases U Y with⟨c,t',rfl,n2,rfl⟩|⟨n1,_,_⟩
  ·rw[G];have:=n7.new c t' n2 (BS.jW.1 ho);exact⟨fun I=>this.1 (.inl I),this.2⟩
  rw[Z n1];have:=hr.new b t (z n1).2 ho;exact⟨this.1,jh this.2 hw.next⟩
 ·rcases U Y with⟨c,t',rfl,n2,rfl⟩|⟨n1,_,_⟩<;>rcases U he with⟨d,u',rfl,p2,rfl⟩|⟨p1,_,_⟩
  ·rw[G,G] at ze;rw[n7.inj c d t' u' n2 p2 (BS.jW.1 ho) (BS.jW.1 hu) ze]
  ·rw[G,Z p1] at ze;exact absurd (show X (β' c) from .inr ⟨_,_,p1,hu,ze.symm⟩) (n7.new c t' n2 (BS.jW.1 ho)).1
  ·rw[G,Z n1] at ze;exact absurd (show X (β' d) from .inr ⟨_,_,n1,ho,ze⟩) (n7.new d u' p2 (BS.jW.1 hu)).1
  rw[Z n1,Z p1] at ze;exact hr.inj b e t u (z n1).2 (z p1).2 ho hu ze
 ·obtain⟨a,j1,j2⟩:=hr.env k v hk;exact⟨a,j1,aE.at JQ (abW hE hk) (hnoE hk) (j2.lift lI)⟩
 rcases U Y with⟨c,t',rfl,n2,rfl⟩|⟨n1,_,_⟩
 ·rw[G];exact db.cn G ((n7.box c t' n2).lift EM rfl)
 rw[Z n1];refine db.at JQ (KZ hB (z n1).2).2 (hnoB n1) ((hr.box b t (z n1).2).Dq lI fun ho=>hw.jE _ (hr.new b t (z n1).2 ho).2 fun c s M O k3=>?_);exact IH M O n1 ho k3
theorem kD{f:Nat}{l:List aG}{di:List VV}{Bi:aK}{P:VV→aK→Prop}{Q:VV→aK→Prop}(σ:List (Nat×Nat))(N:Nat)(hN:Nat.ble 1050 N=true)(z:rj N σ=true)(O:B4 N VE=true)(U:B5 N B=true)(A:Mv σ Bi=true)
  (G:clean VE (iu σ B) σ=true) (Y:qC VE l=some (nL σ N di)) (I:IJ σ N Bi B) (h:bY T f di Bi P) (Z:∀r L,P r L→Q (r.cn σ N) (nM σ N L++iu σ B)):VI T (.call f l) VE B (σ.map (·.2)) Q:=fun H0 X0 E H β M=>by
 obtain⟨vs,h1,h2⟩:=Co M Y;exact QH h1 (aal σ N hN z O U A G I h Z M h2)
theorem wpI_callv{x:aG}{l:List aG}{f:Nat}{vs cs:List aj}{R:aj→ax→Prop}(z:x.ev E=some (.func f [] cs))(A:iB E l=some vs)(h:uo T f (vs++cs) H R):gz T (.tB x l) E H R:=by
 obtain⟨N,v,H',a,b⟩:=h;refine⟨N,v,H',fun lf n G h2=>?_,b⟩;show bt x E (.err 43) (fun v=>xo v (.err 43) fun f fs eo=>ob (iB E l) (.err 43) fun vs=>T.call lf n f (fs++(vs++eo)) H)=_;rw[cY,z,cI];show ob (iB E l) (.err 43) (fun vs=>T.call lf n f ([]++(vs++cs)) H)=_;rw[A,cI];exact a lf n G h2
theorem Ks{x:aG}{f:Nat}{eo:List VV}{l:List aG}{O di:List VV}{Bi:aK}{P:VV→aK→Prop}{Q:VV→aK→Prop}(σ:List (Nat×Nat))(N:Nat)(Y:x.vv VE=some (.fn f eo))(hN:Nat.ble 1050 N=true)(A:rj N σ=true)(Z:B4 N VE=true)(hB:B5 N B=true)(G:Mv σ Bi=true)
  (I:clean VE (iu σ B) σ=true) (hl:qC VE l=some O) (ha:O++eo=nL σ N di) (L:IJ σ N Bi B) (h:bY T f di Bi P) (hq:∀r U,P r U→Q (r.cn σ N) (nM σ N U++iu σ B)):VI T (.tB x l) VE B (σ.map (·.2)) Q:=fun H0 X0 E H β M=>by
 obtain⟨vs,h1,h2⟩:=Co M hl;obtain⟨a,h3,z⟩:=M.bI Y;simp only[aE] at z;obtain⟨cs,rfl,z⟩:=z;exact wpI_callv h3 h1 (aal σ N hN A Z hB G I L h hq M (by rw[←ha];exact h2.append z))
theorem zM{f:Nat}{l:List aG}{args:List VV}{P:VV→aK→Prop}{Q:VV→aK→Prop}(N:Nat)(hN:Nat.ble 1050 N=true)(A:B4 N VE=true)(G:B5 N B=true)(I:qC VE l=some (nL [] N args))(h:Ag T f args P)(L:∀r z,P r z→Q (r.cn [] N) (nM [] N z++iu [] B)):VI T (.call f l) VE B [] Q:=
 kD (Bi:=[]) [] N hN rfl A G rfl rfl I trivial h L
end
end Go.Ev
