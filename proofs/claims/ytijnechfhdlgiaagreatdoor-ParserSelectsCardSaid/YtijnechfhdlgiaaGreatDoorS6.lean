/- Part 6 of rules for walks through the code of a program, and of such walks; what each part proves is said by its theorems. -/
import Derived.Test.YtijnechfhdlgiaaGreatDoorS5
import Derived.LoopN
set_option linter.unusedVariables false
set_option linter.unusedSimpArgs false
namespace Go.Ev
def PS(H:az)(r:aE):Prop:=∀v H',r= .ok v H'→H'=H
theorem PS.err{H:az}{n:Nat}:PS H (.err n):=fun _ _ h=>by cases h
theorem PS.ok{H:az}{v:an}:PS H (.ok v H):=fun _ _ h=>by cases h;rfl
theorem PS.aG{H:az}{b:Bool}{k e:aE}(h:PS H k)(h':PS H e):PS H (aG b k e):=by cases b;exact h';exact h
theorem PS.ob{H:az}{α:Type}{o:Option α}{e:aE}{k:α→aE}(h:∀x,PS H (k x))(h':PS H e):PS H (ob o e k):=by cases o;exact h';exact h _
theorem PS.bB{H:az}{x:aF}{E:Env}{e:aE}{k:an→aE}(h:∀x,PS H (k x))(h':PS H e):PS H (bB x E e k):=by
 cases x with
 |t i=>exact PS.ob (o:=E.get i) h h'
 |c a=>exact h a
theorem PS.sw{H:az}{a:an}{e:aE}{k:Bool→aE}(h:∀x,PS H (k x))(h':PS H e):PS H (sw a e k):=by cases a<;>first|exact h'|exact h _
theorem PS.gO{H:az}{a:an}{e:aE}{k:IntKind→Int→aE}(h:∀x y,PS H (k x y))(h':PS H e):PS H (gO a e k):=by cases a<;>first|exact h'|exact h _ _
theorem PS.jJ{H:az}{a:an}{e:aE}{k:Nat→Nat→aE}(h:∀x y,PS H (k x y))(h':PS H e):PS H (jJ a e k):=by cases a<;>first|exact h'|exact h _ _
theorem PS.iE{H:az}{a:an}{e:aE}{k:Nat→Nat→Nat→aE}(h:∀x y z,PS H (k x y z))(h':PS H e):PS H (iE a e k):=by cases a<;>first|exact h'|exact h _ _ _
theorem PS.gL{H:az}{a:an}{e e2:aE}{k:Nat→Nat→Nat→Nat→Nat→aE}(h:∀x y z u w,PS H (k x y z u w))(h2:PS H e2)(h':PS H e):PS H (gL a e e2 k):=by cases a<;>first|exact h'|exact h2|exact h _ _ _ _ _
theorem PS.o9{H:az}{a:an}{e:aE}{k:List an→aE}(h:∀x,PS H (k x))(h':PS H e):PS H (o9 a e k):=by cases a<;>first|exact h'|exact h _
theorem PS.si{H:az}{a:an}{e:aE}{k:List an→aE}(h:∀x,PS H (k x))(h':PS H e):PS H (si a e k):=by cases a<;>first|exact h'|exact h _
theorem PS.ue{H:az}{a:an}{e:aE}{k:Nat→List an→List an→aE}(h:∀x y z,PS H (k x y z))(h':PS H e):PS H (ue a e k):=by cases a<;>first|exact h'|exact h _ _ _
theorem PS.jj{H:az}{i:Int}{e:aE}{k:Nat→aE}(h:∀x,PS H (k x))(h':PS H e):PS H (jj i e k):=by cases i;exact h _;exact h'
theorem PS.idx{H:az}{a:an}{n:Nat}{e:aE}{k:Nat→aE}(h:∀x,PS H (k x))(h':PS H e):PS H (idx a n e k):=PS.gO (fun _ _=>PS.jj (fun _=>PS.aG (h _) h') h') h'
theorem PS.gi{H:az}{E:Env}{x:Option aF}{d y:Nat}{e:aE}{k:Nat→aE}(h:∀x,PS H (k x))(h':PS H e):PS H (gi E x d y e k):=by
 cases x with
 |none=>exact h _
 |some z=>exact PS.ob (fun _=>PS.gO (fun _ _=>PS.jj (fun _=>PS.aG (h _) h') h') h') h'
theorem PS.iY{H:az}{o:Option dQ}{e:aE}{k:Nat→Nat→Nat→Nat→Nat→Nat→RT→aE}(h:∀a b c d e f g,PS H (k a b c d e f g))(h':PS H e):PS H (iY o e k):=by
 cases o with
 |none=>exact h'
 |some o=>cases o with
  |row=>exact h _ _ _ _ _ _ _
  |map=>exact h'
theorem PS.iL{H:az}{agg:Bool}{l:List an}{e:aE}{k:an→aE}(h:∀x,PS H (k x))(h':PS H e):PS H (iL agg l e k):=by
 refine PS.aG (h _) ?_
 cases l with
 |nil=>exact h'
 |cons x r=>cases r with
  |nil=>exact h _
  |cons=>exact h'
theorem PS.dk{H:az}{n:Nat}{k:Nat→aE}(h:∀x,PS H (k x)):PS H (dk n k):=by rw[ij];exact h _
theorem PS.ll{H:az}{n:Int}{k:Int→aE}(h:∀x,PS H (k x)):PS H (ll n k):=by rw[r9];exact h _
theorem PS.mP{H:az}{n:an}{k:an→aE}(h:∀x,PS H (k x)):PS H (mP n k):=by rw[tI];exact h _
theorem PS.ni{H:az}{n:Bool}{k:Bool→aE}(h:∀x,PS H (k x)):PS H (ni n k):=by cases n<;>exact h _
theorem SC{call:eI}{H:az}{E:Env}{o:bG}(hp:mQ o=true):PS H (o.ev call E H):=by
 cases o with
 |oc x=>exact PS.bB (fun _=>PS.ok) PS.err
 |pick c a b=>exact PS.bB (fun _=>PS.sw (fun _=>PS.aG (PS.bB (fun _=>PS.ok) PS.err) (PS.bB (fun _=>PS.ok) PS.err)) PS.err) PS.err
 |cm a b c d=>cases hp
 |box a b c d=>cases hp
 |load a b c=>cases hp
 |store a b c=>cases hp
 |bin op x y=>exact PS.bB (fun _=>PS.bB (fun _=>by rw[CI];exact PS.ob (fun _=>PS.mP fun _=>PS.ok) PS.err) PS.err) PS.err
 |eqv c n x y=>exact PS.bB (fun _=>PS.bB (fun _=>PS.ob (fun _=>PS.ni fun _=>PS.ok) PS.err) PS.err) PS.err
 |un op x=>exact PS.bB (fun _=>PS.ob (fun _=>PS.mP fun _=>PS.ok) PS.err) PS.err
 |n5 x k=>exact PS.bB (fun _=>PS.iE (fun _ _ _=>PS.dk fun _=>PS.ok) PS.err) PS.err
 |sub x a b c=>exact PS.bB (fun _=>PS.o9 (fun _=>PS.aG (PS.iL (fun _=>PS.ok) PS.err) PS.err) PS.err) PS.err
 |iW a b x i=>exact PS.bB (fun _=>PS.iE (fun _ _ _=>PS.bB (fun _=>PS.idx (fun _=>PS.dk fun _=>PS.ok) PS.err) PS.err) PS.err) PS.err
 |dV a x i=>exact PS.bB (fun _=>PS.gL (fun _ _ _ _ _=>PS.bB (fun _=>PS.idx (fun _=>PS.dk fun _=>PS.ok) PS.err) PS.err) PS.err PS.err) PS.err
 |z6 a b c x i=>exact PS.bB (fun _=>PS.o9 (fun _=>PS.bB (fun _=>PS.idx (fun _=>PS.aG (PS.iL (fun _=>PS.ok) PS.err) PS.err) PS.err) PS.err) PS.err) PS.err
 |sv x i=>exact PS.bB (fun _=>PS.jJ (fun _ _=>PS.bB (fun _=>PS.idx (fun _=>PS.dk fun _=>PS.ok) PS.err) PS.err) PS.err) PS.err
 |ji x a b=>exact PS.bB (fun _=>PS.jJ (fun _ _=>PS.gi (fun _=>PS.gi (fun _=>PS.dk fun _=>PS.dk fun _=>PS.ok) PS.err) PS.err) PS.err) PS.err
 |pg n x a b=>exact PS.bB (fun _=>PS.gL (fun _ _ _ _ _=>PS.aG (PS.gi (fun _=>PS.gi (fun _=>PS.dk fun _=>PS.dk fun _=>PS.ok) PS.err) PS.err) PS.err) (PS.gi (fun _=>PS.gi (fun _=>PS.ok) PS.err) PS.err) PS.err) PS.err
 |wg k n x a b=>cases hp
 |rL x i=>exact PS.bB (fun _=>PS.si (fun _=>PS.ob (fun _=>PS.ok) PS.err) PS.err) PS.err
 |o8 x=>exact PS.bB (fun _=>PS.aG PS.ok PS.err) PS.err
 |n6 f z l=>exact PS.ob (fun _=>PS.ob (fun _=>PS.ok) PS.err) PS.err
 |uY t x=>exact PS.bB (fun _=>PS.ok) PS.err
 |yC a b c d e f=>cases hp
 |build a b=>exact PS.ob (fun _=>PS.ok) PS.err
 |cK a b c d e f=>cases hp
 |len x=>exact PS.bB (fun _=>PS.gL (fun _ _ _ _ _=>PS.ok) PS.ok PS.err) PS.err
 |A1 n=>exact PS.ok
 |ph x=>exact PS.bB (fun _=>PS.jJ (fun _ _=>PS.ok) PS.err) PS.err
 |app a b c x y=>cases hp
 |re a x y=>cases hp
 |copy a b c=>cases hp
 |z7 a b c=>exact PS.bB (fun _=>PS.gO (fun _ _=>PS.ob (fun _=>PS.ob (fun _=>PS.ok) PS.err) PS.err) PS.err) PS.err
 |conv k x=>exact PS.bB (fun _=>PS.gO (fun _ _=>PS.ll fun _=>PS.ok) PS.err) PS.err
 |C9 x=>exact PS.bB (fun _=>PS.ok) PS.err
 |xF e x=>cases hp
 |qv x=>cases hp
 |call f l=>cases hp
 |mU x l=>cases hp
 |qC t n x=>cases hp
 |ve x=>exact PS.bB (fun _=>PS.gL (fun _ _ _ _ _=>PS.aG PS.err PS.ok) PS.ok PS.err) PS.err
 |qJ e x n=>cases hp
theorem R1{E:Env}{o:bG}(hp:mQ o=true):o.reads E=some []:=by
 cases o<;>first|rfl|cases hp
inductive lq(ops:Array Oper):Nat→Nat→Prop
 |Fq {j:Nat} {o:Oper} {e:Edge}:ops[j]?=some o→e∈o.after→Region.binds .any e=true→lq ops e.on j
 |step {i k j:Nat}:lq ops i k→lq ops k j→lq ops i j
def Di(ops:Array Oper)(S:Nat→Bool):Prop:=∀j o e,ops[j]?=some o→e∈o.after→Region.binds .any e=true→S j=true→S e.on=true
def Ih(ops:Array Oper)(S:Nat→Bool)(j:Nat):Prop:=∀o e,ops[j]?=some o→e∈o.after→Region.binds .any e=true→S e.on=true
theorem lq.closed{ops:Array Oper}{S:Nat→Bool}(G:Di ops S){i j:Nat}(h:lq ops i j):S j=true→S i=true:=by
 induction h with
 |Fq I h2 J=>exact fun h=>G _ _ _ I h2 J h
 |step _ _ z A=>exact fun h=>z (A h)
theorem lq.ready{ops:Array Oper}{S:Nat→Bool}(G:Di ops S){i j:Nat}(h:lq ops i j):Ih ops S j→S i=true:=by
 induction h with
 |Fq z h2 I=>exact fun h=>h _ _ z h2 I
 |step z _ _ A=>exact fun h=>z.closed G (A h)
def y8(ms:List Nat):List Edge→Nat
 |[]=>0
 |e::r=>if Region.binds .any e=true then 2^e.on|||ms.getD e.on 0|||y8 ms r else y8 ms r
def w7:List Oper→List Nat→List Nat
 |[],ms=>ms
 |o::r,ms=>w7 r (ms++[y8 ms o.after.toList])
def Cu:Nat→List Oper→Bool
 |_,[]=>true
 |k,o::r=>(o.after.toList.all fun e=>!Region.binds .any e||decide (e.on<k))&&Cu (k+1) r
theorem Ni{ops:Array Oper}{ms:List Nat}(z:∀j i,(ms.getD j 0).testBit i=true→lq ops i j){j:Nat}{o:Oper}(ho:ops[j]?=some o):
  ∀(l:List Edge),(∀e,e∈l→e∈o.after)→∀i,(y8 ms l).testBit i=true→lq ops i j
 |[],_,i,h=>by simp[y8] at h
 |e::r,A,i,h=>by
  have G:=Ni z ho r (fun e he=>A e (nZ _ he)) i
  unfold y8 at h
  split at h
  ·rename_i I
   rw[Nat.testBit_or,Nat.testBit_or] at h
   simp only[uX] at h
   rcases h with(h|h)|h
   ·rw[Nat.testBit_two_pow] at h
    have:e.on=i:=by simpa using h
    subst this
    exact .Fq ho (A e (kG ..)) I
   ·exact .step (z _ _ h) (.Fq ho (A e (kG ..)) I)
   exact G h
  exact G h
theorem JY{ops:Array Oper}:∀(l:List Oper)(ms:List Nat),(∀n,l[n]?=ops[ms.length+n]?)→(∀j i,(ms.getD j 0).testBit i=true→lq ops i j)→
  ∀j i,((w7 l ms).getD j 0).testBit i=true→lq ops i j
 |[],ms,_,h=>h
 |o::r,ms,A,h=>by
  refine JY r _ (fun n=>?_) fun j i z=>?_
  ·have:=A (n+1)
   simp only[IA] at this
   rw[this];simp only[bC,cP,dx];congr 1;omega
  have ho:ops[ms.length]?=some o:=by have:=A 0;simpa using this.symm
  rcases Iu j ms.length with dT|rfl|G
  ·rw[Fh,qI dT,←Fh] at z
   exact h j i z
  ·rw[Fh,wv (bV _)] at z
   simp only[Nat.sub_self,List.getElem?_cons_zero,Option.getD_some] at z
   exact Ni h ho _ (fun e he=>by simpa using he) i z
  rw[Fh,E9 (by simp;omega)] at z
  simp at z
theorem Kd:∀(l:List Oper)(k:Nat),Cu k l=true→∀n o e,l[n]?=some o→e∈o.after→Region.binds .any e=true→e.on<k+n
 |[],_,_,n,o,e,h,_,_=>by simp at h
 |x::r,k,h,n,o,e,z,he,A=>by
  unfold Cu at h
  simp only[fc,E4] at h
  cases n with
  |zero=>
   simp at z;subst z
   have:=h.1 e (by simpa using he)
   simpa[A] using this
  |succ n=>
   have:=Kd r (k+1) h.2 n o e (by simpa using z) he A
   omega
def VJ:aF→Option Key
 |.t n=>some n
 |_=>none
def sA(o:bt):List Key:=o.op.dG.filterMap VJ++(match o.g with|some (t,_)=>[t]|none=>[])
def AJ(d:Option Key)(l:List Key):Bool:=match d with|some d=>!(l.contains d)|none=>true
def HC(x y:bt):Bool:=AJ x.dst (sA y)&&AJ x.dst y.dst.toList&&AJ y.dst (sA x)
def Nj(ms:List Nat)(l:List bt):Bool:=
 (List.range l.length).all fun j=>(List.range j).all fun i=>(ms.getD j 0).testBit i||(match l[i]?,l[j]?with|some x,some y=>HC x y|_,_=>false)
theorem GW{d:Option Key}{l:List Key}(h:AJ d l=true):∀t,t∈l→d≠some t:=by
 intro t z he
 subst he
 simp[AJ] at h
 exact h z
structure HD(x y:bt):Prop where
 xy:∀t,t∈sA y→x.dst≠some t
 dd:∀t,y.dst=some t→x.dst≠some t
 yx:∀t,t∈sA x→y.dst≠some t
theorem SD{x y:bt}(h:HC x y=true):HD x y:=by
 unfold HC at h
 simp only[fc] at h
 exact⟨GW h.1.1,fun t z=>GW h.1.2 t (by simp[z]),GW h.2⟩
theorem SE{ms:List Nat}{l:List bt}(h:Nj ms l=true){i j:Nat}{x y:bt}(A:i<j)(I:l[i]?=some x)(G:l[j]?=some y):(ms.getD j 0).testBit i=true∨HD x y:=by
 have J:j<l.length:=(List.getElem?_eq_some_iff.1 G).1
 have z:=List.all_eq_true.1 (List.all_eq_true.1 h j (List.mem_range.2 J)) i (List.mem_range.2 A)
 rw[I,G] at z
 rcases uX _ _|>.mp z with z|z
 ·exact .inl z
 exact .inr (SD z)
theorem KT{E E':Env}{o:bt}(h:∀t,t∈sA o→E.get t=E'.get t):∀x∈o.op.dG,x.ev E=x.ev E':=by
 intro x z
 cases x with
 |t n=>exact h n (Pc _ (List.mem_filterMap.2 ⟨.t n,z,rfl⟩))
 |c v=>rfl
theorem Rw{E E':Env}{o:bt}(h:∀t,t∈sA o→E.get t=E'.get t){b:Bool}(z:mW E o.g b):mW E' o.g b:=by
 generalize A:o.g=g at z
 cases z with
 |none=>exact .none
 |slot k=>
  rename_i t want b
  refine .slot ?_
  rw[←h t (IE _ (by rw[A];simp))]
  exact k
 |off k=>
  rename_i t want
  refine .off ?_
  rw[←h t (IE _ (by rw[A];simp))]
  exact k
def w8(m:Nat):Nat→List Nat→List Nat
 |_,[]=>[]
 |k,j::r=>if m.testBit j then w8 m (k+1) r else k::w8 m (k+1) r
def pb(ms:List Nat):Nat→List Nat→List bt→List bt
 |_,_,[]=>[]
 |i,seen,o::r=>if mQ o.op then{o with q:=none}::pb ms (i+1) seen r else{o with q:=some (w8 (ms.getD i 0) 0 seen)}::pb ms (i+1) (i::seen) r
def seenAt(L:List bt):Nat→List Nat
 |0=>[]
 |n+1=>match L[n]?with
  |some o=>if mQ o.op then seenAt L n else n::seenAt L n
  |none=>seenAt L n
theorem JZ{m j:Nat}(z:m.testBit j=false):∀(seen:List Nat)(k n:Nat),seen[n]?=some j→k+n∈w8 m k seen
 |[],_,_,h=>by simp at h
 |x::r,k,n,h=>by
  unfold w8
  cases n with
  |zero=>simp at h;subst h;rw[aj (by simp[z])];exact kG ..
  |succ n=>
   have:=JZ z r (k+1) n (by simpa using h)
   rw[show k+(n+1)=k+1+n by omega]
   split
   ·exact this
   exact nZ _ this
theorem zz{ms:List Nat}{L:List bt}:∀(l:List bt)(i:Nat),(∀n,l[n]?=L[i+n]?)→∀n io,(pb ms i (seenAt L i) l)[n]?=some io→
  ∃z,L[i+n]?=some z∧io.dst=z.dst∧io.g=z.g∧io.op=z.op∧io.q=if mQ z.op then none else some (w8 (ms.getD (i+n) 0) 0 (seenAt L (i+n)))
 |[],i,_,n,io,h=>by simp[pb] at h
 |o::r,i,A,n,io,h=>by
  have h0:L[i]?=some o:=by have:=A 0;simpa using this.symm
  have G:∀n,r[n]?=L[i+1+n]?:=fun n=>by have:=A (n+1);rw[show i+1+n=i+(n+1) by omega];simpa using this
  have I:=zz (ms:=ms) r (i+1) G
  have J:seenAt L (i+1)=if mQ o.op then seenAt L i else i::seenAt L i:=by simp only[seenAt,h0]
  unfold pb at h
  cases n with
  |zero=>
   refine⟨o,h0,?_⟩
   split at h
   ·rename_i hp;simp at h;subst h;exact⟨rfl,rfl,rfl,by rw[aw hp]⟩
   rename_i hp;simp at h;subst h;exact⟨rfl,rfl,rfl,by rw[aj hp];rfl⟩
  |succ n=>
   rw[show i+(n+1)=i+1+n by omega]
   refine I n io ?_
   rw[J]
   split at h
   ·rename_i hp;rw[aw hp];simpa using h
   rename_i hp;rw[aj hp];simpa using h
theorem J0{ms:List Nat}:∀(l:List bt)(i:Nat)(s:List Nat),(pb ms i s l).length=l.length
 |[],_,_=>rfl
 |o::r,i,s=>by
  unfold pb
  split<;>simp[J0 r]
theorem Ks{L:List bt}{i:Nat}{o:bt}(h:L[i]?=some o)(hp:mQ o.op=false):∀n,i<n→i∈seenAt L n
 |0,h=>by omega
 |n+1,z=>by
  unfold seenAt
  rcases Ar (v7 z) with dT|rfl
  ·have:=Ks h hp n dT
   split
   ·split
    ·exact this
    exact nZ _ this
   exact this
  simp[h,hp]
theorem Ext.wide{W:Nat→Prop}{n0 n1 z A:Nat}{ρ ρ':Ho}{w w':World}(h:Ext W n0 n1 ρ ρ' w w')(h0:z≤n0)(G:n1≤A):Ext W z A ρ ρ' w w':=
 ⟨h.le,fun f g x e=>(h.jr f g x e).imp_right fun k=>⟨by omega,by omega⟩,h.ca,h.frame,h.size,by have:=h.nn;omega,h.os,h.tape,h.output⟩
theorem Ext.VK{W:Nat→Prop}{n0 n1:Nat}{ρ z A:Ho}{w K O:World}(h:Ext W n0 n1 ρ z w K)(k:Ext W n0 n1 z A K O):Ext W n0 n1 ρ A w O:=by
 refine⟨Ho.le_trans h.le k.le,?_,?_,?_,j7 h.size k.size,h.nn,k.os.trans h.os,k.tape.trans h.tape,k.output.trans h.output⟩
 ·intro f g x G
  rcases k.jr f g x G with⟨g0,h0,e⟩|e
  ·exact h.jr f g0 h0 e
  exact .inr e
 ·intro f g x G
  rcases k.ca f g x G with e|⟨a,b⟩|⟨g0,h0,e,e1,e2⟩
  ·exact h.ca f g x e
  ·exact .inr (.inl ⟨j7 h.size a,b⟩)
  rcases h.ca f g0 h0 e with I|⟨a,b⟩|⟨g1,h1,I,e3,e4⟩
  ·exact .inr (.inr ⟨g0,h0,I,e1,e2⟩)
  ·exact .inr (.inl ⟨e1▸a,e2▸b⟩)
  exact .inr (.inr ⟨g1,h1,I,e3.trans e1,e4.trans e2⟩)
 intro b U J
 rw[k.frame b (mI U h.size) ?_,h.frame b U J]
 intro f g x G Y Z
 rcases h.ca f g x G with e|⟨a,_⟩|⟨g0,h0,e,e1,e2⟩
 ·exact J f g x e Y Z
 ·intro hh;omega
 exact e1▸J f g0 h0 e (e2.trans Y) Z
def pc(l:List bt)(n:Nat):Option Key:=(l[n]?).bind (·.dst)
noncomputable def rE(l:List bt)(E:Env)(V:Nat→an)(S:Nat→Bool):Nat→Env
 |0=>E
 |n+1=>if S n=true then kq (rE l E V S n) (pc l n) (V n) else rE l E V S n
noncomputable def rC(C:Nat→Option dQ)(Hs:Nat→az)(S:Nat→Bool):Nat→Nat→Option dQ
 |0=>C
 |n+1=>if S n=true then gC (rC C Hs S n) (Hs n) (Hs (n+1)) else rC C Hs S n
theorem zN{l:List bt}{E:Env}{V:Nat→an}{S:Nat→Bool}(n:Nat):rE l E V S (n+1)=if S n=true then kq (rE l E V S n) (pc l n) (V n) else rE l E V S n:=rfl
theorem zO{C:Nat→Option dQ}{Hs:Nat→az}{S:Nat→Bool}(n:Nat):rC C Hs S (n+1)=if S n=true then gC (rC C Hs S n) (Hs n) (Hs (n+1)) else rC C Hs S n:=rfl
def ins(S:Nat→Bool)(j:Nat):Nat→Bool:=fun i=>i==j||S i
theorem xi(E:Env)(d:Option Key)(v:an)(t:Key):(kq E d v).get t=if d=some t then some v else E.get t:=by
 cases d with
 |none=>simp[kq]
 |some d=>
  show(E.set d v).get t=_
  rw[T4.eY]
  by_cases h:t=d
  ·subst h;simp
  rw[aj h,aj (by simp;exact fun e=>h e.symm)]
section
variable{l:List bt}{E:Env}{V:Nat→an}{S:Nat→Bool}{j:Nat}
theorem Dj(t:Key){T:Nat→Bool}:∀n,(∀i,i<n→S i≠T i→pc l i≠some t)→(rE l E V S n).get t=(rE l E V T n).get t
 |0,_=>rfl
 |n+1,h=>by
  have z:=Dj t n fun i hi=>h i (by omega)
  have A:=h n (by omega)
  rw[zN,zN]
  cases G:S n<;>cases I:T n
  ·simpa using z
  ·have:=A (by simp[G,I])
   simp only[p9,if_false,if_true,xi,aj this];exact z
  ·have:=A (by simp[G,I])
   simp only[p9,if_false,if_true,xi,aj this];exact z
  simp only[if_true,xi,z]
theorem CK(t:Key):∀n,j≤n→(∀k,j≤k→k<n→S k=true→pc l k≠some t)→(rE l E V S n).get t=(rE l E V S j).get t
 |0,z,_=>by have:j=0:=(by omega);subst this;rfl
 |n+1,z,h=>by
  rcases Ar z with dT|rfl
  ·have A:=CK t n (by omega) fun k G h2=>h k G (by omega)
   rw[zN]
   split
   ·rename_i I;rw[xi,aj (h n (by omega) (by omega) I)];exact A
   exact A
  rfl
theorem Nk(I:S j=false)(A:j<l.length)(J:∀k t,j<k→S k=true→pc l j=some t→pc l k≠some t)(t:Key):
  (rE l E V (ins S j) l.length).get t=(kq (rE l E V S l.length) (pc l j) (V j)).get t:=by
 rw[xi]
 have e:∀i,ins S j i≠S i→i=j:=by
  intro i hi
  unfold ins at hi
  by_cases h:i=j
  ·exact h
  simp[h] at hi
 split
 ·rename_i z
  rw[CK (j:=j+1) t l.length A fun k K h2 G=>J k t (by omega) (by unfold ins at G;simpa[show k≠j by omega] using G) z]
  rw[zN]
  rw[aw (by simp[ins]),xi,aw z]
 rename_i z
 exact Dj t _ fun i _ hi=>by rw[e i hi];exact z
end
section
variable{C:Nat→Option dQ}{Hs:Nat→az}{S:Nat→Bool}{j:Nat}
def Touch(Hs:Nat→az)(n f:Nat):Prop:=((Hs n).next≤f∧f<(Hs (n+1)).next)∨(Hs (n+1)).t.get f≠(Hs n).t.get f
theorem Ci{n f:Nat}(h:Touch Hs n f):gC C (Hs n) (Hs (n+1)) f=(Hs (n+1)).t.get f:=by
 unfold gC
 rcases h with h|h
 ·rw[aw h]
 rw[aj h];split<;>rfl
theorem B5{n f:Nat}(h:¬Touch Hs n f):gC C (Hs n) (Hs (n+1)) f=C f:=by
 unfold gC
 rw[aj (fun k=>h (.inl k)),aw (uj fun k=>h (.inr k))]
theorem Nl(f:Nat){T:Nat→Bool}:∀n,(∀i,i<n→S i≠T i→¬Touch Hs i f)→rC C Hs S n f=rC C Hs T n f
 |0,_=>rfl
 |n+1,h=>by
  have A:=Nl f n fun i hi=>h i (by omega)
  have G:=h n (by omega)
  rw[zO,zO]
  by_cases z:Touch Hs n f
  ·have e:S n=T n:=uj fun k=>G k z
   rw[e]
   cases T n
   ·simpa using A
   simp only[if_true,Ci z]
  cases S n<;>cases T n<;>simp only[p9,if_false,if_true,B5 z]<;>exact A
theorem zP(f:Nat):∀n,j≤n→(∀k,j≤k→k<n→S k=true→¬Touch Hs k f)→rC C Hs S n f=rC C Hs S j f
 |0,z,_=>by have:j=0:=(by omega);subst this;rfl
 |n+1,z,h=>by
  rcases Ar z with dT|rfl
  ·have A:=zP f n (by omega) fun k G h2=>h k G (by omega)
   rw[zO]
   split
   ·rename_i I;rw[B5 (h n (by omega) (by omega) I)];exact A
   exact A
  rfl
theorem Nm{N:Nat}(I:S j=false)(A:j<N)(J:∀k f,j<k→k<N→S k=true→Touch Hs j f→¬Touch Hs k f)(f:Nat):
  rC C Hs (ins S j) N f=gC (rC C Hs S N) (Hs j) (Hs (j+1)) f:=by
 have e:∀i,ins S j i≠S i→i=j:=by
  intro i hi
  unfold ins at hi
  by_cases h:i=j
  ·exact h
  simp[h] at hi
 by_cases z:Touch Hs j f
 ·rw[Ci z,zP (j:=j+1) f N A fun k K h2 G=>J k f (by omega) h2 (by unfold ins at G;simpa[show k≠j by omega] using G) z]
  rw[zO]
  rw[aw (by simp[ins]),Ci z]
 rw[B5 z]
 exact Nl f _ fun i _ hi=>by rw[e i hi];exact z
theorem GX(f:Nat)(h0:∀o,(Hs 0).t.get f=some o→C f=some o):∀n,(∀i,i<n→S i=false→¬Touch Hs i f)→∀o,(Hs n).t.get f=some o→rC C Hs S n f=some o
 |0,_,o,h=>h0 o h
 |n+1,A,o,h=>by
  have G:=GX f h0 n (fun i hi=>A i (by omega)) o
  rw[zO]
  by_cases z:Touch Hs n f
  ·have:S n=true:=by
    cases I:S n
    ·exact absurd z (A n (by omega) I)
    rfl
   rw[aw this,Ci z];exact h
  have e:(Hs (n+1)).t.get f=(Hs n).t.get f:=uj fun k=>z (.inr k)
  rw[e] at h
  split
  ·rw[B5 z];exact G h
  exact G h
end
structure Fact(call:eI)(o:bt)(E:Env)(H:az)(b:Bool)(v:an)(fp:FP)(H1:az):Prop where
 mK:gr H H1
 WO:∀f,((H.next≤f∧f<H1.next)∨H1.t.get f≠H.t.get f)→o.q.isSome=true∧(f∈fp.ws∨(fp.lo≤f∧f<fp.hi∧H.next≤f∧f<H1.next))
 WQ:mW E o.g b
 off:b=false→v= .undef∧H1=H
 on:b=true→∃Hm Hn,o.op.ev call E Hm= .ok v Hn∧Hm.bc≤Hm.next∧Hm.next=H.next∧Hm.t=H.t∧Hn.next=H1.next∧Hn.t=H1.t∧(∀f,Wr Hn f→Wr H1 f)∧(o.q.isSome=true→fp.rd=o.op.reads E)
section
variable{P:Program}{call:eI}
theorem p5.fact{o:bt}{E:Env}{H:az}{bR:List FP}{b:Bool}{v:an}{fp:FP}{H1:az}(U:kA P call)(hp:o.q=none→mQ o.op=true)(O:H.bc≤H.next)(G:WF H)(h:p5 call o E H bR b v fp H1):
  Fact call o E H b v fp H1:=by
 cases h with
 |skip I J=>exact⟨gr.refl _,fun f z=>absurd z (by rintro(z|z);omega;exact z rfl),I,fun _=>⟨rfl,rfl⟩,fun h=>by cases h⟩
 |plain I J he=>
  have e:=SC (hp J) v H1 he
  subst e
  exact⟨gr.refl _,fun f z=>absurd z (by rintro(z|z);omega;exact z rfl),I,fun h=>(by cases h),fun _=>⟨H1,H1,he,O,rfl,rfl,rfl,rfl,fun _ h=>h,fun h=>by rw[J] at h;cases h⟩⟩
 |marked I J he Y=>
  rename_i q A
  have t:=TM.ins (H:=H.mark) (bV _) (fun f a=>U.mK f a _ (bV _)) E o.op v A he
  refine⟨t.xL O,fun f z=>⟨by rw[J];rfl,?_⟩,I,fun h=>(by cases h),fun _=>⟨H.mark,A,he,bV _,rfl,rfl,rfl,rfl,fun f z=>?_,fun _=>rfl⟩⟩
  ·have z:((H.next≤f∧f<A.next)∨A.t.get f≠H.t.get f):=z
   show f∈A.ws∨(H.next≤f∧f<A.next∧H.next≤f∧f<A.next)
   by_cases K:f<H.next
   ·rcases z with z|z
    ·omega
    exact .inl (uj fun k=>z (t.same f K k))
   by_cases h2:f<A.next
   ·exact .inr ⟨by omega,h2,by omega,h2⟩
   rcases z with z|z
   ·omega
   have e1:H.t.get f=none:=G f (by omega)
   have e2:A.t.get f=none:=t.wf G f (by omega)
   exact absurd (e2.trans e1.symm) z
  rcases z with z|z
  ·by_cases K:f<H.bc
   ·exact .inl ((zk _ _ _ _).2 (.inr ⟨z,K⟩))
   exact .inr (by show H.bc≤f;omega)
  have:H.next≤f:=by rw[t.bc] at z;exact z
  exact .inr (by show H.bc≤f;omega)
end
structure uL(P:Program)(nt:Nat)(ops:Array Oper)(l:List bt):Prop where
 len:l.length=ops.size
 XG:∀(i:Nat)(o:Oper)(io:bt),ops[i]?=some o→l[i]?=some io→yJ P nt ops o io
 back:∀(j:Nat)(o:Oper)(e:Edge),ops[j]?=some o→e∈o.after→Region.binds .any e=true→e.on<j
 tmps:∀(i j:Nat)(x y:bt),i<j→l[i]?=some x→l[j]?=some y→lq ops i j∨HD x y
 pure:∀(i:Nat)(x:bt),l[i]?=some x→x.q=none→mQ x.op=true
section
variable{P:Program}{call:eI}{nt:Nat}{ops:Array Oper}{l:List bt}{E E':Env}{H H':az}{Es:Nat→Env}{Hs:Nat→az}{Rs:Nat→List FP}{Wn:Nat→Bool}{Vs:Nat→an}{Fp:Nat→FP}
theorem Trace.wf(A:kA P call)(G:uL P nt ops l)(T:Trace call l E H [] E' H' Es Hs Rs Wn Vs Fp)(I:H.bc≤H.next)(z:WF H):∀i,i≤l.length→(Hs i).bc≤(Hs i).next∧WF (Hs i)
 |0,_=>by rw[T.h0];exact⟨I,z⟩
 |i+1,hi=>by
  obtain⟨J,h2⟩:=Trace.wf A G T I z i (by omega)
  obtain⟨o,ho⟩:∃o,l[i]?=some o:=⟨_,eP (by omega)⟩
  have t:=((T.step i o ho).1.fact A (G.pure i o ho) J h2).mK
  exact⟨by rw[t.bc];exact j7 J t.next,t.wf h2⟩
theorem Trace.fact(A:kA P call)(G:uL P nt ops l)(T:Trace call l E H [] E' H' Es Hs Rs Wn Vs Fp)(I:H.bc≤H.next)(z:WF H){i:Nat}{o:bt}(ho:l[i]?=some o):
  Fact call o (Es i) (Hs i) (Wn i) (Vs i) (Fp i) (Hs (i+1)):=by
 have hi:i<l.length:=(List.getElem?_eq_some_iff.1 ho).1
 obtain⟨J,h2⟩:=T.wf A G I z i (by omega)
 exact(T.step i o ho).1.fact A (G.pure i o ho) J h2
theorem Trace.mK(A:kA P call)(G:uL P nt ops l)(T:Trace call l E H [] E' H' Es Hs Rs Wn Vs Fp)(I:H.bc≤H.next)(z:WF H){i:Nat}:∀k,i≤k→k≤l.length→gr (Hs i) (Hs k)
 |0,h,_=>by have:i=0:=(by omega);subst this;exact gr.refl _
 |k+1,h,hk=>by
  rcases Ar h with dT|rfl
  ·obtain⟨o,ho⟩:∃o,l[k]?=some o:=⟨_,eP (by omega)⟩
   exact(Trace.mK A G T I z k (by omega) (by omega)).trans (T.fact A G I z ho).mK
  exact gr.refl _
theorem Trace.env(T:Trace call l E H [] E' H' Es Hs Rs Wn Vs Fp):∀n,n≤l.length→Es n=rE l E Vs (fun _=>true) n
 |0,_=>T.e0
 |n+1,z=>by
  obtain⟨o,ho⟩:∃o,l[n]?=some o:=⟨_,eP (by omega)⟩
  rw[(T.step n o ho).2.1,zN,Trace.env T n (by omega),aw rfl]
  simp[pc,ho]
structure Inv(P:Program)(nt:Nat)(l:List bt)(E:Env)(H H':az)(Hs:Nat→az)(Vs:Nat→an)(ρ0:Ho)(C0:Nat→Option dQ)(w0:World)(S:Nat→Bool)(a:Act)(w:World)(ρ:Ho):Prop where
 ar:AR P ρ nt (rE l E Vs S l.length) a
 r:R ρ (rC C0 Hs S l.length) w
 ext:Ext (Wr H') H.next H'.next ρ0 ρ w0 w
 jr:∀f g h,ρ f g=some h→(∃g0 h0,ρ0 f g0=some h0)∨∃k,k<l.length∧S k=true∧(Hs k).next≤f∧f<(Hs (k+1)).next
theorem AR.congr{ρ:Ho}{a:Act}{E1 z:Env}(h:AR P ρ nt E1 a)(he:∀t,z.get t=E1.get t):AR P ρ nt z a:=
 ⟨h.size,h.defers,fun t v k=>h.tmp t v (by rw[←he];exact k),h.rM⟩
theorem Th(hc:kA P call)(hr:uL P nt ops l)(T:Trace call l E H [] E' H' Es Hs Rs Wn Vs Fp)
  (O:∀(i j:Nat)(x y:bt),i<j→l[i]?=some x→l[j]?=some y→x.q.isSome=true→y.q.isSome=true→lq ops i j∨xr (Fp j) (Fp i))
  (hm:H.bc≤H.next) (nK:WF H) {ρ0:Ho} {C0:Nat→Option dQ} {w0:World} (Jl:kj ρ0 C0 H) (FZ:iv ρ0 H.next H'.next)
  {S:Nat→Bool} (hS:Di ops S) {j:Nat} (hj:j<l.length) (U:S j=false) (hjr:Ih ops S j) {a:Act} {w:World} {ρ:Ho} (hI:Inv P nt l E H H' Hs Vs ρ0 C0 w0 S a w ρ)
  {Q:Exit→Act→World→Prop} {K:Act→World→Prop} (hK:∀a' w' ρ',Inv P nt l E H H' Hs Vs ρ0 C0 w0 (ins S j) a' w' ρ'→K a' w'):wpOp P ops Q j K a w:=by
 obtain⟨io,A⟩:∃io,l[j]?=some io:=⟨_,eP hj⟩
 obtain⟨o,ho⟩:∃o,ops[j]?=some o:=⟨_,wy (by rw[←hr.len];exact hj)⟩
 have y9:=hr.XG j o io ho A
 have fj:=T.fact hc hr hm nK A
 have I:∀i k,i≤k→k≤l.length→(Hs i).next≤(Hs k).next:=fun i k h1 h2=>(T.mK hc hr hm nK k h1 h2).next
 have h0:Hs 0=H:=T.h0
 have hN:Hs l.length=H':=T.hN
 have Fs:∀k,S k=true→¬lq ops j k:=fun k hk hb=>by rw[hb.closed hS hk] at U;cases U
 have Pv:∀i,S i=false→¬lq ops i j:=fun i hi hb=>by rw[hb.ready hS hjr] at hi;cases hi
 have get:∀{k},k<l.length→∃y,l[k]?=some y:=fun hk=>⟨_,eP hk⟩
 have G:∀{k y},l[k]?=some y→pc l k=y.dst:=fun Z=>by simp[pc,Z]
 have Jm:∀t,t∈sA io→(rE l E Vs S l.length).get t=(Es j).get t:=by
  intro t ht
  rw[T.env j (by omega),CK (j:=j) t l.length (by omega) fun k h1 h2 J=>?_]
  ·refine Dj t j fun i hi J=>?_
   obtain⟨x,hx⟩:=get (k:=i) (by omega)
   have J:S i=false:=by simpa using J
   rw[G hx]
   exact((hr.tmps i j x io hi hx A).resolve_left (Pv i J)).xy t ht
  obtain⟨y,Z⟩:=get h2
  have lK:j≠k:=fun e=>by rw[←e,U] at J;cases J
  rw[G Z]
  exact((hr.tmps j k io y (by omega) A Z).resolve_left (Fs k J)).yx t ht
 have Pw:∀k t,j<k→S k=true→pc l j=some t→pc l k≠some t:=by
  intro k t hk J hd tq
  by_cases BB:k<l.length
  ·obtain⟨y,Z⟩:=get BB
   rw[G Z] at tq;rw[G A] at hd
   exact((hr.tmps j k io y hk A Z).resolve_left (Fs k J)).dd t tq hd
  simp[pc,E9 (Nat.le_of_not_lt BB)] at tq
 have z:∀{k f y},l[k]?=some y→Touch Hs k f→y.q.isSome=true∧(f∈(Fp k).ws∨((Fp k).lo≤f∧f<(Fp k).hi∧(Hs k).next≤f∧f<(Hs (k+1)).next)):=
  fun Z ht=>(T.fact hc hr hm nK Z).WO _ ht
 have Ft:∀i,i≤l.length→WF (Hs i):=fun i hi=>(T.wf hc hr hm nK i hi).2
 have Nn:∀k f,j<k→k<l.length→S k=true→Touch Hs j f→¬Touch Hs k f:=by
  intro k f hk BB J tj tk
  obtain⟨y,Z⟩:=get BB
  obtain⟨qj,ej⟩:=z A tj
  obtain⟨qk,ek⟩:=z Z tk
  have fa:=(O j k io y hk A Z qj qk).resolve_left (Fs k J)
  have n1:=I (j+1) k hk (by omega)
  have n2:=I j (j+1) (by omega) (by omega)
  rcases ek with ek|⟨e1,e2,e3,e4⟩
  ·rcases ej with ej|⟨e1,e2,e3,e4⟩
   ·exact fa.ww f ek ej
   exact fa.out f ek ⟨e1,e2⟩
  rcases tj with tj|tj
  ·omega
  refine tj ((Ft (j+1) (by omega) f (by omega)).trans (Ft j (by omega) f (by omega)).symm)
 have Ba:∀{i f},i<l.length→S i=false→(Hs i).next≤f→f<(Hs (i+1)).next→∀g,ρ f g=none:=by
  intro i f hi J h1 h2 g
  cases hx:ρ f g with
  |none=>rfl
  |some x=>
   rcases hI.jr f g x hx with⟨g0,x0,e⟩|⟨k,hk,Jn,e1,e2⟩
   ·have n1:=I 0 i (by omega) (by omega)
    have n2:=I (i+1) l.length (by omega) (by omega)
    rw[h0] at n1;rw[hN] at n2
    rw[FZ f g0 (by omega) (by omega)] at e;cases e
   rcases Iu i k with dT|rfl|FO
   ·have:=I (i+1) k (by omega) (by omega);omega
   ·rw[J] at Jn;cases Jn
   have:=I (k+1) i (by omega) (by omega);omega
 have WR:iv ρ (Hs j).next (Hs (j+1)).next:=fun f g h1 h2=>Ba hj U h1 h2 g
 have VL:Wn j=true→∀f ob,(∀ls,io.op.reads (Es j)=some ls→f∈ls)→(∃g h,ρ f g=some h)→(Hs j).t.get f=some ob→rC C0 Hs S l.length f=some ob:=by
  intro hon f ob ql⟨g,x,hx⟩za
  obtain⟨_,_,_,_,_,_,_,_,_,XH⟩:=fj.on hon
  have Y:io.q.isSome=true:=by
   cases hq:io.q with
   |some q=>rfl
   |none=>have:=ql [] (R1 (hr.pure j io A hq));cases this
  have XI:(Fp j).rd=io.op.reads (Es j):=XH Y
  have Px:∀m,(Fp j).rd=some m→f∈m:=fun m hm=>ql m (XI▸hm)
  have fj2:f<(Hs j).next:=uj fun k=>by rw[Ft j (by omega) f (by omega)] at za;cases za
  rw[zP (j:=j) f l.length (by omega) fun k h1 h2 J tk=>?_]
  ·refine GX f (fun o' tn=>?_) j (fun i hi J ti=>?_) ob za
   ·rw[h0] at tn
    refine Jl f o' ?_ tn
    rcases hI.jr f g x hx with e|⟨k,hk,Jn,e1,e2⟩
    ·exact e
    have n1:=I 0 k (by omega) (by omega)
    rw[h0] at n1
    rw[nK f (by omega)] at tn;cases tn
   obtain⟨y,Z⟩:=get (k:=i) (by omega)
   obtain⟨qi,ei⟩:=z Z ti
   rcases ei with ei|⟨_,_,e3,e4⟩
   ·obtain⟨m,tp,FV⟩:=((O i j y io hi Z A qi Y).resolve_left (Pv i J)).ba f ei
    exact FV (Px m tp)
   rw[Ba (by omega) J e3 e4 g] at hx;cases hx
  obtain⟨y,Z⟩:=get h2
  have lK:j≠k:=fun e=>by rw[←e,U] at J;cases J
  obtain⟨qk,ek⟩:=z Z tk
  rcases ek with ek|⟨_,_,e3,e4⟩
  ·obtain⟨m,tp,FV⟩:=((O j k io y (by omega) A Z Y qk).resolve_left (Fs k J)).ab f ek
   exact FV (Px m tp)
  have:=I j k (by omega) (by omega);omega
 have Mo:∀k,S k=true→ins S j k=true:=fun k hk=>by simp[ins,hk]
 unfold wpOp
 simp only[ho]
 have hw:=Rw (E':=rE l E Vs S l.length) (fun t ht=>(Jm t ht).symm) fj.WQ
 rw[GI y9 hw hI.ar.tmp]
 cases hb:Wn j with
 |false=>
  rw[aj (by simp)]
  obtain⟨e1,e2⟩:=fj.off hb
  refine hK _ _ ρ ⟨?_,?_,hI.ext,fun f g x hx=>(hI.jr f g x hx).imp_right fun⟨k,h1,h2,h3⟩=>⟨k,h1,Mo k h2,h3⟩⟩
  ·refine AR.congr (E1:=kq (rE l E Vs S l.length) io.dst .undef) (by rw[y9.dst];exact hI.ar.Fo y9.lt (by simp only[VR])) fun t=>?_
   rw[Nk U hj Pw t,G A,e1]
  rw[show rC C0 Hs (ins S j) l.length=rC C0 Hs S l.length from funext fun f=>by rw[Nm U hj Nn f,e2,pJ]]
  exact hI.r
 |true=>
  rw[aw rfl]
  left
  obtain⟨Hm,Hn,he,k1,k2,k3,k4,k5,k6,k7⟩:=fj.on hb
  rcases y9.op with vk|IP
  case inr=>rw[IP] at he;exact(Mn he).elim
  have XJ:io.op.ev call (rE l E Vs S l.length) Hm= .ok (Vs j) Hn:=by
   rw[bG.Tf io.op (KT (E':=Es j) Jm)];exact he
  have Bz:=KP (o:=o) vk hI.ar hI.r (by rw[k2,k4];exact WR) (fun f ob ql hx za=>by
   rw[k3] at za
   refine VL hb f ob (fun ls F0=>ql ls ?_) hx za
   rw[bG.Ro io.op (KT (E':=Es j) Jm)];exact F0) k1 (fun x hx=>by rw[k3];exact Ft j (by omega) x (by rw[←k2];exact hx)) hc XJ
  refine Km Bz fun cv w' hp=>?_
  obtain⟨ρ',hv,IQ,By⟩:=hp
  have XK:gC (rC C0 Hs S l.length) Hm Hn=gC (rC C0 Hs S l.length) (Hs j) (Hs (j+1)):=by
   funext f;unfold gC;rw[k2,k3,k4,k5]
  refine hK _ _ ρ' ⟨?_,?_,hI.ext.VK (Ext.wide (IQ.mono fun f hf=>?_) ?_ ?_),fun f g x hx=>?_⟩
  ·refine AR.congr (E1:=kq (rE l E Vs S l.length) io.dst (Vs j)) (by rw[y9.dst];exact(hI.ar.mono IQ.le).Fo y9.lt hv) fun t=>?_
   rw[Nk U hj Pw t,G A]
  ·rw[show rC C0 Hs (ins S j) l.length=gC (rC C0 Hs S l.length) Hm Hn from funext fun f=>by rw[Nm U hj Nn f,XK]]
   exact By
  ·have t:=T.mK hc hr hm nK (i:=j+1) l.length (by omega) (by omega)
   rw[hN] at t
   exact Hc t f (k6 f hf)
  ·rw[k2,←h0];exact I 0 j (by omega) (by omega)
  ·rw[k4,←hN];exact I (j+1) l.length (by omega) (by omega)
  rcases IQ.jr f g x hx with⟨g0,x0,e⟩|e
  ·exact(hI.jr f g0 x0 e).imp_right fun⟨k,h1,h2,h3⟩=>⟨k,h1,Mo k h2,h3⟩
  rw[k2,k4] at e
  exact .inr ⟨j,hj,by simp[ins],e⟩
end
theorem Ke{p q:Nat→Bool}:∀(l:List Nat){j:Nat},j∈l→p j=true→q j=false→(∀i,q i=true→p i=true)→(l.filter q).length+1≤(l.filter p).length
 |[],_,A,_,_,_=>by cases A
 |x::r,j,A,hp,J,h=>by
  have le:(r.filter q).length≤(r.filter p).length:=by
   clear A
   induction r with
   |nil=>simp
   |cons y s I=>
    cases z:q y
    ·rw[As (by simp[z])]
     cases G:p y
     ·rw[As (by simp[G])];exact I
     rw[v8 G];simp;omega
    rw[v8 z,v8 (h y z)];simp;exact I
  rcases List.mem_cons.1 A with rfl|A
  ·rw[As (by simp[J]),v8 hp];simp;exact le
  have I:=Ke r A hp J h
  cases z:q x
  ·rw[As (by simp[z])]
   cases G:p x
   ·rw[As (by simp[G])];exact I
   rw[v8 G];simp;omega
  rw[v8 z,v8 (h x z)];simp;omega
def kz(hU:Array Bool):Nat→Bool:=fun i=>hU.getD i false
def F1(hU:Array Bool)(n:Nat):Nat:=((List.range n).filter fun i=>!kz hU i).length
section
variable{P:Program}{call:eI}{nt:Nat}{ops:Array Oper}{l:List bt}{E E':Env}{H H':az}{Es:Nat→Env}{Hs:Nat→az}{Rs:Nat→List FP}{Wn:Nat→Bool}{Vs:Nat→an}{Fp:Nat→FP}
theorem Rx{hU:Array Bool}{j:Nat}(z:j<hU.size):kz (hU.setIfInBounds j true)=ins (kz hU) j:=by
 funext i
 unfold kz ins
 by_cases h:i=j
 ·subst h;simp[z]
 rw[getD_set_ne false (Ne.symm h)];simp[h]
theorem R2(A:uL P nt ops l){hU:Array Bool}(I:hU.size=l.length)(h:Region.ready .any ops hU=[]):∀i,i<l.length→kz hU i=true:=by
 intro i
 induction i using Nat.strongRecOn with
 |_ i J=>
  intro hi
  cases z:kz hU i with
  |true=>rfl
  |false=>
   obtain⟨o,ho⟩:∃o,ops[i]?=some o:=⟨_,wy (by rw[←A.len];exact hi)⟩
   have:i∈Region.ready .any ops hU:=by
    rw[mem_ready]
    refine⟨?_,o,ho,fun e he G=>J e.on (A.back i o e ho he G) (Nat.lt_trans (A.back i o e ho he G) hi)⟩
    unfold kz at z
    simp only[uW] at z⊢
    rw[wy (by rw[I];exact hi)] at z⊢
    simpa using z
   rw[h] at this;cases this
theorem VM(hc:kA P call)(Z:uL P nt ops l)(T:Trace call l E H [] E' H' Es Hs Rs Wn Vs Fp)
  (G:∀(i j:Nat)(x y:bt),i<j→l[i]?=some x→l[j]?=some y→x.q.isSome=true→y.q.isSome=true→lq ops i j∨xr (Fp j) (Fp i))
  (hm:H.bc≤H.next) (nK:WF H) {ρ0:Ho} {C0:Nat→Option dQ} {w0:World} (Jl:kj ρ0 C0 H) (FZ:iv ρ0 H.next H'.next) {Q:Exit→Act→World→Prop}
  (I:∀S a w ρ,(∀i,i<l.length→S i=true)→Inv P nt l E H H' Hs Vs ρ0 C0 w0 S a w ρ→Q .normal a w):
  ∀(fuel:Nat)(hU:Array Bool)(a:Act)(w:World)(ρ:Ho),hU.size=l.length→Di ops (kz hU)→Inv P nt l E H H' Hs Vs ρ0 C0 w0 (kz hU) a w ρ→F1 hU l.length≤fuel→
   wpAny P .any ops Q fuel hU a w:=by
 intro fuel
 induction fuel with
 |zero=>
  intro hU a w ρ K hC hI hu
  have all:∀i,i<l.length→kz hU i=true:=by
   intro i hi
   cases hl:kz hU i with
   |true=>rfl
   |false=>
    have:i∈(List.range l.length).filter fun i=>!kz hU i:=List.mem_filter.2 ⟨List.mem_range.2 hi,by simp[hl]⟩
    rw[tc (Nat.le_zero.1 hu)] at this;cases this
  refine⟨?_,I _ a w ρ all hI⟩
  cases J:Region.ready .any ops hU with
  |nil=>rfl
  |cons j r=>
   have hj:j∈Region.ready .any ops hU:=by rw[J];exact kG ..
   obtain⟨h0,o,ho,_⟩:=mem_ready.1 hj
   have z:j<l.length:=by rw[Z.len];exact(Array.getElem?_eq_some_iff.1 ho).1
   have:=all j z
   unfold kz at this
   simp only[uW] at h0 this
   rw[wy (by rw[K];exact z)] at h0 this
   simp at h0 this;rw[h0] at this;cases this
 |succ fuel ih=>
  intro hU a w ρ K hC hI hu
  refine⟨fun h=>I _ a w ρ (R2 Z K h) hI,fun j hj=>?_⟩
  obtain⟨h0,o,ho,J⟩:=mem_ready.1 hj
  have z:j<l.length:=by rw[Z.len];exact(Array.getElem?_eq_some_iff.1 ho).1
  have O:kz hU j=false:=by
   unfold kz
   simp only[uW] at h0⊢
   rw[wy (by rw[K];exact z)] at h0⊢
   simpa using h0
  have U:Ih ops (kz hU) j:=fun o' e A he hb=>by
   rw[ho] at A;cases A
   exact J e he hb
  have wC:=Rx (hU:=hU) (j:=j) (by rw[K];exact z)
  refine Th hc Z T G hm nK Jl FZ hC z O U hI fun a' w' ρ' hI'=>?_
  refine ih _ a' w' ρ' (by simp[K]) ?_ (by rw[wC];exact hI') ?_
  ·rw[wC]
   intro k o' e A he hb hk
   unfold ins at hk⊢
   by_cases Y:k=j
   ·subst Y;simp[U o' e A he hb]
   simp[Y] at hk;simp[hC k o' e A he hb hk]
  have:=Ke (p:=fun i=>!kz hU i) (q:=fun i=>!kz (hU.setIfInBounds j true) i) (List.range l.length) (List.mem_range.2 z) (by simp[O]) (by rw[wC];simp[ins]) (by
   intro i hi;rw[wC] at hi;simp[ins] at hi;simp[hi])
  have h2:F1 (hU.setIfInBounds j true) l.length+1≤F1 hU l.length:=this
  omega
theorem Inv.fin(hc:kA P call)(hr:uL P nt ops l)(T:Trace call l E H [] E' H' Es Hs Rs Wn Vs Fp)(hm:H.bc≤H.next)(J:WF H){ρ0 ρ:Ho}{C0:Nat→Option dQ}{w0 w:World}(U:kj ρ0 C0 H)(FZ:iv ρ0 H.next H'.next)
  {S:Nat→Bool} {a:Act} (G:∀i,i<l.length→S i=true) (hI:Inv P nt l E H H' Hs Vs ρ0 C0 w0 S a w ρ):AR P ρ nt E' a∧R ρ (gC C0 H H') w:=by
 have h0:Hs 0=H:=T.h0
 have hN:Hs l.length=H':=T.hN
 have z:∀i k,i≤k→k≤l.length→(Hs i).next≤(Hs k).next:=fun i k h1 h2=>(T.mK hc hr hm J k h1 h2).next
 refine⟨AR.congr hI.ar fun t=>?_,hI.r.weaken fun f o K hd=>?_⟩
 ·rw[←T.eN,T.env l.length (bV _)]
  exact Dj t _ fun i hi Z=>absurd (G i hi).symm Z
 obtain⟨g,x,hx⟩:=hd
 have I:=hI.jr f g x hx
 have known:∀O,H'.t.get f=some O→rC C0 Hs S l.length f=some O:=by
  rw[←hN]
  refine GX f (fun O A=>?_) _ (fun i hi Z=>by rw[G i hi] at Z;cases Z)
  rw[h0] at A
  rcases I with e|⟨k,hk,_,e1,e2⟩
  ·exact U f O e A
  have n1:=z 0 k (by omega) (by omega)
  rw[h0] at n1
  rw[J f (by omega)] at A;cases A
 unfold gC at K
 split at K
 ·exact known o K
 rename_i hn
 split at K
 ·rename_i he
  have hd0:∃g0 x0,ρ0 f g0=some x0:=by
   rcases I with e|⟨k,hk,_,e1,e2⟩
   ·exact e
   have n1:=z 0 k (by omega) (by omega)
   have n2:=z (k+1) l.length (by omega) (by omega)
   rw[h0] at n1;rw[hN] at n2
   omega
  cases hg:H.t.get f with
  |some O=>
   have:=U f O hd0 hg
   rw[K] at this;cases this
   exact known o (he.trans hg)
  |none=>
   have nn:∀i,i≤l.length→(Hs i).t.get f=none:=by
    intro i hi
    cases m9:(Hs i).t.get f with
    |none=>rfl
    |some o2=>
     have:=(T.mK hc hr hm J (i:=i) l.length hi (bV _)).iU f (by rw[m9];simp)
     rw[hN,he,hg] at this;exact absurd rfl this
   rw[zP (j:=0) f l.length (da _) fun k _ hk _ Y=>?_]
   ·exact K
   rcases Y with Y|Y
   ·have n1:=z 0 k (by omega) (by omega)
    have n2:=z (k+1) l.length (by omega) (by omega)
    rw[h0] at n1;rw[hN] at n2
    omega
   rw[nn k (by omega),nn (k+1) (by omega)] at Y;exact Y rfl
 exact known o K
theorem Mp{ms:List Nat}{z:List bt}(G:l=pb ms 0 [] z)(T:Trace call l E H [] E' H' Es Hs Rs Wn Vs Fp):∀n,n≤l.length→Rs n=(seenAt z n).map Fp
 |0,_=>T.r0
 |n+1,J=>by
  obtain⟨o,ho⟩:∃o,l[n]?=some o:=⟨_,eP (by omega)⟩
  rw[(T.step n o ho).2.2,Mp G T n (by omega)]
  obtain⟨A,h0,_,_,_,I⟩:=zz (ms:=ms) (L:=z) z 0 (fun n=>by simp) n o (by rw[←ho,G];rfl)
  rw[jx] at h0 I
  unfold zy
  simp only[seenAt,h0]
  rw[I]
  cases mQ A.op<;>rfl
theorem Ti{ms:List Nat}{G:List bt}(U:l=pb ms 0 [] G)(Y:∀j i,(ms.getD j 0).testBit i=true→lq ops i j)(T:Trace call l E H [] E' H' Es Hs Rs Wn Vs Fp)
  (i j:Nat) (x y:bt) (Z:i<j) (hx:l[i]?=some x) (hy:l[j]?=some y) (qx:x.q.isSome=true) (I:y.q.isSome=true):lq ops i j∨xr (Fp j) (Fp i):=by
 have Bt:j<l.length:=(List.getElem?_eq_some_iff.1 hy).1
 obtain⟨x0,J,_,_,_,A⟩:=zz (ms:=ms) (L:=G) G 0 (fun n=>by simp) i x (by rw[←hx,U];rfl)
 obtain⟨y0,Jo,_,_,_,z⟩:=zz (ms:=ms) (L:=G) G 0 (fun n=>by simp) j y (by rw[←hy,U];rfl)
 rw[jx] at J Jo A z
 have px:mQ x0.op=false:=by
  cases h:mQ x0.op
  ·rfl
  rw[h] at A;rw[A] at qx;cases qx
 have py:mQ y0.op=false:=by
  cases h:mQ y0.op
  ·rfl
  rw[h] at z;rw[z] at I;cases I
 rw[py] at z
 cases hb:(ms.getD j 0).testBit i
 case true=>exact .inl (Y _ _ hb)
 right
 obtain⟨n,hn⟩:=Iy (Ks J px j Z)
 have hp:=JZ hb (seenAt G j) 0 n hn
 rw[jx] at hp
 have hr:=Mp U T j (by omega)
 generalize hWj:Wn j=wj at*
 generalize hVj:Vs j=vj at*
 have st:=(T.step j y hy).1
 have key:∀{b:Bool}{v:an}{fp:FP}{H1:az},p5 call y (Es j) (Hs j) (Rs j) b v fp H1→xr fp (Fp i):=by
  intro b v fp H1 st
  cases st with
  |skip hw K=>
   rw[K I]
   exact⟨fun _ h=>(by cases h),fun _ _=>⟨[],rfl,by simp⟩,fun _ h=>(by cases h),fun _ h=>(by cases h)⟩
  |plain hw K _=>rw[K] at I;cases I
  |marked hw K he ha=>
   rename_i q H2
   rw[K] at z
   simp at z
   subst z
   obtain⟨b,O,y6⟩:=Kc ha n hp
   rw[hr,im,hn] at O
   cases O
   exact y6
 exact key st
theorem Q2(Y:kA P call)(I:uL P nt ops l){ms:List Nat}{l0:List bt}(hl:l=pb ms 0 [] l0)(Z:∀j i,(ms.getD j 0).testBit i=true→lq ops i j)(J:P.follows .mixedOrders=true)
  {ρ:Ho} {C:Nat→Option dQ} {w:World} {a:Act} {id:Nat} {K:Act→World→Prop} {Q:Exit→Act→World→Prop} (h:me call l E H []= .ok E' H') (hA:AR P ρ nt E a) (O:R ρ C w) (hK:kj ρ C H) (hF:iv ρ H.next H'.next) (hm:H.bc≤H.next) (A:WF H)
  (G:qN P nt E' H H' C ρ w K) (hQ:∀a w,K a w→Q .normal a w):(Code.region id ops true).wp P Q a w:=by
 obtain⟨Es,Hs,Rs,Wn,Vs,Fp,T⟩:=LC l E H [] E' H' h
 have hnn:H.next≤H'.next:=by
  have:=(T.mK Y I hm A (i:=0) l.length (da _) (bV _)).next
  rw[T.h0,T.hN] at this;exact this
 refine wp_region_any J (VM Y I T (Ti hl Z T) hm A (ρ0:=ρ) (C0:=C) (w0:={w with drawn:=w.drawn+1}) hK hF (fun S a' w' ρ' U hI=>?_) ops.size _ a _ ρ (by simp[I.len]) ?_ ⟨?_,?_,?_,fun f g h e=>.inl ⟨g,h,e⟩⟩ ?_)
 ·obtain⟨k1,k2⟩:=hI.fin Y I T hm A hK hF U
  have he:=hI.ext
  exact hQ _ _ (G a' w' ρ' k1 ⟨he.le,he.jr,he.ca,he.frame,he.size,he.nn,he.os,he.tape,he.output⟩ k2 (Ch hK he.jr))
 ·intro j o e ho he hb hj
  exact absurd hj (by unfold kz;by_cases z:j<ops.size<;>simp[uW,HO,z])
 ·refine AR.congr hA fun t=>?_
  rw[CK (j:=0) t l.length (da _) fun k _ _ hk=>?_]
  ·rfl
  exact absurd hk (by unfold kz;by_cases z:k<ops.size<;>simp[uW,HO,z])
 ·have e:rC C Hs (kz (Array.replicate ops.size false)) l.length=C:=funext fun f=>by
   rw[zP (j:=0) f l.length (da _) fun k _ _ hk=>?_]
   ·rfl
   exact absurd hk (by unfold kz;by_cases z:k<ops.size<;>simp[uW,HO,z])
  rw[e]
  exact⟨fun f o ho g x hx=>(O.obj f o ho g x hx).iU (Ho.le_refl _) rfl,O.n7,O.kb,O.uniq,O.mM⟩
 ·exact(Ext.refl _ H.next ρ _).wide (bV _) hnn
 unfold F1
 refine j7 (List.length_filter_le _ _) ?_
 simp[I.len]
end
def guardOf(ops:Array Oper):Option (Nat×Bool)→Option (Option (Key×Bool))
 |none=>some none
 |some (j,want)=>match(ops[j]?).bind (·.dst) with|some d=>if d<1296 then some (some (pk d,want)) else none|none=>none
def Ii(nt:Nat):Option Nat→Bool
 |some d=>decide (d<nt)&&decide (d<1296)
 |none=>true
def EM(P:Program)(o:Op):bG:=match A' P o with|some io=>io|none=>bad
def Ij(P:Program)(nt:Nat)(ops:Array Oper)(o:Oper):Option bt:=
 match guardOf ops o.guard with
 |none=>none
 |some g=>if Ii nt o.dst=true then some {dst:=o.dst.map pk,g:=g,q:=none,op:=EM P o.op} else none
def Dk(P:Program)(nt:Nat)(ops:Array Oper):List Oper→Option (List bt)
 |[]=>some []
 |o::r=>match Ij P nt ops o,Dk P nt ops r with
  |some a,some l=>some (a::l)
  |_,_=>none
def AK:IC:=.region false [{dst:=none,g:=none,q:=none,op:=bad}]
def LD(P:Program)(nt:Nat)(ops:Array Oper)(draw:Bool):IC:=
 match Dk P nt ops ops.toList with
 |none=>AK
 |some l=>
  if draw then
   let ms:=w7 ops.toList []
   if Cu 0 ops.toList&&Nj ms l then .region true (pb ms 0 [] l) else AK
  else .region false l
def lI(P:Program)(nt:Nat):Code→IC
 |.skip=>.skip
 |.region _ ops draw=>LD P nt ops draw
 |.seq a b=>.seq (lI P nt a) (lI P nt b)
 |.cond c a b=>match dm P c with
  |some y=>.cond y (lI P nt a) (lI P nt b)
  |none=>AK
 |.block id b=>.block id (lI P nt b)
 |.loop b=>.loop (lI P nt b)
 |.exit id=>.exit id
 |.ret=>.ret
 |_=>AK
def nu(P:Program):List ResultVar→Option (List lW)
 |[]=>some []
 |.tmp t::r=>match nu P r with|some l=>if t<1296 then some (.tmp (pk t)::l) else none|none=>none
 |.cell a t::r=>match nu P r,jK P t with|some l,some n=>if a<1296 then some (.cell (pk a) n (pS P t)::l) else none|_,_=>none
def wF(P:Program)(fn:Func):Option bH:=
 match fn.body,nu P fn.results.toList with
 |some c,some rs=>if fn.params.size+fn.nfree≤fn.ntmps∧fn.params.size+fn.nfree≤1296∧(fn.name== "runtime.NumGoroutine")=false then some {nt:=fn.ntmps,ps:=(List.range (fn.params.size+fn.nfree)).map pk,res:=rs,body:=lI P fn.ntmps c} else none
 |_,_=>none
section
variable{P:Program}{nt:Nat}{ops:Array Oper}
theorem Tj{o:Oper}{io:bt}(h:Ij P nt ops o=some io):yJ P nt ops o io:=by
 unfold Ij at h
 cases z:guardOf ops o.guard with
 |none=>rw[z] at h;cases h
 |some g=>
  rw[z] at h
  dsimp only at h
  split at h
  ·rename_i A
   cases h
   refine⟨?_,fun d e=>?_,?_,?_⟩
   ·show o.dst=(o.dst.map pk).map Key.n
    cases ho:o.dst with
    |none=>rfl
    |some d=>
     rw[ho] at A
     simp only[Ii,fc,e6] at A
     simp only[sO,wz A.2]
   ·have e:o.dst.map pk=some d:=e
    cases ho:o.dst with
    |none=>rw[ho] at e;cases e
    |some x=>
     rw[ho] at A e
     simp only[Ii,fc,e6] at A
     cases e
     rw[wz A.2]
     exact A.1
   ·cases h0:o.guard with
    |none=>rw[h0] at z;cases z;exact .inl ⟨rfl,rfl⟩
    |some K=>
     obtain⟨j,want⟩:=K
     rw[h0] at z
     unfold guardOf at z
     split at z
     ·rename_i G;cases G
     rename_i O I G
     cases G
     split at z
     ·rename_i d A
      split at z
      ·rename_i J
       cases z
       exact .inr ⟨j,want,pk d,rfl,by rw[wz J];exact A,rfl⟩
      cases z
     cases z
   show A' P o.op=some (EM P o.op)∨EM P o.op=bad
   unfold EM
   split
   ·rename_i io h;exact .inl h
   exact .inr rfl
  cases h
theorem KU:∀{os:List Oper}{l:List bt},Dk P nt ops os=some l→l.length=os.length∧∀(i:Nat)(o:Oper)(io:bt),os[i]?=some o→l[i]?=some io→yJ P nt ops o io
 |[],l,h=>by cases h;exact⟨rfl,fun i o io h=>by simp at h⟩
 |o::r,l,h=>by
  unfold Dk at h
  split at h
  ·rename_i a I G h2
   cases h
   obtain⟨e,k⟩:=KU h2
   refine⟨by simp[e],fun i x io A z=>?_⟩
   cases i with
   |zero=>simp at A z;subst A;subst z;exact Tj G
   |succ i=>exact k i x io (by simpa using A) (by simpa using z)
  cases h
def Py:Ex→Exit
 |.normal=>.normal
 |.exit id=>.exit id
 |.ret=>.ret
theorem Gj{r:Out}{k:Env→az→Out}{x:Ex}{E':Env}{H':az}(h:tP r k= .ok x E' H'):
  ∃y E1 H1,r= .ok y E1 H1∧((y= .normal∧k E1 H1= .ok x E' H')∨(y≠.normal∧y=x∧E1=E'∧H1=H')):=by
 cases r with
 |err n=>cases h
 |ok y E1 H1=>
  refine⟨y,E1,H1,rfl,?_⟩
  cases y with
  |normal=>exact .inl ⟨rfl,h⟩
  |exit id=>cases h;exact .inr ⟨by simp,rfl,rfl,rfl⟩
  |ret=>cases h;exact .inr ⟨by simp,rfl,rfl,rfl⟩
theorem Dl{r:eG}{x:Ex}{E':Env}{H':az}(h:yY r= .ok x E' H'):x= .normal∧r= .ok E' H':=by
 cases r with
 |err n=>cases h
 |ok E H=>cases h;exact⟨rfl,rfl⟩
theorem p5.mK{call:eI}(A:kA P call){o:bt}{E:Env}{H:az}{bR:List FP}{b:Bool}{v:an}{fp:FP}{H1:az}(z:H.bc≤H.next)(h:p5 call o E H bR b v fp H1):gr H H1:=by
 cases h with
 |skip=>exact gr.refl _
 |plain _ _ he=>exact TM.ins z (fun f a=>A.mK f a H z) E o.op v _ he
 |marked _ _ he _=>exact(TM.ins (H:=H.mark) (bV _) (fun f a=>A.mK f a _ (bV _)) E o.op v _ he).xL z
theorem Kf{call:eI}(z:kA P call):∀(l:List bt)(E:Env)(H:az)(bR:List FP)(E':Env)(H':az),H.bc≤H.next→me call l E H bR= .ok E' H'→gr H H'
 |[],E,H,bR,E',H',_,h=>by cases h;exact gr.refl _
 |o::r,E,H,bR,E',H',A,h=>by
  obtain⟨b,v,fp,H1,G,h2⟩:=LB (show o.ns call E H bR (me call r)= .ok E' H' from h)
  have t1:=G.mK z A
  exact t1.trans (Kf z r _ _ _ _ _ (by rw[t1.bc];exact j7 A t1.next) h2)
def TF(f:Env→az→Out):Prop:=∀E H x E' H',H.bc≤H.next→f E H= .ok x E' H'→gr H H'
theorem TF.seq{f g:Env→az→Out}(A:TF f)(G:TF g):TF fun E H=>tP (f E H) g:=by
 intro E H x E' H' z h
 obtain⟨y,E1,H1,I,h2⟩:=Gj h
 have t1:=A _ _ _ _ _ z I
 rcases h2 with⟨_,h2⟩|⟨_,_,_,e⟩
 ·exact t1.trans (G _ _ _ _ _ (by rw[t1.bc];exact j7 z t1.next) h2)
 exact e▸t1
theorem TF.loop{f:Env→az→Out}(z:TF f):∀n,TF (uG f n)
 |0=>fun _ _ _ _ _ _ h=>by cases h
 |n+1=>TF.seq z (TF.loop z n)
theorem LF{c:aF}{i j:IC}{f g:Env→az→Out}{E E':Env}{H H':az}{x:Ex}(h:H8 c i j f g E H= .ok x E' H'):∃t,c.ev E=some (.bool t)∧(if t then f E H else g E H)= .ok x E' H':=by
 unfold H8 at h
 cases z:c.ev E with
 |none=>rw[z] at h;cases h
 |some v=>
  rw[z] at h
  cases v<;>try(cases h;done)
  rename_i t
  refine⟨t,rfl,?_⟩
  cases t<;>exact h
theorem KV{id:Nat}{i:IC}{f:Env→az→Out}{E E':Env}{H H':az}{x:Ex}(h:Ag id i f E H= .ok x E' H'):
  ∃y,f E H= .ok y E' H'∧((y= .normal∧x= .normal)∨(y= .exit id∧x= .normal)∨(∃z,z≠id∧y= .exit z∧x= .exit z)∨(y= .ret∧x= .ret)):=by
 unfold Ag at h
 cases A:f E H with
 |err n=>rw[A] at h;cases h
 |ok y E1 H1=>
  rw[A] at h
  cases y with
  |normal=>cases h;exact⟨_,rfl,.inl ⟨rfl,rfl⟩⟩
  |ret=>cases h;exact⟨_,rfl,.inr (.inr (.inr ⟨rfl,rfl⟩))⟩
  |exit z=>
   have h:aG (Nat.beq z id) (Out.ok .normal E1 H1) (.ok (.exit z) E1 H1)= .ok x E' H':=h
   by_cases he:z=id
   ·subst he
    rw[show Nat.beq z z=true from iR z] at h
    cases h;exact⟨_,rfl,.inr (.inl ⟨rfl,rfl⟩)⟩
   have e:Nat.beq z id=false:=by
    cases G:Nat.beq z id
    ·rfl
    exact absurd (eb G) he
   rw[e] at h
   cases h;exact⟨_,rfl,.inr (.inr (.inl ⟨z,he,rfl,rfl⟩))⟩
theorem q9{call:eI}{lf:Nat}(z:kA P call):∀c:IC,TF (c.ev call lf)
 |.skip=>fun _ _ _ _ _ _ h=>by cases h;exact gr.refl _
 |.region d ops=>fun E H x E' H' A h=>by
  cases d with
  |false=>exact Cb z ops E H E' H' A (Dl h).2
  |true=>exact Kf z ops E H [] E' H' A (Dl h).2
 |.seq a b=>TF.seq (q9 z a) (q9 z b)
 |.cond c a b=>fun E H x E' H' A h=>by
  obtain⟨t,_,h⟩:=LF (i:=a) (j:=b) (f:=a.ev call lf) (g:=b.ev call lf) h
  cases t
  ·exact q9 z b _ _ _ _ _ A h
  exact q9 z a _ _ _ _ _ A h
 |.block id b=>fun E H x E' H' A h=>by
  obtain⟨y,h,_⟩:=KV (i:=b) (f:=b.ev call lf) h
  exact q9 z b _ _ _ _ _ A h
 |.loop b=>TF.loop (q9 z b) lf
 |.exit id=>fun _ _ _ _ _ _ h=>by cases h;exact gr.refl _
 |.ret=>fun _ _ _ _ _ _ h=>by cases h;exact gr.refl _
variable{ρ:Ho}{E E':Env}{H H' H1:az}{C:Nat→Option dQ}{w:World}{a:Act}{call:eI}{lf:Nat}
theorem qN.step(Y:kj ρ C H)(t1:gr H H1)(t2:gr H1 H'){K:Act→World→Prop}(z:qN P nt E' H H' C ρ w K){A:Ho}{Z:World}(G:Ext (Wr H1) H.next H1.next ρ A w Z):qN P nt E' H1 H' (gC C H H1) A Z K:=
 fun a2 w2 I J O U _=>by
  have h2:=(G.mono (Hc t2)).trans O
  exact z a2 w2 I J h2 (U.weaken fun f o h hf=>KQ Y t1.next t2.next t2.iU h2.jr f o h hf) (Ch Y h2.jr)
theorem qN.refl{K:Act→World→Prop}(A:AR P ρ nt E a)(G:R ρ C w)(I:kj ρ C H)(z:qN P nt E H H C ρ w K):K a w:=by
 refine z a w ρ A (Ext.refl _ _ _ _) ?_ ?_
 ·rw[pJ];exact G
 rw[pJ];exact I
theorem tM{x:Ex}(h:AK.ev call lf E H= .ok x E' H'):False:=by cases h
def Ai(P:Program)(nt:Nat)(c:Code)(f:Env→az→Out):Prop:=
 ∀E H x E' H' ρ C a w Q,f E H= .ok x E' H'→AR P ρ nt E a→R ρ C w→kj ρ C H→iv ρ H.next H'.next→H.bc≤H.next→WF H→qN P nt E' H H' C ρ w (Q (Py x))→c.wp P Q a w
theorem Ai.rounds{c:Code}{f:Env→az→Out}(J:Ai P nt c f)(K:TF f):∀n E H x E' H' ρ C a w(Q:Exit→Act→World→Prop),uG f n E H= .ok x E' H'→AR P ρ nt E a→R ρ C w→kj ρ C H→iv ρ H.next H'.next→H.bc≤H.next→WF H→
  qN P nt E' H H' C ρ w (Q (Py x))→Code.rounds P c Q n a w
 |0,_,_,_,_,_,_,_,_,_,_,h,_,_,_,_,_,_,_=>by cases h
 |n+1,E,H,x,E',H',ρ,C,a,w,Q,h,hA,hR,O,U,I,z,Y=>by
  rw[rounds_succ]
  obtain⟨y,E1,H1,Z,h2⟩:=Gj (k:=uG f n) h
  have t1:=K _ _ _ _ _ I Z
  have A:H1.bc≤H1.next:=by rw[t1.bc];exact j7 I t1.next
  rcases h2 with⟨rfl,h2⟩|⟨hy,rfl,rfl,rfl⟩
  ·have t2:=TF.loop K n _ _ _ _ _ A h2
   exact J E H _ E1 H1 ρ C a w _ Z hA hR O (U.le t2.next) I z fun a1 w1 ρ1 Jp G Jq BC=>(Ai.rounds J K n E1 H1 x E' H' ρ1 _ a1 w1 Q h2 Jp Jq BC (U.sub G.jr t1.next) A (t1.wf z) (Y.step O t1 t2 G))
  refine J E H _ E1 H1 ρ C a w _ Z hA hR O U I z ?_
  cases y with
  |normal=>exact absurd rfl hy
  |exit id=>exact Y
  |ret=>exact Y
theorem vw(hc:kA P call)(G:P.follows .mixedOrders=true):∀c:Code,Ai P nt c ((lI P nt c).ev call lf)
 |.skip=>fun E H x E' H' ρ C a w Q h I U J Z Y z A=>by
  cases h
  exact wp_skip (A.refl I U J)
 |.exit id=>fun E H x E' H' ρ C a w Q h I U J Z Y z A=>by
  cases h
  exact wp_exit (A.refl I U J)
 |.ret=>fun E H x E' H' ρ C a w Q h I U J Z Y z A=>by
  cases h
  exact wp_ret (A.refl I U J)
 |.seq c d=>fun E H x E' H' ρ C a w Q h I U J Z Y z A=>by
  have zb:=vw hc G c
  have hd:=vw hc G d
  obtain⟨y,E1,H1,h1,h2⟩:=Gj (k:=(lI P nt d).ev call lf) h
  have t1:=q9 hc (lI P nt c) _ _ _ _ _ Y h1
  have tp:H1.bc≤H1.next:=by rw[t1.bc];exact j7 Y t1.next
  refine wp_seq ?_
  rcases h2 with⟨rfl,h2⟩|⟨hy,rfl,rfl,rfl⟩
  ·have t2:=q9 hc (lI P nt d) _ _ _ _ _ tp h2
   exact zb E H _ E1 H1 ρ C a w _ h1 I U J (Z.le t2.next) Y z fun a1 w1 ρ1 Jp vl Jq BC=>(hd E1 H1 x E' H' ρ1 _ a1 w1 Q h2 Jp Jq BC (Z.sub vl.jr t1.next) tp (t1.wf z) (A.step J t1 t2 vl))
  refine zb E H _ E1 H1 ρ C a w _ h1 I U J Z Y z ?_
  cases y with
  |normal=>exact absurd rfl hy
  |exit id=>exact A
  |ret=>exact A
 |.cond c d e=>fun E H x E' H' ρ C a w Q h I U J Z Y z A=>by
  unfold lI at h
  split at h
  ·rename_i y hy
   obtain⟨t,h1,h2⟩:=LF (i:=lI P nt d) (j:=lI P nt e) (f:=(lI P nt d).ev call lf) (g:=(lI P nt e).ev call lf) h
   have k:=I.b8 hy h1
   simp only[VR] at k
   refine wp_cond (t:=t) k ?_
   cases t
   ·exact vw hc G e E H x E' H' ρ C a w Q h2 I U J Z Y z A
   exact vw hc G d E H x E' H' ρ C a w Q h2 I U J Z Y z A
  exact(tM h).elim
 |.block id c=>fun E H x E' H' ρ C a w Q h I U J Z Y z A=>by
  obtain⟨y,h1,h2⟩:=KV (i:=lI P nt c) (f:=(lI P nt c).ev call lf) h
  refine wp_block (vw hc G c E H y E' H' ρ C a w _ h1 I U J Z Y z ?_)
  rcases h2 with⟨rfl,rfl⟩|⟨rfl,rfl⟩|⟨id',lK,rfl,rfl⟩|⟨rfl,rfl⟩
  ·exact A
  ·intro a1 w1 ρ1 b1 b2 b3 b4
   show Exit.inBlock id Q (.exit id) a1 w1
   simp only[Exit.inBlock,if_true]
   exact A a1 w1 ρ1 b1 b2 b3 b4
  ·intro a1 w1 ρ1 b1 b2 b3 b4
   show Exit.inBlock id Q (.exit id') a1 w1
   simp only[Exit.inBlock,aj lK]
   exact A a1 w1 ρ1 b1 b2 b3 b4
  exact A
 |.loop c=>fun E H x E' H' ρ C a w Q h I U J Z Y z A=>
  wp_loop_rounds lf (Ai.rounds (vw hc G c) (q9 hc _) lf E H x E' H' ρ C a w Q h I U J Z Y z A)
 |.region id ops draw=>fun E H x E' H' ρ C a w Q h I U J Z Y z A=>by
  unfold lI LD at h
  split at h
  ·exact(tM h).elim
  rename_i l hl
  obtain⟨hlen,vk⟩:=KU hl
  cases draw with
  |false=>
   simp only[p9,if_false] at h
   obtain⟨rfl,hz⟩:=Dl (r:=mV call l E H) h
   refine wp_region ?_
   rw[show ops.size=l.length by rw[hlen];simp,List.range_eq_range']
   exact Kb hc (K:=Q .normal) l ops.toList 0 hlen.symm vk (fun i o h=>by simpa using h) E H E' H' ρ C a w hz I U J Z Y z A (fun _ _ h=>h)
  |true=>
   simp only[if_true] at h
   split at h
   ·rename_i Jr
    simp only[fc] at Jr
    obtain⟨rfl,hz⟩:=Dl (r:=me call (pb (w7 ops.toList []) 0 [] l) E H []) h
    have Qh:=JY (ops:=ops) ops.toList [] (fun n=>by simp) (fun j i h=>by simp at h)
    have get:∀{i:Nat}{io:bt},(pb (w7 ops.toList []) 0 [] l)[i]?=some io→∃O,l[i]?=some O∧io.dst=O.dst∧io.g=O.g∧io.op=O.op∧(io.q=none→mQ io.op=true):=by
     intro i io BA
     obtain⟨O,h0,h1,h2,h3,h4⟩:=zz (ms:=w7 ops.toList []) (L:=l) l 0 (fun n=>by simp) i io BA
     rw[jx] at h0
     refine⟨O,h0,h1,h2,h3,fun hq=>?_⟩
     rw[hq] at h4
     rw[h3]
     cases hp:mQ O.op
     ·rw[hp] at h4;simp at h4
     rfl
    refine Q2 hc ⟨?_,?_,?_,?_,?_⟩ rfl Qh G hz I U J Z Y z A (fun _ _ h=>h)
    ·rw[J0,hlen];simp
    ·intro i o io ho BA
     obtain⟨O,h0,h1,h2,h3,_⟩:=get BA
     have k:=vk i o O (by simpa using ho) h0
     exact⟨by rw[h1];exact k.dst,fun d hd=>k.lt d (by rw[←h1];exact hd),by rw[h2];exact k.g,by rw[h3];exact k.op⟩
    ·intro j o e ho he hb
     have:=Kd ops.toList 0 Jr.1 j o e (by simpa using ho) he hb
     omega
    ·intro i j x y hij hx hy
     obtain⟨x0,hx0,a1,a2,a3,_⟩:=get hx
     obtain⟨y0,Jo,b1,b2,b3,_⟩:=get hy
     rcases SE Jr.2 hij hx0 Jo with k|k
     ·exact .inl (Qh _ _ k)
     refine .inr ⟨fun t A=>?_,fun t A=>?_,fun t A=>?_⟩
     ·rw[a1];exact k.xy t (by unfold sA at A⊢;rw[←b2,←b3];exact A)
     ·rw[a1];exact k.dd t (by rw[←b1];exact A)
     rw[b1];exact k.yx t (by unfold sA at A⊢;rw[←a2,←a3];exact A)
    intro i x hx hq
    obtain⟨_,_,_,_,_,k⟩:=get hx
    exact k hq
   exact(tM h).elim
 |.rangeFunc ..=>fun E H x E' H' ρ C a w Q h _ _ _ _ _ _ _=>(tM h).elim
 |.scope _=>fun E H x E' H' ρ C a w Q h _ _ _ _ _ _ _=>(tM h).elim
 |.label _=>fun E H x E' H' ρ C a w Q h _ _ _ _ _ _ _=>(tM h).elim
 |.goto _=>fun E H x E' H' ρ C a w Q h _ _ _ _ _ _ _=>(tM h).elim
 |.refuse _=>fun E H x E' H' ρ C a w Q h _ _ _ _ _ _ _=>(tM h).elim
end
end Go.Ev
