/- Part 6 of rules for walks through the code of a program, and of such walks; what each part proves is said by its theorems. -/
import Derived.Test.YtijnechfhdlgiaaGreatDoorS5
import Derived.LoopN
set_option linter.unusedVariables false
set_option linter.unusedSimpArgs false
namespace Go.Ev
def PS(H:aB)(r:aE):Prop:=∀v H',r= .ok v H'→H'=H
theorem PS.err{H:aB}{n:Nat}:PS H (.err n):=fun _ _ h=>by cases h
theorem PS.ok{H:aB}{v:an}:PS H (.ok v H):=fun _ _ h=>by cases h;rfl
theorem PS.aH{H:aB}{b:Bool}{k e:aE}(h:PS H k)(h':PS H e):PS H (aH b k e):=by cases b;exact h';exact h
theorem PS.ob{H:aB}{α:Type}{o:Option α}{e:aE}{k:α→aE}(h:∀x,PS H (k x))(h':PS H e):PS H (ob o e k):=by cases o;exact h';exact h _
theorem PS.bB{H:aB}{x:aG}{E:Env}{e:aE}{k:an→aE}(h:∀x,PS H (k x))(h':PS H e):PS H (bB x E e k):=by
 cases x with
 |t i=>exact PS.ob (o:=E.get i) h h'
 |c a=>exact h a
theorem PS.sd{H:aB}{a:an}{e:aE}{k:Bool→aE}(h:∀x,PS H (k x))(h':PS H e):PS H (sd a e k):=by cases a<;>first|exact h'|exact h _
theorem PS.gI{H:aB}{a:an}{e:aE}{k:IntKind→Int→aE}(h:∀x y,PS H (k x y))(h':PS H e):PS H (gI a e k):=by cases a<;>first|exact h'|exact h _ _
theorem PS.jR{H:aB}{a:an}{e:aE}{k:Nat→Nat→aE}(h:∀x y,PS H (k x y))(h':PS H e):PS H (jR a e k):=by cases a<;>first|exact h'|exact h _ _
theorem PS.iu{H:aB}{a:an}{e:aE}{k:Nat→Nat→Nat→aE}(h:∀x y z,PS H (k x y z))(h':PS H e):PS H (iu a e k):=by cases a<;>first|exact h'|exact h _ _ _
theorem PS.gP{H:aB}{a:an}{e e2:aE}{k:Nat→Nat→Nat→Nat→Nat→aE}(h:∀x y z u w,PS H (k x y z u w))(h2:PS H e2)(h':PS H e):PS H (gP a e e2 k):=by cases a<;>first|exact h'|exact h2|exact h _ _ _ _ _
theorem PS.oZ{H:aB}{a:an}{e:aE}{k:List an→aE}(h:∀x,PS H (k x))(h':PS H e):PS H (oZ a e k):=by cases a<;>first|exact h'|exact h _
theorem PS.rZ{H:aB}{a:an}{e:aE}{k:List an→aE}(h:∀x,PS H (k x))(h':PS H e):PS H (rZ a e k):=by cases a<;>first|exact h'|exact h _
theorem PS.tS{H:aB}{a:an}{e:aE}{k:Nat→List an→List an→aE}(h:∀x y z,PS H (k x y z))(h':PS H e):PS H (tS a e k):=by cases a<;>first|exact h'|exact h _ _ _
theorem PS.jb{H:aB}{i:Int}{e:aE}{k:Nat→aE}(h:∀x,PS H (k x))(h':PS H e):PS H (jb i e k):=by cases i;exact h _;exact h'
theorem PS.idx{H:aB}{a:an}{n:Nat}{e:aE}{k:Nat→aE}(h:∀x,PS H (k x))(h':PS H e):PS H (idx a n e k):=PS.gI (fun _ _=>PS.jb (fun _=>PS.aH (h _) h') h') h'
theorem PS.gL{H:aB}{E:Env}{x:Option aG}{d y:Nat}{e:aE}{k:Nat→aE}(h:∀x,PS H (k x))(h':PS H e):PS H (gL E x d y e k):=by
 cases x with
 |none=>exact h _
 |some z=>exact PS.ob (fun _=>PS.gI (fun _ _=>PS.jb (fun _=>PS.aH (h _) h') h') h') h'
theorem PS.iS{H:aB}{o:Option dP}{e:aE}{k:Nat→Nat→Nat→Nat→Nat→Nat→RT→aE}(h:∀a b c d e f g,PS H (k a b c d e f g))(h':PS H e):PS H (iS o e k):=by
 cases o with
 |none=>exact h'
 |some o=>cases o with
  |row=>exact h _ _ _ _ _ _ _
  |map=>exact h'
theorem PS.iG{H:aB}{agg:Bool}{l:List an}{e:aE}{k:an→aE}(h:∀x,PS H (k x))(h':PS H e):PS H (iG agg l e k):=by
 refine PS.aH (h _) ?_
 cases l with
 |nil=>exact h'
 |cons x r=>cases r with
  |nil=>exact h _
  |cons=>exact h'
theorem PS.dr{H:aB}{n:Nat}{k:Nat→aE}(h:∀x,PS H (k x)):PS H (dr n k):=by rw[im];exact h _
theorem PS.kW{H:aB}{n:Int}{k:Int→aE}(h:∀x,PS H (k x)):PS H (kW n k):=by rw[rQ];exact h _
theorem PS.mE{H:aB}{n:an}{k:an→aE}(h:∀x,PS H (k x)):PS H (mE n k):=by rw[ts];exact h _
theorem PS.mY{H:aB}{n:Bool}{k:Bool→aE}(h:∀x,PS H (k x)):PS H (mY n k):=by cases n<;>exact h _
theorem RU{call:eF}{H:aB}{E:Env}{o:bE}(hp:mF o=true):PS H (o.ev call E H):=by
 cases o with
 |nX x=>exact PS.bB (fun _=>PS.ok) PS.err
 |pick c a b=>exact PS.bB (fun _=>PS.sd (fun _=>PS.aH (PS.bB (fun _=>PS.ok) PS.err) (PS.bB (fun _=>PS.ok) PS.err)) PS.err) PS.err
 |cf a b c d=>cases hp
 |box a b c d=>cases hp
 |load a b c=>cases hp
 |store a b c=>cases hp
 |bin op x y=>exact PS.bB (fun _=>PS.bB (fun _=>by rw[Cf];exact PS.ob (fun _=>PS.mE fun _=>PS.ok) PS.err) PS.err) PS.err
 |eqv c n x y=>exact PS.bB (fun _=>PS.bB (fun _=>PS.ob (fun _=>PS.mY fun _=>PS.ok) PS.err) PS.err) PS.err
 |un op x=>exact PS.bB (fun _=>PS.ob (fun _=>PS.mE fun _=>PS.ok) PS.err) PS.err
 |nR x k=>exact PS.bB (fun _=>PS.iu (fun _ _ _=>PS.dr fun _=>PS.ok) PS.err) PS.err
 |sub x a b c=>exact PS.bB (fun _=>PS.oZ (fun _=>PS.aH (PS.iG (fun _=>PS.ok) PS.err) PS.err) PS.err) PS.err
 |kr a b x i=>exact PS.bB (fun _=>PS.iu (fun _ _ _=>PS.bB (fun _=>PS.idx (fun _=>PS.dr fun _=>PS.ok) PS.err) PS.err) PS.err) PS.err
 |eg a x i=>exact PS.bB (fun _=>PS.gP (fun _ _ _ _ _=>PS.bB (fun _=>PS.idx (fun _=>PS.dr fun _=>PS.ok) PS.err) PS.err) PS.err PS.err) PS.err
 |zG a b c x i=>exact PS.bB (fun _=>PS.oZ (fun _=>PS.bB (fun _=>PS.idx (fun _=>PS.aH (PS.iG (fun _=>PS.ok) PS.err) PS.err) PS.err) PS.err) PS.err) PS.err
 |sb x i=>exact PS.bB (fun _=>PS.jR (fun _ _=>PS.bB (fun _=>PS.idx (fun _=>PS.dr fun _=>PS.ok) PS.err) PS.err) PS.err) PS.err
 |iR x a b=>exact PS.bB (fun _=>PS.jR (fun _ _=>PS.gL (fun _=>PS.gL (fun _=>PS.dr fun _=>PS.dr fun _=>PS.ok) PS.err) PS.err) PS.err) PS.err
 |pX n x a b=>exact PS.bB (fun _=>PS.gP (fun _ _ _ _ _=>PS.aH (PS.gL (fun _=>PS.gL (fun _=>PS.dr fun _=>PS.dr fun _=>PS.ok) PS.err) PS.err) PS.err) (PS.gL (fun _=>PS.gL (fun _=>PS.ok) PS.err) PS.err) PS.err) PS.err
 |vS k n x a b=>cases hp
 |ry x i=>exact PS.bB (fun _=>PS.rZ (fun _=>PS.ob (fun _=>PS.ok) PS.err) PS.err) PS.err
 |oV x=>exact PS.bB (fun _=>PS.aH PS.ok PS.err) PS.err
 |nS f z l=>exact PS.ob (fun _=>PS.ob (fun _=>PS.ok) PS.err) PS.err
 |uM t x=>exact PS.bB (fun _=>PS.ok) PS.err
 |yi a b c d e f=>cases hp
 |build a b=>exact PS.ob (fun _=>PS.ok) PS.err
 |cH a b c d e f=>cases hp
 |len x=>exact PS.bB (fun _=>PS.gP (fun _ _ _ _ _=>PS.ok) PS.ok PS.err) PS.err
 |AE n=>exact PS.ok
 |o5 x=>exact PS.bB (fun _=>PS.jR (fun _ _=>PS.ok) PS.err) PS.err
 |app a b c x y=>cases hp
 |sc a x y=>cases hp
 |copy a b c=>cases hp
 |zH a b c=>exact PS.bB (fun _=>PS.gI (fun _ _=>PS.ob (fun _=>PS.ob (fun _=>PS.ok) PS.err) PS.err) PS.err) PS.err
 |conv k x=>exact PS.bB (fun _=>PS.gI (fun _ _=>PS.kW fun _=>PS.ok) PS.err) PS.err
 |Cx x=>exact PS.bB (fun _=>PS.ok) PS.err
 |xl e x=>cases hp
 |pH x=>cases hp
 |call f l=>cases hp
 |mI x l=>cases hp
 |qp t n x=>cases hp
 |uV x=>exact PS.bB (fun _=>PS.gP (fun _ _ _ _ _=>PS.aH PS.err PS.ok) PS.ok PS.err) PS.err
 |qw e x n=>cases hp
theorem Rg{E:Env}{o:bE}(hp:mF o=true):o.reads E=some []:=by
 cases o<;>first|rfl|cases hp
inductive kY(ops:Array Oper):Nat→Nat→Prop
 |EC {j:Nat} {o:Oper} {e:Edge}:ops[j]?=some o→e∈o.after→Region.binds .any e=true→kY ops e.on j
 |step {i k j:Nat}:kY ops i k→kY ops k j→kY ops i j
def CG(ops:Array Oper)(S:Nat→Bool):Prop:=∀j o e,ops[j]?=some o→e∈o.after→Region.binds .any e=true→S j=true→S e.on=true
def Hu(ops:Array Oper)(S:Nat→Bool)(j:Nat):Prop:=∀o e,ops[j]?=some o→e∈o.after→Region.binds .any e=true→S e.on=true
theorem kY.closed{ops:Array Oper}{S:Nat→Bool}(G:CG ops S){i j:Nat}(h:kY ops i j):S j=true→S i=true:=by
 induction h with
 |EC I h2 J=>exact fun h=>G _ _ _ I h2 J h
 |step _ _ z A=>exact fun h=>z (A h)
theorem kY.ready{ops:Array Oper}{S:Nat→Bool}(G:CG ops S){i j:Nat}(h:kY ops i j):Hu ops S j→S i=true:=by
 induction h with
 |EC z h2 I=>exact fun h=>h _ _ z h2 I
 |step z _ _ A=>exact fun h=>z.closed G (A h)
def yM(ms:List Nat):List Edge→Nat
 |[]=>0
 |e::r=>if Region.binds .any e=true then 2^e.on|||ms.getD e.on 0|||yM ms r else yM ms r
def wN:List Oper→List Nat→List Nat
 |[],ms=>ms
 |o::r,ms=>wN r (ms++[yM ms o.after.toList])
def B1:Nat→List Oper→Bool
 |_,[]=>true
 |k,o::r=>(o.after.toList.all fun e=>!Region.binds .any e||decide (e.on<k))&&B1 (k+1) r
theorem MB{ops:Array Oper}{ms:List Nat}(z:∀j i,(ms.getD j 0).testBit i=true→kY ops i j){j:Nat}{o:Oper}(ho:ops[j]?=some o):
  ∀(l:List Edge),(∀e,e∈l→e∈o.after)→∀i,(yM ms l).testBit i=true→kY ops i j
 |[],_,i,h=>by simp[yM] at h
 |e::r,A,i,h=>by
  have G:=MB z ho r (fun e he=>A e (nO _ he)) i
  unfold yM at h
  split at h
  ·rename_i I
   rw[Nat.testBit_or,Nat.testBit_or] at h
   simp only[uL] at h
   rcases h with(h|h)|h
   ·rw[Nat.testBit_two_pow] at h
    have:e.on=i:=by simpa using h
    subst this
    exact .EC ho (A e (lh ..)) I
   ·exact .step (z _ _ h) (.EC ho (A e (lh ..)) I)
   exact G h
  exact G h
theorem Jm{ops:Array Oper}:∀(l:List Oper)(ms:List Nat),(∀n,l[n]?=ops[ms.length+n]?)→(∀j i,(ms.getD j 0).testBit i=true→kY ops i j)→
  ∀j i,((wN l ms).getD j 0).testBit i=true→kY ops i j
 |[],ms,_,h=>h
 |o::r,ms,A,h=>by
  refine Jm r _ (fun n=>?_) fun j i z=>?_
  ·have:=A (n+1)
   simp only[HN] at this
   rw[this];simp only[bK,dk,dO];congr 1;omega
  have ho:ops[ms.length]?=some o:=by have:=A 0;simpa using this.symm
  rcases HG j ms.length with dR|rfl|G
  ·rw[Ey,qv dR,←Ey] at z
   exact h j i z
  ·rw[Ey,v8 (bY _)] at z
   simp only[Nat.sub_self,List.getElem?_cons_zero,Option.getD_some] at z
   exact MB h ho _ (fun e he=>by simpa using he) i z
  rw[Ey,En (by simp;omega)] at z
  simp at z
theorem JC:∀(l:List Oper)(k:Nat),B1 k l=true→∀n o e,l[n]?=some o→e∈o.after→Region.binds .any e=true→e.on<k+n
 |[],_,_,n,o,e,h,_,_=>by simp at h
 |x::r,k,h,n,o,e,z,he,A=>by
  unfold B1 at h
  simp only[eZ,Ej] at h
  cases n with
  |zero=>
   simp at z;subst z
   have:=h.1 e (by simpa using he)
   simpa[A] using this
  |succ n=>
   have:=JC r (k+1) h.2 n o e (by simpa using z) he A
   omega
def U2:aG→Option Key
 |.t n=>some n
 |_=>none
def sf(o:bt):List Key:=o.op.dC.filterMap U2++(match o.g with|some (t,_)=>[t]|none=>[])
def An(d:Option Key)(l:List Key):Bool:=match d with|some d=>!(l.contains d)|none=>true
def GR(x y:bt):Bool:=An x.dst (sf y)&&An x.dst y.dst.toList&&An y.dst (sf x)
def MC(ms:List Nat)(l:List bt):Bool:=
 (List.range l.length).all fun j=>(List.range j).all fun i=>(ms.getD j 0).testBit i||(match l[i]?,l[j]?with|some x,some y=>GR x y|_,_=>false)
theorem Gb{d:Option Key}{l:List Key}(h:An d l=true):∀t,t∈l→d≠some t:=by
 intro t z he
 subst he
 simp[An] at h
 exact h z
structure GS(x y:bt):Prop where
 xy:∀t,t∈sf y→x.dst≠some t
 dd:∀t,y.dst=some t→x.dst≠some t
 yx:∀t,t∈sf x→y.dst≠some t
theorem RV{x y:bt}(h:GR x y=true):GS x y:=by
 unfold GR at h
 simp only[eZ] at h
 exact⟨Gb h.1.1,fun t z=>Gb h.1.2 t (by simp[z]),Gb h.2⟩
theorem RW{ms:List Nat}{l:List bt}(h:MC ms l=true){i j:Nat}{x y:bt}(A:i<j)(I:l[i]?=some x)(G:l[j]?=some y):(ms.getD j 0).testBit i=true∨GS x y:=by
 have J:j<l.length:=(List.getElem?_eq_some_iff.1 G).1
 have z:=List.all_eq_true.1 (List.all_eq_true.1 h j (List.mem_range.2 J)) i (List.mem_range.2 A)
 rw[I,G] at z
 rcases uL _ _|>.mp z with z|z
 ·exact .inl z
 exact .inr (RV z)
theorem Kf{E E':Env}{o:bt}(h:∀t,t∈sf o→E.get t=E'.get t):∀x∈o.op.dC,x.ev E=x.ev E':=by
 intro x z
 cases x with
 |t n=>exact h n (Oy _ (List.mem_filterMap.2 ⟨.t n,z,rfl⟩))
 |c v=>rfl
theorem QN{E E':Env}{o:bt}(h:∀t,t∈sf o→E.get t=E'.get t){b:Bool}(z:mK E o.g b):mK E' o.g b:=by
 generalize A:o.g=g at z
 cases z with
 |none=>exact .none
 |slot k=>
  rename_i t want b
  refine .slot ?_
  rw[←h t (HQ _ (by rw[A];simp))]
  exact k
 |off k=>
  rename_i t want
  refine .off ?_
  rw[←h t (HQ _ (by rw[A];simp))]
  exact k
def wO(m:Nat):Nat→List Nat→List Nat
 |_,[]=>[]
 |k,j::r=>if m.testBit j then wO m (k+1) r else k::wO m (k+1) r
def o0(ms:List Nat):Nat→List Nat→List bt→List bt
 |_,_,[]=>[]
 |i,seen,o::r=>if mF o.op then{o with q:=none}::o0 ms (i+1) seen r else{o with q:=some (wO (ms.getD i 0) 0 seen)}::o0 ms (i+1) (i::seen) r
def seenAt(L:List bt):Nat→List Nat
 |0=>[]
 |n+1=>match L[n]?with
  |some o=>if mF o.op then seenAt L n else n::seenAt L n
  |none=>seenAt L n
theorem Jn{m j:Nat}(z:m.testBit j=false):∀(seen:List Nat)(k n:Nat),seen[n]?=some j→k+n∈wO m k seen
 |[],_,_,h=>by simp at h
 |x::r,k,n,h=>by
  unfold wO
  cases n with
  |zero=>simp at h;subst h;rw[aj (by simp[z])];exact lh ..
  |succ n=>
   have:=Jn z r (k+1) n (by simpa using h)
   rw[show k+(n+1)=k+1+n by omega]
   split
   ·exact this
   exact nO _ this
theorem ze{ms:List Nat}{L:List bt}:∀(l:List bt)(i:Nat),(∀n,l[n]?=L[i+n]?)→∀n io,(o0 ms i (seenAt L i) l)[n]?=some io→
  ∃z,L[i+n]?=some z∧io.dst=z.dst∧io.g=z.g∧io.op=z.op∧io.q=if mF z.op then none else some (wO (ms.getD (i+n) 0) 0 (seenAt L (i+n)))
 |[],i,_,n,io,h=>by simp[o0] at h
 |o::r,i,A,n,io,h=>by
  have h0:L[i]?=some o:=by have:=A 0;simpa using this.symm
  have G:∀n,r[n]?=L[i+1+n]?:=fun n=>by have:=A (n+1);rw[show i+1+n=i+(n+1) by omega];simpa using this
  have I:=ze (ms:=ms) r (i+1) G
  have J:seenAt L (i+1)=if mF o.op then seenAt L i else i::seenAt L i:=by simp only[seenAt,h0]
  unfold o0 at h
  cases n with
  |zero=>
   refine⟨o,h0,?_⟩
   split at h
   ·rename_i hp;simp at h;subst h;exact⟨rfl,rfl,rfl,by rw[aw hp]⟩
   rename_i hp;simp at h;subst h;exact⟨rfl,rfl,rfl,by rw[aj hp];rfl⟩
  |succ n=>
   rw[show i+(n+1)=i+1+n by omega]
   refine I n io ?_
   rw[J]
   split at h
   ·rename_i hp;rw[aw hp];simpa using h
   rename_i hp;rw[aj hp];simpa using h
theorem Jo{ms:List Nat}:∀(l:List bt)(i:Nat)(s:List Nat),(o0 ms i s l).length=l.length
 |[],_,_=>rfl
 |o::r,i,s=>by
  unfold o0
  split<;>simp[Jo r]
theorem JR{L:List bt}{i:Nat}{o:bt}(h:L[i]?=some o)(hp:mF o.op=false):∀n,i<n→i∈seenAt L n
 |0,h=>by omega
 |n+1,z=>by
  unfold seenAt
  rcases z1 (vN z) with dR|rfl
  ·have:=JR h hp n dR
   split
   ·split
    ·exact this
    exact nO _ this
   exact this
  simp[h,hp]
theorem Ext.wide{W:Nat→Prop}{n0 n1 z A:Nat}{ρ ρ':Ho}{w w':World}(h:Ext W n0 n1 ρ ρ' w w')(h0:z≤n0)(G:n1≤A):Ext W z A ρ ρ' w w':=
 ⟨h.le,fun f g x e=>(h.ji f g x e).imp_right fun k=>⟨by omega,by omega⟩,h.b8,h.frame,h.size,by have:=h.nn;omega,h.os,h.tape,h.output⟩
theorem Ext.U3{W:Nat→Prop}{n0 n1:Nat}{ρ z A:Ho}{w K O:World}(h:Ext W n0 n1 ρ z w K)(k:Ext W n0 n1 z A K O):Ext W n0 n1 ρ A w O:=by
 refine⟨Ho.le_trans h.le k.le,?_,?_,?_,jT h.size k.size,h.nn,k.os.trans h.os,k.tape.trans h.tape,k.output.trans h.output⟩
 ·intro f g x G
  rcases k.ji f g x G with⟨g0,h0,e⟩|e
  ·exact h.ji f g0 h0 e
  exact .inr e
 ·intro f g x G
  rcases k.b8 f g x G with e|⟨a,b⟩|⟨g0,h0,e,e1,e2⟩
  ·exact h.b8 f g x e
  ·exact .inr (.inl ⟨jT h.size a,b⟩)
  rcases h.b8 f g0 h0 e with I|⟨a,b⟩|⟨g1,h1,I,e3,e4⟩
  ·exact .inr (.inr ⟨g0,h0,I,e1,e2⟩)
  ·exact .inr (.inl ⟨e1▸a,e2▸b⟩)
  exact .inr (.inr ⟨g1,h1,I,e3.trans e1,e4.trans e2⟩)
 intro b U J
 rw[k.frame b (mw U h.size) ?_,h.frame b U J]
 intro f g x G Y Z
 rcases h.b8 f g x G with e|⟨a,_⟩|⟨g0,h0,e,e1,e2⟩
 ·exact J f g x e Y Z
 ·intro hh;omega
 exact e1▸J f g0 h0 e (e2.trans Y) Z
def o3(l:List bt)(n:Nat):Option Key:=(l[n]?).bind (·.dst)
noncomputable def rE(l:List bt)(E:Env)(V:Nat→an)(S:Nat→Bool):Nat→Env
 |0=>E
 |n+1=>if S n=true then kf (rE l E V S n) (o3 l n) (V n) else rE l E V S n
noncomputable def rC(C:Nat→Option dP)(Hs:Nat→aB)(S:Nat→Bool):Nat→Nat→Option dP
 |0=>C
 |n+1=>if S n=true then gu (rC C Hs S n) (Hs n) (Hs (n+1)) else rC C Hs S n
theorem zr{l:List bt}{E:Env}{V:Nat→an}{S:Nat→Bool}(n:Nat):rE l E V S (n+1)=if S n=true then kf (rE l E V S n) (o3 l n) (V n) else rE l E V S n:=rfl
theorem zs{C:Nat→Option dP}{Hs:Nat→aB}{S:Nat→Bool}(n:Nat):rC C Hs S (n+1)=if S n=true then gu (rC C Hs S n) (Hs n) (Hs (n+1)) else rC C Hs S n:=rfl
def ins(S:Nat→Bool)(j:Nat):Nat→Bool:=fun i=>i==j||S i
theorem wX(E:Env)(d:Option Key)(v:an)(t:Key):(kf E d v).get t=if d=some t then some v else E.get t:=by
 cases d with
 |none=>simp[kf]
 |some d=>
  show(E.set d v).get t=_
  rw[T4.eU]
  by_cases h:t=d
  ·subst h;simp
  rw[aj h,aj (by simp;exact fun e=>h e.symm)]
section
variable{l:List bt}{E:Env}{V:Nat→an}{S:Nat→Bool}{j:Nat}
theorem CH(t:Key){T:Nat→Bool}:∀n,(∀i,i<n→S i≠T i→o3 l i≠some t)→(rE l E V S n).get t=(rE l E V T n).get t
 |0,_=>rfl
 |n+1,h=>by
  have z:=CH t n fun i hi=>h i (by omega)
  have A:=h n (by omega)
  rw[zr,zr]
  cases G:S n<;>cases I:T n
  ·simpa using z
  ·have:=A (by simp[G,I])
   simp only[pU,if_false,if_true,wX,aj this];exact z
  ·have:=A (by simp[G,I])
   simp only[pU,if_false,if_true,wX,aj this];exact z
  simp only[if_true,wX,z]
theorem Ch(t:Key):∀n,j≤n→(∀k,j≤k→k<n→S k=true→o3 l k≠some t)→(rE l E V S n).get t=(rE l E V S j).get t
 |0,z,_=>by have:j=0:=(by omega);subst this;rfl
 |n+1,z,h=>by
  rcases z1 z with dR|rfl
  ·have A:=Ch t n (by omega) fun k G h2=>h k G (by omega)
   rw[zr]
   split
   ·rename_i I;rw[wX,aj (h n (by omega) (by omega) I)];exact A
   exact A
  rfl
theorem MD(I:S j=false)(A:j<l.length)(J:∀k t,j<k→S k=true→o3 l j=some t→o3 l k≠some t)(t:Key):
  (rE l E V (ins S j) l.length).get t=(kf (rE l E V S l.length) (o3 l j) (V j)).get t:=by
 rw[wX]
 have e:∀i,ins S j i≠S i→i=j:=by
  intro i hi
  unfold ins at hi
  by_cases h:i=j
  ·exact h
  simp[h] at hi
 split
 ·rename_i z
  rw[Ch (j:=j+1) t l.length A fun k K h2 G=>J k t (by omega) (by unfold ins at G;simpa[show k≠j by omega] using G) z]
  rw[zr]
  rw[aw (by simp[ins]),wX,aw z]
 rename_i z
 exact CH t _ fun i _ hi=>by rw[e i hi];exact z
end
section
variable{C:Nat→Option dP}{Hs:Nat→aB}{S:Nat→Bool}{j:Nat}
def Touch(Hs:Nat→aB)(n f:Nat):Prop:=((Hs n).next≤f∧f<(Hs (n+1)).next)∨(Hs (n+1)).t.get f≠(Hs n).t.get f
theorem BO{n f:Nat}(h:Touch Hs n f):gu C (Hs n) (Hs (n+1)) f=(Hs (n+1)).t.get f:=by
 unfold gu
 rcases h with h|h
 ·rw[aw h]
 rw[aj h];split<;>rfl
theorem BB{n f:Nat}(h:¬Touch Hs n f):gu C (Hs n) (Hs (n+1)) f=C f:=by
 unfold gu
 rw[aj (fun k=>h (.inl k)),aw (t7 fun k=>h (.inr k))]
theorem ME(f:Nat){T:Nat→Bool}:∀n,(∀i,i<n→S i≠T i→¬Touch Hs i f)→rC C Hs S n f=rC C Hs T n f
 |0,_=>rfl
 |n+1,h=>by
  have A:=ME f n fun i hi=>h i (by omega)
  have G:=h n (by omega)
  rw[zs,zs]
  by_cases z:Touch Hs n f
  ·have e:S n=T n:=t7 fun k=>G k z
   rw[e]
   cases T n
   ·simpa using A
   simp only[if_true,BO z]
  cases S n<;>cases T n<;>simp only[pU,if_false,if_true,BB z]<;>exact A
theorem zt(f:Nat):∀n,j≤n→(∀k,j≤k→k<n→S k=true→¬Touch Hs k f)→rC C Hs S n f=rC C Hs S j f
 |0,z,_=>by have:j=0:=(by omega);subst this;rfl
 |n+1,z,h=>by
  rcases z1 z with dR|rfl
  ·have A:=zt f n (by omega) fun k G h2=>h k G (by omega)
   rw[zs]
   split
   ·rename_i I;rw[BB (h n (by omega) (by omega) I)];exact A
   exact A
  rfl
theorem MF{N:Nat}(I:S j=false)(A:j<N)(J:∀k f,j<k→k<N→S k=true→Touch Hs j f→¬Touch Hs k f)(f:Nat):
  rC C Hs (ins S j) N f=gu (rC C Hs S N) (Hs j) (Hs (j+1)) f:=by
 have e:∀i,ins S j i≠S i→i=j:=by
  intro i hi
  unfold ins at hi
  by_cases h:i=j
  ·exact h
  simp[h] at hi
 by_cases z:Touch Hs j f
 ·rw[BO z,zt (j:=j+1) f N A fun k K h2 G=>J k f (by omega) h2 (by unfold ins at G;simpa[show k≠j by omega] using G) z]
  rw[zs]
  rw[aw (by simp[ins]),BO z]
 rw[BB z]
 exact ME f _ fun i _ hi=>by rw[e i hi];exact z
theorem Gc(f:Nat)(h0:∀o,(Hs 0).t.get f=some o→C f=some o):∀n,(∀i,i<n→S i=false→¬Touch Hs i f)→∀o,(Hs n).t.get f=some o→rC C Hs S n f=some o
 |0,_,o,h=>h0 o h
 |n+1,A,o,h=>by
  have G:=Gc f h0 n (fun i hi=>A i (by omega)) o
  rw[zs]
  by_cases z:Touch Hs n f
  ·have:S n=true:=by
    cases I:S n
    ·exact absurd z (A n (by omega) I)
    rfl
   rw[aw this,BO z];exact h
  have e:(Hs (n+1)).t.get f=(Hs n).t.get f:=t7 fun k=>z (.inr k)
  rw[e] at h
  split
  ·rw[BB z];exact G h
  exact G h
end
structure Fact(call:eF)(o:bt)(E:Env)(H:aB)(b:Bool)(v:an)(fp:FP)(H1:aB):Prop where
 mz:gk H H1
 V9:∀f,((H.next≤f∧f<H1.next)∨H1.t.get f≠H.t.get f)→o.q.isSome=true∧(f∈fp.ws∨(fp.lo≤f∧f<fp.hi∧H.next≤f∧f<H1.next))
 V':mK E o.g b
 off:b=false→v= .undef∧H1=H
 on:b=true→∃Hm Hn,o.op.ev call E Hm= .ok v Hn∧Hm.bc≤Hm.next∧Hm.next=H.next∧Hm.t=H.t∧Hn.next=H1.next∧Hn.t=H1.t∧(∀f,Wr Hn f→Wr H1 f)∧(o.q.isSome=true→fp.rd=o.op.reads E)
section
variable{P:Program}{call:eF}
theorem pQ.fact{o:bt}{E:Env}{H:aB}{bS:List FP}{b:Bool}{v:an}{fp:FP}{H1:aB}(U:kt P call)(hp:o.q=none→mF o.op=true)(O:H.bc≤H.next)(G:WF H)(h:pQ call o E H bS b v fp H1):
  Fact call o E H b v fp H1:=by
 cases h with
 |skip I J=>exact⟨gk.refl _,fun f z=>absurd z (by rintro(z|z);omega;exact z rfl),I,fun _=>⟨rfl,rfl⟩,fun h=>by cases h⟩
 |plain I J he=>
  have e:=RU (hp J) v H1 he
  subst e
  exact⟨gk.refl _,fun f z=>absurd z (by rintro(z|z);omega;exact z rfl),I,fun h=>(by cases h),fun _=>⟨H1,H1,he,O,rfl,rfl,rfl,rfl,fun _ h=>h,fun h=>by rw[J] at h;cases h⟩⟩
 |marked I J he Y=>
  rename_i q A
  have t:=TM.ins (H:=H.mark) (bY _) (fun f a=>U.mz f a _ (bY _)) E o.op v A he
  refine⟨t.xr O,fun f z=>⟨by rw[J];rfl,?_⟩,I,fun h=>(by cases h),fun _=>⟨H.mark,A,he,bY _,rfl,rfl,rfl,rfl,fun f z=>?_,fun _=>rfl⟩⟩
  ·have z:((H.next≤f∧f<A.next)∨A.t.get f≠H.t.get f):=z
   show f∈A.ws∨(H.next≤f∧f<A.next∧H.next≤f∧f<A.next)
   by_cases K:f<H.next
   ·rcases z with z|z
    ·omega
    exact .inl (t7 fun k=>z (t.same f K k))
   by_cases h2:f<A.next
   ·exact .inr ⟨by omega,h2,by omega,h2⟩
   rcases z with z|z
   ·omega
   have e1:H.t.get f=none:=G f (by omega)
   have e2:A.t.get f=none:=t.wf G f (by omega)
   exact absurd (e2.trans e1.symm) z
  rcases z with z|z
  ·by_cases K:f<H.bc
   ·exact .inl ((yY _ _ _ _).2 (.inr ⟨z,K⟩))
   exact .inr (by show H.bc≤f;omega)
  have:H.next≤f:=by rw[t.bc] at z;exact z
  exact .inr (by show H.bc≤f;omega)
end
structure uA(P:Program)(nt:Nat)(ops:Array Oper)(l:List bt):Prop where
 len:l.length=ops.size
 WY:∀(i:Nat)(o:Oper)(io:bt),ops[i]?=some o→l[i]?=some io→yq P nt ops o io
 back:∀(j:Nat)(o:Oper)(e:Edge),ops[j]?=some o→e∈o.after→Region.binds .any e=true→e.on<j
 tmps:∀(i j:Nat)(x y:bt),i<j→l[i]?=some x→l[j]?=some y→kY ops i j∨GS x y
 pure:∀(i:Nat)(x:bt),l[i]?=some x→x.q=none→mF x.op=true
section
variable{P:Program}{call:eF}{nt:Nat}{ops:Array Oper}{l:List bt}{E E':Env}{H H':aB}{Es:Nat→Env}{Hs:Nat→aB}{Rs:Nat→List FP}{Wn:Nat→Bool}{Vs:Nat→an}{Fp:Nat→FP}
theorem Trace.wf(A:kt P call)(G:uA P nt ops l)(T:Trace call l E H [] E' H' Es Hs Rs Wn Vs Fp)(I:H.bc≤H.next)(z:WF H):∀i,i≤l.length→(Hs i).bc≤(Hs i).next∧WF (Hs i)
 |0,_=>by rw[T.h0];exact⟨I,z⟩
 |i+1,hi=>by
  obtain⟨J,h2⟩:=Trace.wf A G T I z i (by omega)
  obtain⟨o,ho⟩:∃o,l[i]?=some o:=⟨_,eY (by omega)⟩
  have t:=((T.step i o ho).1.fact A (G.pure i o ho) J h2).mz
  exact⟨by rw[t.bc];exact jT J t.next,t.wf h2⟩
theorem Trace.fact(A:kt P call)(G:uA P nt ops l)(T:Trace call l E H [] E' H' Es Hs Rs Wn Vs Fp)(I:H.bc≤H.next)(z:WF H){i:Nat}{o:bt}(ho:l[i]?=some o):
  Fact call o (Es i) (Hs i) (Wn i) (Vs i) (Fp i) (Hs (i+1)):=by
 have hi:i<l.length:=(List.getElem?_eq_some_iff.1 ho).1
 obtain⟨J,h2⟩:=T.wf A G I z i (by omega)
 exact(T.step i o ho).1.fact A (G.pure i o ho) J h2
theorem Trace.mz(A:kt P call)(G:uA P nt ops l)(T:Trace call l E H [] E' H' Es Hs Rs Wn Vs Fp)(I:H.bc≤H.next)(z:WF H){i:Nat}:∀k,i≤k→k≤l.length→gk (Hs i) (Hs k)
 |0,h,_=>by have:i=0:=(by omega);subst this;exact gk.refl _
 |k+1,h,hk=>by
  rcases z1 h with dR|rfl
  ·obtain⟨o,ho⟩:∃o,l[k]?=some o:=⟨_,eY (by omega)⟩
   exact(Trace.mz A G T I z k (by omega) (by omega)).trans (T.fact A G I z ho).mz
  exact gk.refl _
theorem Trace.env(T:Trace call l E H [] E' H' Es Hs Rs Wn Vs Fp):∀n,n≤l.length→Es n=rE l E Vs (fun _=>true) n
 |0,_=>T.e0
 |n+1,z=>by
  obtain⟨o,ho⟩:∃o,l[n]?=some o:=⟨_,eY (by omega)⟩
  rw[(T.step n o ho).2.1,zr,Trace.env T n (by omega),aw rfl]
  simp[o3,ho]
structure Inv(P:Program)(nt:Nat)(l:List bt)(E:Env)(H H':aB)(Hs:Nat→aB)(Vs:Nat→an)(ρ0:Ho)(C0:Nat→Option dP)(w0:World)(S:Nat→Bool)(a:Act)(w:World)(ρ:Ho):Prop where
 ar:AR P ρ nt (rE l E Vs S l.length) a
 r:R ρ (rC C0 Hs S l.length) w
 ext:Ext (Wr H') H.next H'.next ρ0 ρ w0 w
 ji:∀f g h,ρ f g=some h→(∃g0 h0,ρ0 f g0=some h0)∨∃k,k<l.length∧S k=true∧(Hs k).next≤f∧f<(Hs (k+1)).next
theorem AR.congr{ρ:Ho}{a:Act}{E1 z:Env}(h:AR P ρ nt E1 a)(he:∀t,z.get t=E1.get t):AR P ρ nt z a:=
 ⟨h.size,h.defers,fun t v k=>h.tmp t v (by rw[←he];exact k),h.rz⟩
theorem Sz(hc:kt P call)(hr:uA P nt ops l)(T:Trace call l E H [] E' H' Es Hs Rs Wn Vs Fp)
  (O:∀(i j:Nat)(x y:bt),i<j→l[i]?=some x→l[j]?=some y→x.q.isSome=true→y.q.isSome=true→kY ops i j∨w9 (Fp j) (Fp i))
  (hm:H.bc≤H.next) (nx:WF H) {ρ0:Ho} {C0:Nat→Option dP} {w0:World} (ID:j9 ρ0 C0 H) (Fa:ic ρ0 H.next H'.next)
  {S:Nat→Bool} (hS:CG ops S) {j:Nat} (hj:j<l.length) (U:S j=false) (hjr:Hu ops S j) {a:Act} {w:World} {ρ:Ho} (hI:Inv P nt l E H H' Hs Vs ρ0 C0 w0 S a w ρ)
  {Q:Exit→Act→World→Prop} {K:Act→World→Prop} (hK:∀a' w' ρ',Inv P nt l E H H' Hs Vs ρ0 C0 w0 (ins S j) a' w' ρ'→K a' w'):wpOp P ops Q j K a w:=by
 obtain⟨io,A⟩:∃io,l[j]?=some io:=⟨_,eY hj⟩
 obtain⟨o,ho⟩:∃o,ops[j]?=some o:=⟨_,wa (by rw[←hr.len];exact hj)⟩
 have yN:=hr.WY j o io ho A
 have fj:=T.fact hc hr hm nx A
 have I:∀i k,i≤k→k≤l.length→(Hs i).next≤(Hs k).next:=fun i k h1 h2=>(T.mz hc hr hm nx k h1 h2).next
 have h0:Hs 0=H:=T.h0
 have hN:Hs l.length=H':=T.hN
 have ED:∀k,S k=true→¬kY ops j k:=fun k hk hb=>by rw[hb.closed hS hk] at U;cases U
 have OO:∀i,S i=false→¬kY ops i j:=fun i hi hb=>by rw[hb.ready hS hjr] at hi;cases hi
 have get:∀{k},k<l.length→∃y,l[k]?=some y:=fun hk=>⟨_,eY hk⟩
 have G:∀{k y},l[k]?=some y→o3 l k=y.dst:=fun Z=>by simp[o3,Z]
 have IE:∀t,t∈sf io→(rE l E Vs S l.length).get t=(Es j).get t:=by
  intro t ht
  rw[T.env j (by omega),Ch (j:=j) t l.length (by omega) fun k h1 h2 J=>?_]
  ·refine CH t j fun i hi J=>?_
   obtain⟨x,hx⟩:=get (k:=i) (by omega)
   have J:S i=false:=by simpa using J
   rw[G hx]
   exact((hr.tmps i j x io hi hx A).resolve_left (OO i J)).xy t ht
  obtain⟨y,Z⟩:=get h2
  have lp:j≠k:=fun e=>by rw[←e,U] at J;cases J
  rw[G Z]
  exact((hr.tmps j k io y (by omega) A Z).resolve_left (ED k J)).yx t ht
 have OP:∀k t,j<k→S k=true→o3 l j=some t→o3 l k≠some t:=by
  intro k t hk J hd s8
  by_cases Fb:k<l.length
  ·obtain⟨y,Z⟩:=get Fb
   rw[G Z] at s8;rw[G A] at hd
   exact((hr.tmps j k io y hk A Z).resolve_left (ED k J)).dd t s8 hd
  simp[o3,En (Nat.le_of_not_lt Fb)] at s8
 have z:∀{k f y},l[k]?=some y→Touch Hs k f→y.q.isSome=true∧(f∈(Fp k).ws∨((Fp k).lo≤f∧f<(Fp k).hi∧(Hs k).next≤f∧f<(Hs (k+1)).next)):=
  fun Z ht=>(T.fact hc hr hm nx Z).V9 _ ht
 have EE:∀i,i≤l.length→WF (Hs i):=fun i hi=>(T.wf hc hr hm nx i hi).2
 have MG:∀k f,j<k→k<l.length→S k=true→Touch Hs j f→¬Touch Hs k f:=by
  intro k f hk Fb J tj tk
  obtain⟨y,Z⟩:=get Fb
  obtain⟨qj,ej⟩:=z A tj
  obtain⟨qk,ek⟩:=z Z tk
  have fa:=(O j k io y hk A Z qj qk).resolve_left (ED k J)
  have n1:=I (j+1) k hk (by omega)
  have n2:=I j (j+1) (by omega) (by omega)
  rcases ek with ek|⟨e1,e2,e3,e4⟩
  ·rcases ej with ej|⟨e1,e2,e3,e4⟩
   ·exact fa.ww f ek ej
   exact fa.out f ek ⟨e1,e2⟩
  rcases tj with tj|tj
  ·omega
  refine tj ((EE (j+1) (by omega) f (by omega)).trans (EE j (by omega) f (by omega)).symm)
 have AO:∀{i f},i<l.length→S i=false→(Hs i).next≤f→f<(Hs (i+1)).next→∀g,ρ f g=none:=by
  intro i f hi J h1 h2 g
  cases hx:ρ f g with
  |none=>rfl
  |some x=>
   rcases hI.ji f g x hx with⟨g0,x0,e⟩|⟨k,hk,IF,e1,e2⟩
   ·have n1:=I 0 i (by omega) (by omega)
    have n2:=I (i+1) l.length (by omega) (by omega)
    rw[h0] at n1;rw[hN] at n2
    rw[Fa f g0 (by omega) (by omega)] at e;cases e
   rcases HG i k with dR|rfl|E3
   ·have:=I (i+1) k (by omega) (by omega);omega
   ·rw[J] at IF;cases IF
   have:=I (k+1) i (by omega) (by omega);omega
 have Wa:ic ρ (Hs j).next (Hs (j+1)).next:=fun f g h1 h2=>AO hj U h1 h2 g
 have U4:Wn j=true→∀f ob,(∀ls,io.op.reads (Es j)=some ls→f∈ls)→(∃g h,ρ f g=some h)→(Hs j).t.get f=some ob→rC C0 Hs S l.length f=some ob:=by
  intro hon f ob p'⟨g,x,hx⟩yO
  obtain⟨_,_,_,_,_,_,_,_,_,WZ⟩:=fj.on hon
  have Y:io.q.isSome=true:=by
   cases hq:io.q with
   |some q=>rfl
   |none=>have:=p' [] (Rg (hr.pure j io A hq));cases this
  have W0:(Fp j).rd=io.op.reads (Es j):=WZ Y
  have OQ:∀m,(Fp j).rd=some m→f∈m:=fun m hm=>p' m (W0▸hm)
  have fj2:f<(Hs j).next:=t7 fun k=>by rw[EE j (by omega) f (by omega)] at yO;cases yO
  rw[zt (j:=j) f l.length (by omega) fun k h1 h2 J tk=>?_]
  ·refine Gc f (fun o' sZ=>?_) j (fun i hi J ti=>?_) ob yO
   ·rw[h0] at sZ
    refine ID f o' ?_ sZ
    rcases hI.ji f g x hx with e|⟨k,hk,IF,e1,e2⟩
    ·exact e
    have n1:=I 0 k (by omega) (by omega)
    rw[h0] at n1
    rw[nx f (by omega)] at sZ;cases sZ
   obtain⟨y,Z⟩:=get (k:=i) (by omega)
   obtain⟨qi,ei⟩:=z Z ti
   rcases ei with ei|⟨_,_,e3,e4⟩
   ·obtain⟨m,s7,E7⟩:=((O i j y io hi Z A qi Y).resolve_left (OO i J)).ba f ei
    exact E7 (OQ m s7)
   rw[AO (by omega) J e3 e4 g] at hx;cases hx
  obtain⟨y,Z⟩:=get h2
  have lp:j≠k:=fun e=>by rw[←e,U] at J;cases J
  obtain⟨qk,ek⟩:=z Z tk
  rcases ek with ek|⟨_,_,e3,e4⟩
  ·obtain⟨m,s7,E7⟩:=((O j k io y (by omega) A Z Y qk).resolve_left (ED k J)).ab f ek
   exact E7 (OQ m s7)
  have:=I j k (by omega) (by omega);omega
 have LJ:∀k,S k=true→ins S j k=true:=fun k hk=>by simp[ins,hk]
 unfold wpOp
 simp only[ho]
 have hw:=QN (E':=rE l E Vs S l.length) (fun t ht=>(IE t ht).symm) fj.V'
 rw[F1 yN hw hI.ar.tmp]
 cases hb:Wn j with
 |false=>
  rw[aj (by simp)]
  obtain⟨e1,e2⟩:=fj.off hb
  refine hK _ _ ρ ⟨?_,?_,hI.ext,fun f g x hx=>(hI.ji f g x hx).imp_right fun⟨k,h1,h2,h3⟩=>⟨k,h1,LJ k h2,h3⟩⟩
  ·refine AR.congr (E1:=kf (rE l E Vs S l.length) io.dst .undef) (by rw[yN.dst];exact hI.ar.EB yN.lt (by simp only[VR])) fun t=>?_
   rw[MD U hj OP t,G A,e1]
  rw[show rC C0 Hs (ins S j) l.length=rC C0 Hs S l.length from funext fun f=>by rw[MF U hj MG f,e2,pw]]
  exact hI.r
 |true=>
  rw[aw rfl]
  left
  obtain⟨Hm,Hn,he,k1,k2,k3,k4,k5,k6,k7⟩:=fj.on hb
  rcases yN.op with yL|H4
  case inr=>rw[H4] at he;exact(LH he).elim
  have W2:io.op.ev call (rE l E Vs S l.length) Hm= .ok (Vs j) Hn:=by
   rw[bE.Sx io.op (Kf (E':=Es j) IE)];exact he
  have Bb:=Kb (o:=o) yL hI.ar hI.r (by rw[k2,k4];exact Wa) (fun f ob p' hx yO=>by
   rw[k3] at yO
   refine U4 hb f ob (fun ls Fc=>p' ls ?_) hx yO
   rw[bE.QG io.op (Kf (E':=Es j) IE)];exact Fc) k1 (fun x hx=>by rw[k3];exact EE j (by omega) x (by rw[←k2];exact hx)) hc W2
  refine JL Bb fun cv w' hp=>?_
  obtain⟨ρ',hv,H5,Ba⟩:=hp
  have W3:gu (rC C0 Hs S l.length) Hm Hn=gu (rC C0 Hs S l.length) (Hs j) (Hs (j+1)):=by
   funext f;unfold gu;rw[k2,k3,k4,k5]
  refine hK _ _ ρ' ⟨?_,?_,hI.ext.U3 (Ext.wide (H5.mono fun f hf=>?_) ?_ ?_),fun f g x hx=>?_⟩
  ·refine AR.congr (E1:=kf (rE l E Vs S l.length) io.dst (Vs j)) (by rw[yN.dst];exact(hI.ar.mono H5.le).EB yN.lt hv) fun t=>?_
   rw[MD U hj OP t,G A]
  ·rw[show rC C0 Hs (ins S j) l.length=gu (rC C0 Hs S l.length) Hm Hn from funext fun f=>by rw[MF U hj MG f,W3]]
   exact Ba
  ·have t:=T.mz hc hr hm nx (i:=j+1) l.length (by omega) (by omega)
   rw[hN] at t
   exact Gt t f (k6 f hf)
  ·rw[k2,←h0];exact I 0 j (by omega) (by omega)
  ·rw[k4,←hN];exact I (j+1) l.length (by omega) (by omega)
  rcases H5.ji f g x hx with⟨g0,x0,e⟩|e
  ·exact(hI.ji f g0 x0 e).imp_right fun⟨k,h1,h2,h3⟩=>⟨k,h1,LJ k h2,h3⟩
  rw[k2,k4] at e
  exact .inr ⟨j,hj,by simp[ins],e⟩
end
theorem JD{p q:Nat→Bool}:∀(l:List Nat){j:Nat},j∈l→p j=true→q j=false→(∀i,q i=true→p i=true)→(l.filter q).length+1≤(l.filter p).length
 |[],_,A,_,_,_=>by cases A
 |x::r,j,A,hp,J,h=>by
  have le:(r.filter q).length≤(r.filter p).length:=by
   clear A
   induction r with
   |nil=>simp
   |cons y s I=>
    cases z:q y
    ·rw[z6 (by simp[z])]
     cases G:p y
     ·rw[z6 (by simp[G])];exact I
     rw[vO G];simp;omega
    rw[vO z,vO (h y z)];simp;exact I
  rcases List.mem_cons.1 A with rfl|A
  ·rw[z6 (by simp[J]),vO hp];simp;exact le
  have I:=JD r A hp J h
  cases z:q x
  ·rw[z6 (by simp[z])]
   cases G:p x
   ·rw[z6 (by simp[G])];exact I
   rw[vO G];simp;omega
  rw[vO z,vO (h x z)];simp;omega
def kq(gY:Array Bool):Nat→Bool:=fun i=>gY.getD i false
def Fe(gY:Array Bool)(n:Nat):Nat:=((List.range n).filter fun i=>!kq gY i).length
section
variable{P:Program}{call:eF}{nt:Nat}{ops:Array Oper}{l:List bt}{E E':Env}{H H':aB}{Es:Nat→Env}{Hs:Nat→aB}{Rs:Nat→List FP}{Wn:Nat→Bool}{Vs:Nat→an}{Fp:Nat→FP}
theorem QO{gY:Array Bool}{j:Nat}(z:j<gY.size):kq (gY.setIfInBounds j true)=ins (kq gY) j:=by
 funext i
 unfold kq ins
 by_cases h:i=j
 ·subst h;simp[z]
 rw[getD_set_ne false (Ne.symm h)];simp[h]
theorem Rh(A:uA P nt ops l){gY:Array Bool}(I:gY.size=l.length)(h:Region.ready .any ops gY=[]):∀i,i<l.length→kq gY i=true:=by
 intro i
 induction i using Nat.strongRecOn with
 |_ i J=>
  intro hi
  cases z:kq gY i with
  |true=>rfl
  |false=>
   obtain⟨o,ho⟩:∃o,ops[i]?=some o:=⟨_,wa (by rw[←A.len];exact hi)⟩
   have:i∈Region.ready .any ops gY:=by
    rw[mem_ready]
    refine⟨?_,o,ho,fun e he G=>J e.on (A.back i o e ho he G) (Nat.lt_trans (A.back i o e ho he G) hi)⟩
    unfold kq at z
    simp only[uK] at z⊢
    rw[wa (by rw[I];exact hi)] at z⊢
    simpa using z
   rw[h] at this;cases this
theorem U5(hc:kt P call)(Z:uA P nt ops l)(T:Trace call l E H [] E' H' Es Hs Rs Wn Vs Fp)
  (G:∀(i j:Nat)(x y:bt),i<j→l[i]?=some x→l[j]?=some y→x.q.isSome=true→y.q.isSome=true→kY ops i j∨w9 (Fp j) (Fp i))
  (hm:H.bc≤H.next) (nx:WF H) {ρ0:Ho} {C0:Nat→Option dP} {w0:World} (ID:j9 ρ0 C0 H) (Fa:ic ρ0 H.next H'.next) {Q:Exit→Act→World→Prop}
  (I:∀S a w ρ,(∀i,i<l.length→S i=true)→Inv P nt l E H H' Hs Vs ρ0 C0 w0 S a w ρ→Q .normal a w):
  ∀(fuel:Nat)(gY:Array Bool)(a:Act)(w:World)(ρ:Ho),gY.size=l.length→CG ops (kq gY)→Inv P nt l E H H' Hs Vs ρ0 C0 w0 (kq gY) a w ρ→Fe gY l.length≤fuel→
   wpAny P .any ops Q fuel gY a w:=by
 intro fuel
 induction fuel with
 |zero=>
  intro gY a w ρ K hC hI hu
  have all:∀i,i<l.length→kq gY i=true:=by
   intro i hi
   cases hl:kq gY i with
   |true=>rfl
   |false=>
    have:i∈(List.range l.length).filter fun i=>!kq gY i:=List.mem_filter.2 ⟨List.mem_range.2 hi,by simp[hl]⟩
    rw[sS (Nat.le_zero.1 hu)] at this;cases this
  refine⟨?_,I _ a w ρ all hI⟩
  cases J:Region.ready .any ops gY with
  |nil=>rfl
  |cons j r=>
   have hj:j∈Region.ready .any ops gY:=by rw[J];exact lh ..
   obtain⟨h0,o,ho,_⟩:=mem_ready.1 hj
   have z:j<l.length:=by rw[Z.len];exact(Array.getElem?_eq_some_iff.1 ho).1
   have:=all j z
   unfold kq at this
   simp only[uK] at h0 this
   rw[wa (by rw[K];exact z)] at h0 this
   simp at h0 this;rw[h0] at this;cases this
 |succ fuel ih=>
  intro gY a w ρ K hC hI hu
  refine⟨fun h=>I _ a w ρ (Rh Z K h) hI,fun j hj=>?_⟩
  obtain⟨h0,o,ho,J⟩:=mem_ready.1 hj
  have z:j<l.length:=by rw[Z.len];exact(Array.getElem?_eq_some_iff.1 ho).1
  have O:kq gY j=false:=by
   unfold kq
   simp only[uK] at h0⊢
   rw[wa (by rw[K];exact z)] at h0⊢
   simpa using h0
  have U:Hu ops (kq gY) j:=fun o' e A he hb=>by
   rw[ho] at A;cases A
   exact J e he hb
  have wg:=QO (gY:=gY) (j:=j) (by rw[K];exact z)
  refine Sz hc Z T G hm nx ID Fa hC z O U hI fun a' w' ρ' hI'=>?_
  refine ih _ a' w' ρ' (by simp[K]) ?_ (by rw[wg];exact hI') ?_
  ·rw[wg]
   intro k o' e A he hb hk
   unfold ins at hk⊢
   by_cases Y:k=j
   ·subst Y;simp[U o' e A he hb]
   simp[Y] at hk;simp[hC k o' e A he hb hk]
  have:=JD (p:=fun i=>!kq gY i) (q:=fun i=>!kq (gY.setIfInBounds j true) i) (List.range l.length) (List.mem_range.2 z) (by simp[O]) (by rw[wg];simp[ins]) (by
   intro i hi;rw[wg] at hi;simp[ins] at hi;simp[hi])
  have h2:Fe (gY.setIfInBounds j true) l.length+1≤Fe gY l.length:=this
  omega
theorem Inv.fin(hc:kt P call)(hr:uA P nt ops l)(T:Trace call l E H [] E' H' Es Hs Rs Wn Vs Fp)(hm:H.bc≤H.next)(J:WF H){ρ0 ρ:Ho}{C0:Nat→Option dP}{w0 w:World}(U:j9 ρ0 C0 H)(Fa:ic ρ0 H.next H'.next)
  {S:Nat→Bool} {a:Act} (G:∀i,i<l.length→S i=true) (hI:Inv P nt l E H H' Hs Vs ρ0 C0 w0 S a w ρ):AR P ρ nt E' a∧R ρ (gu C0 H H') w:=by
 have h0:Hs 0=H:=T.h0
 have hN:Hs l.length=H':=T.hN
 have z:∀i k,i≤k→k≤l.length→(Hs i).next≤(Hs k).next:=fun i k h1 h2=>(T.mz hc hr hm J k h1 h2).next
 refine⟨AR.congr hI.ar fun t=>?_,hI.r.weaken fun f o K hd=>?_⟩
 ·rw[←T.eN,T.env l.length (bY _)]
  exact CH t _ fun i hi Z=>absurd (G i hi).symm Z
 obtain⟨g,x,hx⟩:=hd
 have I:=hI.ji f g x hx
 have known:∀O,H'.t.get f=some O→rC C0 Hs S l.length f=some O:=by
  rw[←hN]
  refine Gc f (fun O A=>?_) _ (fun i hi Z=>by rw[G i hi] at Z;cases Z)
  rw[h0] at A
  rcases I with e|⟨k,hk,_,e1,e2⟩
  ·exact U f O e A
  have n1:=z 0 k (by omega) (by omega)
  rw[h0] at n1
  rw[J f (by omega)] at A;cases A
 unfold gu at K
 split at K
 ·exact known o K
 rename_i hn
 split at K
 ·rename_i he
  have hd0:∃g0 x0,ρ0 f g0=some x0:=by
   rcases I with e|⟨k,hk,_,e1,e2⟩
   ·exact e
   have n1:=z 0 k (by omega) (by omega)
   have n2:=z (k+1) l.length (by omega) (by omega)
   rw[h0] at n1;rw[hN] at n2
   omega
  cases hg:H.t.get f with
  |some O=>
   have:=U f O hd0 hg
   rw[K] at this;cases this
   exact known o (he.trans hg)
  |none=>
   have nn:∀i,i≤l.length→(Hs i).t.get f=none:=by
    intro i hi
    cases p9:(Hs i).t.get f with
    |none=>rfl
    |some o2=>
     have:=(T.mz hc hr hm J (i:=i) l.length hi (bY _)).iO f (by rw[p9];simp)
     rw[hN,he,hg] at this;exact absurd rfl this
   rw[zt (j:=0) f l.length (df _) fun k _ hk _ Y=>?_]
   ·exact K
   rcases Y with Y|Y
   ·have n1:=z 0 k (by omega) (by omega)
    have n2:=z (k+1) l.length (by omega) (by omega)
    rw[h0] at n1;rw[hN] at n2
    omega
   rw[nn k (by omega),nn (k+1) (by omega)] at Y;exact Y rfl
 exact known o K
theorem LK{ms:List Nat}{z:List bt}(G:l=o0 ms 0 [] z)(T:Trace call l E H [] E' H' Es Hs Rs Wn Vs Fp):∀n,n≤l.length→Rs n=(seenAt z n).map Fp
 |0,_=>T.r0
 |n+1,J=>by
  obtain⟨o,ho⟩:∃o,l[n]?=some o:=⟨_,eY (by omega)⟩
  rw[(T.step n o ho).2.2,LK G T n (by omega)]
  obtain⟨A,h0,_,_,_,I⟩:=ze (ms:=ms) (L:=z) z 0 (fun n=>by simp) n o (by rw[←ho,G];rfl)
  rw[jA] at h0 I
  unfold zc
  simp only[seenAt,h0]
  rw[I]
  cases mF A.op<;>rfl
theorem SA{ms:List Nat}{G:List bt}(U:l=o0 ms 0 [] G)(Y:∀j i,(ms.getD j 0).testBit i=true→kY ops i j)(T:Trace call l E H [] E' H' Es Hs Rs Wn Vs Fp)
  (i j:Nat) (x y:bt) (Z:i<j) (hx:l[i]?=some x) (hy:l[j]?=some y) (qx:x.q.isSome=true) (I:y.q.isSome=true):kY ops i j∨w9 (Fp j) (Fp i):=by
 have A7:j<l.length:=(List.getElem?_eq_some_iff.1 hy).1
 obtain⟨x0,J,_,_,_,A⟩:=ze (ms:=ms) (L:=G) G 0 (fun n=>by simp) i x (by rw[←hx,U];rfl)
 obtain⟨y0,IG,_,_,_,z⟩:=ze (ms:=ms) (L:=G) G 0 (fun n=>by simp) j y (by rw[←hy,U];rfl)
 rw[jA] at J IG A z
 have px:mF x0.op=false:=by
  cases h:mF x0.op
  ·rfl
  rw[h] at A;rw[A] at qx;cases qx
 have py:mF y0.op=false:=by
  cases h:mF y0.op
  ·rfl
  rw[h] at z;rw[z] at I;cases I
 rw[py] at z
 cases hb:(ms.getD j 0).testBit i
 case true=>exact .inl (Y _ _ hb)
 right
 obtain⟨n,hn⟩:=HL (JR J px j Z)
 have hp:=Jn hb (seenAt G j) 0 n hn
 rw[jA] at hp
 have hr:=LK U T j (by omega)
 generalize hWj:Wn j=wj at*
 generalize hVj:Vs j=vj at*
 have st:=(T.step j y hy).1
 have key:∀{b:Bool}{v:an}{fp:FP}{H1:aB},pQ call y (Es j) (Hs j) (Rs j) b v fp H1→w9 fp (Fp i):=by
  intro b v fp H1 st
  cases st with
  |skip hw K=>
   rw[K I]
   exact⟨fun _ h=>(by cases h),fun _ _=>⟨[],rfl,by simp⟩,fun _ h=>(by cases h),fun _ h=>(by cases h)⟩
  |plain hw K _=>rw[K] at I;cases I
  |marked hw K he ha=>
   rename_i q H2
   rw[K] at z
   simp at z
   subst z
   obtain⟨b,O,yJ⟩:=JB ha n hp
   rw[hr,iw,hn] at O
   cases O
   exact yJ
 exact key st
theorem Qk(Y:kt P call)(I:uA P nt ops l){ms:List Nat}{l0:List bt}(hl:l=o0 ms 0 [] l0)(Z:∀j i,(ms.getD j 0).testBit i=true→kY ops i j)(J:P.follows .mixedOrders=true)
  {ρ:Ho} {C:Nat→Option dP} {w:World} {a:Act} {id:Nat} {K:Act→World→Prop} {Q:Exit→Act→World→Prop} (h:lU call l E H []= .ok E' H') (hA:AR P ρ nt E a) (O:R ρ C w) (hK:j9 ρ C H) (hF:ic ρ H.next H'.next) (hm:H.bc≤H.next) (A:WF H)
  (G:qz P nt E' H H' C ρ w K) (hQ:∀a w,K a w→Q .normal a w):(Code.region id ops true).wp P Q a w:=by
 obtain⟨Es,Hs,Rs,Wn,Vs,Fp,T⟩:=KU l E H [] E' H' h
 have hnn:H.next≤H'.next:=by
  have:=(T.mz Y I hm A (i:=0) l.length (df _) (bY _)).next
  rw[T.h0,T.hN] at this;exact this
 refine wp_region_any J (U5 Y I T (SA hl Z T) hm A (ρ0:=ρ) (C0:=C) (w0:={w with drawn:=w.drawn+1}) hK hF (fun S a' w' ρ' U hI=>?_) ops.size _ a _ ρ (by simp[I.len]) ?_ ⟨?_,?_,?_,fun f g h e=>.inl ⟨g,h,e⟩⟩ ?_)
 ·obtain⟨k1,k2⟩:=hI.fin Y I T hm A hK hF U
  have he:=hI.ext
  exact hQ _ _ (G a' w' ρ' k1 ⟨he.le,he.ji,he.b8,he.frame,he.size,he.nn,he.os,he.tape,he.output⟩ k2 (BN hK he.ji))
 ·intro j o e ho he hb hj
  exact absurd hj (by unfold kq;by_cases z:j<ops.size<;>simp[uK,G5,z])
 ·refine AR.congr hA fun t=>?_
  rw[Ch (j:=0) t l.length (df _) fun k _ _ hk=>?_]
  ·rfl
  exact absurd hk (by unfold kq;by_cases z:k<ops.size<;>simp[uK,G5,z])
 ·have e:rC C Hs (kq (Array.replicate ops.size false)) l.length=C:=funext fun f=>by
   rw[zt (j:=0) f l.length (df _) fun k _ _ hk=>?_]
   ·rfl
   exact absurd hk (by unfold kq;by_cases z:k<ops.size<;>simp[uK,G5,z])
  rw[e]
  exact⟨fun f o ho g x hx=>(O.obj f o ho g x hx).iO (Ho.le_refl _) rfl,O.nT,O.jZ,O.uniq,O.mB⟩
 ·exact(Ext.refl _ H.next ρ _).wide (bY _) hnn
 unfold Fe
 refine jT (List.length_filter_le _ _) ?_
 simp[I.len]
end
def guardOf(ops:Array Oper):Option (Nat×Bool)→Option (Option (Key×Bool))
 |none=>some none
 |some (j,want)=>match(ops[j]?).bind (·.dst) with|some d=>if d<1296 then some (some (pk d,want)) else none|none=>none
def Hv(nt:Nat):Option Nat→Bool
 |some d=>decide (d<nt)&&decide (d<1296)
 |none=>true
def D7(P:Program)(o:Op):bE:=match AN P o with|some io=>io|none=>A4
def Hw(P:Program)(nt:Nat)(ops:Array Oper)(o:Oper):Option bt:=
 match guardOf ops o.guard with
 |none=>none
 |some g=>if Hv nt o.dst=true then some {dst:=o.dst.map pk,g:=g,q:=none,op:=D7 P o.op} else none
def CI(P:Program)(nt:Nat)(ops:Array Oper):List Oper→Option (List bt)
 |[]=>some []
 |o::r=>match Hw P nt ops o,CI P nt ops r with
  |some a,some l=>some (a::l)
  |_,_=>none
def Ao:IC:=.region false [{dst:=none,g:=none,q:=none,op:=A4}]
def KV(P:Program)(nt:Nat)(ops:Array Oper)(draw:Bool):IC:=
 match CI P nt ops ops.toList with
 |none=>Ao
 |some l=>
  if draw then
   let ms:=wN ops.toList []
   if B1 0 ops.toList&&MC ms l then .region true (o0 ms 0 [] l) else Ao
  else .region false l
def lk(P:Program)(nt:Nat):Code→IC
 |.skip=>.skip
 |.region _ ops draw=>KV P nt ops draw
 |.seq a b=>.seq (lk P nt a) (lk P nt b)
 |.cond c a b=>match de P c with
  |some y=>.cond y (lk P nt a) (lk P nt b)
  |none=>Ao
 |.block id b=>.block id (lk P nt b)
 |.loop b=>.loop (lk P nt b)
 |.exit id=>.exit id
 |.ret=>.ret
 |_=>Ao
def na(P:Program):List ResultVar→Option (List lJ)
 |[]=>some []
 |.tmp t::r=>match na P r with|some l=>if t<1296 then some (.tmp (pk t)::l) else none|none=>none
 |.cell a t::r=>match na P r,jw P t with|some l,some n=>if a<1296 then some (.cell (pk a) n (pJ P t)::l) else none|_,_=>none
def uO(P:Program)(fn:Func):Option bA:=
 match fn.body,na P fn.results.toList with
 |some c,some rs=>if fn.params.size+fn.nfree≤fn.ntmps∧fn.params.size+fn.nfree≤1296∧(fn.name== "runtime.NumGoroutine")=false then some {nt:=fn.ntmps,ps:=(List.range (fn.params.size+fn.nfree)).map pk,res:=rs,body:=lk P fn.ntmps c} else none
 |_,_=>none
section
variable{P:Program}{nt:Nat}{ops:Array Oper}
theorem SB{o:Oper}{io:bt}(h:Hw P nt ops o=some io):yq P nt ops o io:=by
 unfold Hw at h
 cases z:guardOf ops o.guard with
 |none=>rw[z] at h;cases h
 |some g=>
  rw[z] at h
  dsimp only at h
  split at h
  ·rename_i A
   cases h
   refine⟨?_,fun d e=>?_,?_,?_⟩
   ·show o.dst=(o.dst.map pk).map Key.n
    cases ho:o.dst with
    |none=>rfl
    |some d=>
     rw[ho] at A
     simp only[Hv,eZ,eV] at A
     simp only[sA,wb A.2]
   ·have e:o.dst.map pk=some d:=e
    cases ho:o.dst with
    |none=>rw[ho] at e;cases e
    |some x=>
     rw[ho] at A e
     simp only[Hv,eZ,eV] at A
     cases e
     rw[wb A.2]
     exact A.1
   ·cases h0:o.guard with
    |none=>rw[h0] at z;cases z;exact .inl ⟨rfl,rfl⟩
    |some K=>
     obtain⟨j,want⟩:=K
     rw[h0] at z
     unfold guardOf at z
     split at z
     ·rename_i G;cases G
     rename_i O I G
     cases G
     split at z
     ·rename_i d A
      split at z
      ·rename_i J
       cases z
       exact .inr ⟨j,want,pk d,rfl,by rw[wb J];exact A,rfl⟩
      cases z
     cases z
   show AN P o.op=some (D7 P o.op)∨D7 P o.op=A4
   unfold D7
   split
   ·rename_i io h;exact .inl h
   exact .inr rfl
  cases h
theorem Kg:∀{os:List Oper}{l:List bt},CI P nt ops os=some l→l.length=os.length∧∀(i:Nat)(o:Oper)(io:bt),os[i]?=some o→l[i]?=some io→yq P nt ops o io
 |[],l,h=>by cases h;exact⟨rfl,fun i o io h=>by simp at h⟩
 |o::r,l,h=>by
  unfold CI at h
  split at h
  ·rename_i a I G h2
   cases h
   obtain⟨e,k⟩:=Kg h2
   refine⟨by simp[e],fun i x io A z=>?_⟩
   cases i with
   |zero=>simp at A z;subst A;subst z;exact SB G
   |succ i=>exact k i x io (by simpa using A) (by simpa using z)
  cases h
def OR:Ex→Exit
 |.normal=>.normal
 |.exit id=>.exit id
 |.ret=>.ret
theorem FA{r:Out}{k:Env→aB→Out}{x:Ex}{E':Env}{H':aB}(h:tz r k= .ok x E' H'):
  ∃y E1 H1,r= .ok y E1 H1∧((y= .normal∧k E1 H1= .ok x E' H')∨(y≠.normal∧y=x∧E1=E'∧H1=H')):=by
 cases r with
 |err n=>cases h
 |ok y E1 H1=>
  refine⟨y,E1,H1,rfl,?_⟩
  cases y with
  |normal=>exact .inl ⟨rfl,h⟩
  |exit id=>cases h;exact .inr ⟨by simp,rfl,rfl,rfl⟩
  |ret=>cases h;exact .inr ⟨by simp,rfl,rfl,rfl⟩
theorem CJ{r:eD}{x:Ex}{E':Env}{H':aB}(h:yD r= .ok x E' H'):x= .normal∧r= .ok E' H':=by
 cases r with
 |err n=>cases h
 |ok E H=>cases h;exact⟨rfl,rfl⟩
theorem pQ.mz{call:eF}(A:kt P call){o:bt}{E:Env}{H:aB}{bS:List FP}{b:Bool}{v:an}{fp:FP}{H1:aB}(z:H.bc≤H.next)(h:pQ call o E H bS b v fp H1):gk H H1:=by
 cases h with
 |skip=>exact gk.refl _
 |plain _ _ he=>exact TM.ins z (fun f a=>A.mz f a H z) E o.op v _ he
 |marked _ _ he _=>exact(TM.ins (H:=H.mark) (bY _) (fun f a=>A.mz f a _ (bY _)) E o.op v _ he).xr z
theorem JE{call:eF}(z:kt P call):∀(l:List bt)(E:Env)(H:aB)(bS:List FP)(E':Env)(H':aB),H.bc≤H.next→lU call l E H bS= .ok E' H'→gk H H'
 |[],E,H,bS,E',H',_,h=>by cases h;exact gk.refl _
 |o::r,E,H,bS,E',H',A,h=>by
  obtain⟨b,v,fp,H1,G,h2⟩:=KT (show o.m9 call E H bS (lU call r)= .ok E' H' from h)
  have t1:=G.mz z A
  exact t1.trans (JE z r _ _ _ _ _ (by rw[t1.bc];exact jT A t1.next) h2)
def TF(f:Env→aB→Out):Prop:=∀E H x E' H',H.bc≤H.next→f E H= .ok x E' H'→gk H H'
theorem TF.seq{f g:Env→aB→Out}(A:TF f)(G:TF g):TF fun E H=>tz (f E H) g:=by
 intro E H x E' H' z h
 obtain⟨y,E1,H1,I,h2⟩:=FA h
 have t1:=A _ _ _ _ _ z I
 rcases h2 with⟨_,h2⟩|⟨_,_,_,e⟩
 ·exact t1.trans (G _ _ _ _ _ (by rw[t1.bc];exact jT z t1.next) h2)
 exact e▸t1
theorem TF.loop{f:Env→aB→Out}(z:TF f):∀n,TF (uv f n)
 |0=>fun _ _ _ _ _ _ h=>by cases h
 |n+1=>TF.seq z (TF.loop z n)
theorem KW{c:aG}{i j:IC}{f g:Env→aB→Out}{E E':Env}{H H':aB}{x:Ex}(h:Hj c i j f g E H= .ok x E' H'):∃t,c.ev E=some (.bool t)∧(if t then f E H else g E H)= .ok x E' H':=by
 unfold Hj at h
 cases z:c.ev E with
 |none=>rw[z] at h;cases h
 |some v=>
  rw[z] at h
  cases v<;>try(cases h;done)
  rename_i t
  refine⟨t,rfl,?_⟩
  cases t<;>exact h
theorem Kh{id:Nat}{i:IC}{f:Env→aB→Out}{E E':Env}{H H':aB}{x:Ex}(h:zP id i f E H= .ok x E' H'):
  ∃y,f E H= .ok y E' H'∧((y= .normal∧x= .normal)∨(y= .exit id∧x= .normal)∨(∃z,z≠id∧y= .exit z∧x= .exit z)∨(y= .ret∧x= .ret)):=by
 unfold zP at h
 cases A:f E H with
 |err n=>rw[A] at h;cases h
 |ok y E1 H1=>
  rw[A] at h
  cases y with
  |normal=>cases h;exact⟨_,rfl,.inl ⟨rfl,rfl⟩⟩
  |ret=>cases h;exact⟨_,rfl,.inr (.inr (.inr ⟨rfl,rfl⟩))⟩
  |exit z=>
   have h:aH (Nat.beq z id) (Out.ok .normal E1 H1) (.ok (.exit z) E1 H1)= .ok x E' H':=h
   by_cases he:z=id
   ·subst he
    rw[show Nat.beq z z=true from iX z] at h
    cases h;exact⟨_,rfl,.inr (.inl ⟨rfl,rfl⟩)⟩
   have e:Nat.beq z id=false:=by
    cases G:Nat.beq z id
    ·rfl
    exact absurd (dZ G) he
   rw[e] at h
   cases h;exact⟨_,rfl,.inr (.inr (.inl ⟨z,he,rfl,rfl⟩))⟩
theorem qQ{call:eF}{lf:Nat}(z:kt P call):∀c:IC,TF (c.ev call lf)
 |.skip=>fun _ _ _ _ _ _ h=>by cases h;exact gk.refl _
 |.region d ops=>fun E H x E' H' A h=>by
  cases d with
  |false=>exact BH z ops E H E' H' A (CJ h).2
  |true=>exact JE z ops E H [] E' H' A (CJ h).2
 |.seq a b=>TF.seq (qQ z a) (qQ z b)
 |.cond c a b=>fun E H x E' H' A h=>by
  obtain⟨t,_,h⟩:=KW (i:=a) (j:=b) (f:=a.ev call lf) (g:=b.ev call lf) h
  cases t
  ·exact qQ z b _ _ _ _ _ A h
  exact qQ z a _ _ _ _ _ A h
 |.block id b=>fun E H x E' H' A h=>by
  obtain⟨y,h,_⟩:=Kh (i:=b) (f:=b.ev call lf) h
  exact qQ z b _ _ _ _ _ A h
 |.loop b=>TF.loop (qQ z b) lf
 |.exit id=>fun _ _ _ _ _ _ h=>by cases h;exact gk.refl _
 |.ret=>fun _ _ _ _ _ _ h=>by cases h;exact gk.refl _
variable{ρ:Ho}{E E':Env}{H H' H1:aB}{C:Nat→Option dP}{w:World}{a:Act}{call:eF}{lf:Nat}
theorem qz.step(Y:j9 ρ C H)(t1:gk H H1)(t2:gk H1 H'){K:Act→World→Prop}(z:qz P nt E' H H' C ρ w K){A:Ho}{Z:World}(G:Ext (Wr H1) H.next H1.next ρ A w Z):qz P nt E' H1 H' (gu C H H1) A Z K:=
 fun a2 w2 I J O U _=>by
  have h2:=(G.mono (Gt t2)).trans O
  exact z a2 w2 I J h2 (U.weaken fun f o h hf=>Kc Y t1.next t2.next t2.iO h2.ji f o h hf) (BN Y h2.ji)
theorem qz.refl{K:Act→World→Prop}(A:AR P ρ nt E a)(G:R ρ C w)(I:j9 ρ C H)(z:qz P nt E H H C ρ w K):K a w:=by
 refine z a w ρ A (Ext.refl _ _ _ _) ?_ ?_
 ·rw[pw];exact G
 rw[pw];exact I
theorem tu{x:Ex}(h:Ao.ev call lf E H= .ok x E' H'):False:=by cases h
def zR(P:Program)(nt:Nat)(c:Code)(f:Env→aB→Out):Prop:=
 ∀E H x E' H' ρ C a w Q,f E H= .ok x E' H'→AR P ρ nt E a→R ρ C w→j9 ρ C H→ic ρ H.next H'.next→H.bc≤H.next→WF H→qz P nt E' H H' C ρ w (Q (OR x))→c.wp P Q a w
theorem zR.rounds{c:Code}{f:Env→aB→Out}(J:zR P nt c f)(K:TF f):∀n E H x E' H' ρ C a w(Q:Exit→Act→World→Prop),uv f n E H= .ok x E' H'→AR P ρ nt E a→R ρ C w→j9 ρ C H→ic ρ H.next H'.next→H.bc≤H.next→WF H→
  qz P nt E' H H' C ρ w (Q (OR x))→Code.rounds P c Q n a w
 |0,_,_,_,_,_,_,_,_,_,_,h,_,_,_,_,_,_,_=>by cases h
 |n+1,E,H,x,E',H',ρ,C,a,w,Q,h,hA,hR,O,U,I,z,Y=>by
  rw[rounds_succ]
  obtain⟨y,E1,H1,Z,h2⟩:=FA (k:=uv f n) h
  have t1:=K _ _ _ _ _ I Z
  have A:H1.bc≤H1.next:=by rw[t1.bc];exact jT I t1.next
  rcases h2 with⟨rfl,h2⟩|⟨hy,rfl,rfl,rfl⟩
  ·have t2:=TF.loop K n _ _ _ _ _ A h2
   exact J E H _ E1 H1 ρ C a w _ Z hA hR O (U.le t2.next) I z fun a1 w1 ρ1 IH G II Bd=>(zR.rounds J K n E1 H1 x E' H' ρ1 _ a1 w1 Q h2 IH II Bd (U.sub G.ji t1.next) A (t1.wf z) (Y.step O t1 t2 G))
  refine J E H _ E1 H1 ρ C a w _ Z hA hR O U I z ?_
  cases y with
  |normal=>exact absurd rfl hy
  |exit id=>exact Y
  |ret=>exact Y
theorem vg(hc:kt P call)(G:P.follows .mixedOrders=true):∀c:Code,zR P nt c ((lk P nt c).ev call lf)
 |.skip=>fun E H x E' H' ρ C a w Q h I U J Z Y z A=>by
  cases h
  exact wp_skip (A.refl I U J)
 |.exit id=>fun E H x E' H' ρ C a w Q h I U J Z Y z A=>by
  cases h
  exact wp_exit (A.refl I U J)
 |.ret=>fun E H x E' H' ρ C a w Q h I U J Z Y z A=>by
  cases h
  exact wp_ret (A.refl I U J)
 |.seq c d=>fun E H x E' H' ρ C a w Q h I U J Z Y z A=>by
  have yP:=vg hc G c
  have hd:=vg hc G d
  obtain⟨y,E1,H1,h1,h2⟩:=FA (k:=(lk P nt d).ev call lf) h
  have t1:=qQ hc (lk P nt c) _ _ _ _ _ Y h1
  have s7:H1.bc≤H1.next:=by rw[t1.bc];exact jT Y t1.next
  refine wp_seq ?_
  rcases h2 with⟨rfl,h2⟩|⟨hy,rfl,rfl,rfl⟩
  ·have t2:=qQ hc (lk P nt d) _ _ _ _ _ s7 h2
   exact yP E H _ E1 H1 ρ C a w _ h1 I U J (Z.le t2.next) Y z fun a1 w1 ρ1 IH u6 II Bd=>(hd E1 H1 x E' H' ρ1 _ a1 w1 Q h2 IH II Bd (Z.sub u6.ji t1.next) s7 (t1.wf z) (A.step J t1 t2 u6))
  refine yP E H _ E1 H1 ρ C a w _ h1 I U J Z Y z ?_
  cases y with
  |normal=>exact absurd rfl hy
  |exit id=>exact A
  |ret=>exact A
 |.cond c d e=>fun E H x E' H' ρ C a w Q h I U J Z Y z A=>by
  unfold lk at h
  split at h
  ·rename_i y hy
   obtain⟨t,h1,h2⟩:=KW (i:=lk P nt d) (j:=lk P nt e) (f:=(lk P nt d).ev call lf) (g:=(lk P nt e).ev call lf) h
   have k:=I.b9 hy h1
   simp only[VR] at k
   refine wp_cond (t:=t) k ?_
   cases t
   ·exact vg hc G e E H x E' H' ρ C a w Q h2 I U J Z Y z A
   exact vg hc G d E H x E' H' ρ C a w Q h2 I U J Z Y z A
  exact(tu h).elim
 |.block id c=>fun E H x E' H' ρ C a w Q h I U J Z Y z A=>by
  obtain⟨y,h1,h2⟩:=Kh (i:=lk P nt c) (f:=(lk P nt c).ev call lf) h
  refine wp_block (vg hc G c E H y E' H' ρ C a w _ h1 I U J Z Y z ?_)
  rcases h2 with⟨rfl,rfl⟩|⟨rfl,rfl⟩|⟨id',lp,rfl,rfl⟩|⟨rfl,rfl⟩
  ·exact A
  ·intro a1 w1 ρ1 b1 b2 b3 b4
   show Exit.inBlock id Q (.exit id) a1 w1
   simp only[Exit.inBlock,if_true]
   exact A a1 w1 ρ1 b1 b2 b3 b4
  ·intro a1 w1 ρ1 b1 b2 b3 b4
   show Exit.inBlock id Q (.exit id') a1 w1
   simp only[Exit.inBlock,aj lp]
   exact A a1 w1 ρ1 b1 b2 b3 b4
  exact A
 |.loop c=>fun E H x E' H' ρ C a w Q h I U J Z Y z A=>
  wp_loop_rounds lf (zR.rounds (vg hc G c) (qQ hc _) lf E H x E' H' ρ C a w Q h I U J Z Y z A)
 |.region id ops draw=>fun E H x E' H' ρ C a w Q h I U J Z Y z A=>by
  unfold lk KV at h
  split at h
  ·exact(tu h).elim
  rename_i l hl
  obtain⟨hlen,yL⟩:=Kg hl
  cases draw with
  |false=>
   simp only[pU,if_false] at h
   obtain⟨rfl,hz⟩:=CJ (r:=mJ call l E H) h
   refine wp_region ?_
   rw[show ops.size=l.length by rw[hlen];simp,List.range_eq_range']
   exact JA hc (K:=Q .normal) l ops.toList 0 hlen.symm yL (fun i o h=>by simpa using h) E H E' H' ρ C a w hz I U J Z Y z A (fun _ _ h=>h)
  |true=>
   simp only[if_true] at h
   split at h
   ·rename_i IJ
    simp only[eZ] at IJ
    obtain⟨rfl,hz⟩:=CJ (r:=lU call (o0 (wN ops.toList []) 0 [] l) E H []) h
    have PB:=Jm (ops:=ops) ops.toList [] (fun n=>by simp) (fun j i h=>by simp at h)
    have get:∀{i:Nat}{io:bt},(o0 (wN ops.toList []) 0 [] l)[i]?=some io→∃O,l[i]?=some O∧io.dst=O.dst∧io.g=O.g∧io.op=O.op∧(io.q=none→mF io.op=true):=by
     intro i io Bc
     obtain⟨O,h0,h1,h2,h3,h4⟩:=ze (ms:=wN ops.toList []) (L:=l) l 0 (fun n=>by simp) i io Bc
     rw[jA] at h0
     refine⟨O,h0,h1,h2,h3,fun hq=>?_⟩
     rw[hq] at h4
     rw[h3]
     cases hp:mF O.op
     ·rw[hp] at h4;simp at h4
     rfl
    refine Qk hc ⟨?_,?_,?_,?_,?_⟩ rfl PB G hz I U J Z Y z A (fun _ _ h=>h)
    ·rw[Jo,hlen];simp
    ·intro i o io ho Bc
     obtain⟨O,h0,h1,h2,h3,_⟩:=get Bc
     have k:=yL i o O (by simpa using ho) h0
     exact⟨by rw[h1];exact k.dst,fun d hd=>k.lt d (by rw[←h1];exact hd),by rw[h2];exact k.g,by rw[h3];exact k.op⟩
    ·intro j o e ho he hb
     have:=JC ops.toList 0 IJ.1 j o e (by simpa using ho) he hb
     omega
    ·intro i j x y hij hx hy
     obtain⟨x0,hx0,a1,a2,a3,_⟩:=get hx
     obtain⟨y0,IG,b1,b2,b3,_⟩:=get hy
     rcases RW IJ.2 hij hx0 IG with k|k
     ·exact .inl (PB _ _ k)
     refine .inr ⟨fun t A=>?_,fun t A=>?_,fun t A=>?_⟩
     ·rw[a1];exact k.xy t (by unfold sf at A⊢;rw[←b2,←b3];exact A)
     ·rw[a1];exact k.dd t (by rw[←b1];exact A)
     rw[b1];exact k.yx t (by unfold sf at A⊢;rw[←a2,←a3];exact A)
    intro i x hx hq
    obtain⟨_,_,_,_,_,k⟩:=get hx
    exact k hq
   exact(tu h).elim
 |.rangeFunc ..=>fun E H x E' H' ρ C a w Q h _ _ _ _ _ _ _=>(tu h).elim
 |.scope _=>fun E H x E' H' ρ C a w Q h _ _ _ _ _ _ _=>(tu h).elim
 |.label _=>fun E H x E' H' ρ C a w Q h _ _ _ _ _ _ _=>(tu h).elim
 |.goto _=>fun E H x E' H' ρ C a w Q h _ _ _ _ _ _ _=>(tu h).elim
 |.refuse _=>fun E H x E' H' ρ C a w Q h _ _ _ _ _ _ _=>(tu h).elim
end
end Go.Ev
