/- Part 6 of rules for walks through the code of a program, and of such walks; what each part proves is said by its theorems. -/
import Derived.Test.YtddbkonalipepaaGreatDoorS5
import Derived.LoopN
set_option linter.unusedVariables false
set_option linter.unusedSimpArgs false
namespace Go.Ev
def PS(H:az)(r:aD):Prop:=∀v H',r= .ok v H'→H'=H
theorem PS.err{H:az}{n:Nat}:PS H (.err n):=fun _ _ h=>by cases h
theorem PS.ok{H:az}{v:an}:PS H (.ok v H):=fun _ _ h=>by cases h;rfl
theorem PS.aH{H:az}{b:Bool}{k e:aD}(h:PS H k)(h':PS H e):PS H (aH b k e):=by cases b;exact h';exact h
theorem PS.ob{H:az}{α:Type}{o:Option α}{e:aD}{k:α→aD}(h:∀x,PS H (k x))(h':PS H e):PS H (ob o e k):=by cases o;exact h';exact h _
theorem PS.bA{H:az}{x:aF}{E:Env}{e:aD}{k:an→aD}(h:∀x,PS H (k x))(h':PS H e):PS H (bA x E e k):=by
 cases x with
 |t i=>exact PS.ob (o:=E.get i) h h'
 |c a=>exact h a
theorem PS.r4{H:az}{a:an}{e:aD}{k:Bool→aD}(h:∀x,PS H (k x))(h':PS H e):PS H (r4 a e k):=by cases a<;>first|exact h'|exact h _
theorem PS.gN{H:az}{a:an}{e:aD}{k:IntKind→Int→aD}(h:∀x y,PS H (k x y))(h':PS H e):PS H (gN a e k):=by cases a<;>first|exact h'|exact h _ _
theorem PS.jQ{H:az}{a:an}{e:aD}{k:Nat→Nat→aD}(h:∀x y,PS H (k x y))(h':PS H e):PS H (jQ a e k):=by cases a<;>first|exact h'|exact h _ _
theorem PS.iv{H:az}{a:an}{e:aD}{k:Nat→Nat→Nat→aD}(h:∀x y z,PS H (k x y z))(h':PS H e):PS H (iv a e k):=by cases a<;>first|exact h'|exact h _ _ _
theorem PS.gU{H:az}{a:an}{e e2:aD}{k:Nat→Nat→Nat→Nat→Nat→aD}(h:∀x y z u w,PS H (k x y z u w))(h2:PS H e2)(h':PS H e):PS H (gU a e e2 k):=by cases a<;>first|exact h'|exact h2|exact h _ _ _ _ _
theorem PS.oT{H:az}{a:an}{e:aD}{k:List an→aD}(h:∀x,PS H (k x))(h':PS H e):PS H (oT a e k):=by cases a<;>first|exact h'|exact h _
theorem PS.rR{H:az}{a:an}{e:aD}{k:List an→aD}(h:∀x,PS H (k x))(h':PS H e):PS H (rR a e k):=by cases a<;>first|exact h'|exact h _
theorem PS.tD{H:az}{a:an}{e:aD}{k:Nat→List an→List an→aD}(h:∀x y z,PS H (k x y z))(h':PS H e):PS H (tD a e k):=by cases a<;>first|exact h'|exact h _ _ _
theorem PS.jd{H:az}{i:Int}{e:aD}{k:Nat→aD}(h:∀x,PS H (k x))(h':PS H e):PS H (jd i e k):=by cases i;exact h _;exact h'
theorem PS.idx{H:az}{a:an}{n:Nat}{e:aD}{k:Nat→aD}(h:∀x,PS H (k x))(h':PS H e):PS H (idx a n e k):=PS.gN (fun _ _=>PS.jd (fun _=>PS.aH (h _) h') h') h'
theorem PS.gQ{H:az}{E:Env}{x:Option aF}{d y:Nat}{e:aD}{k:Nat→aD}(h:∀x,PS H (k x))(h':PS H e):PS H (gQ E x d y e k):=by
 cases x with
 |none=>exact h _
 |some z=>exact PS.ob (fun _=>PS.gN (fun _ _=>PS.jd (fun _=>PS.aH (h _) h') h') h') h'
theorem PS.iU{H:az}{o:Option dP}{e:aD}{k:Nat→Nat→Nat→Nat→Nat→Nat→RT→aD}(h:∀a b c d e f g,PS H (k a b c d e f g))(h':PS H e):PS H (iU o e k):=by
 cases o with
 |none=>exact h'
 |some o=>cases o with
  |row=>exact h _ _ _ _ _ _ _
  |map=>exact h'
theorem PS.iG{H:az}{agg:Bool}{l:List an}{e:aD}{k:an→aD}(h:∀x,PS H (k x))(h':PS H e):PS H (iG agg l e k):=by
 refine PS.aH (h _) ?_
 cases l with
 |nil=>exact h'
 |cons x r=>cases r with
  |nil=>exact h _
  |cons=>exact h'
theorem PS.dp{H:az}{n:Nat}{k:Nat→aD}(h:∀x,PS H (k x)):PS H (dp n k):=by rw[iq];exact h _
theorem PS.kV{H:az}{n:Int}{k:Int→aD}(h:∀x,PS H (k x)):PS H (kV n k):=by rw[rJ];exact h _
theorem PS.mB{H:az}{n:an}{k:an→aD}(h:∀x,PS H (k x)):PS H (mB n k):=by rw[ta];exact h _
theorem PS.mZ{H:az}{n:Bool}{k:Bool→aD}(h:∀x,PS H (k x)):PS H (mZ n k):=by cases n<;>exact h _
theorem RF{call:eC}{H:az}{E:Env}{o:bE}(hp:mC o=true):PS H (o.ev call E H):=by
 cases o with
 |nV x=>exact PS.bA (fun _=>PS.ok) PS.err
 |pick c a b=>exact PS.bA (fun _=>PS.r4 (fun _=>PS.aH (PS.bA (fun _=>PS.ok) PS.err) (PS.bA (fun _=>PS.ok) PS.err)) PS.err) PS.err
 |ca a b c d=>cases hp
 |box a b c d=>cases hp
 |load a b c=>cases hp
 |store a b c=>cases hp
 |bin op x y=>exact PS.bA (fun _=>PS.bA (fun _=>by rw[Cf];exact PS.ob (fun _=>PS.mB fun _=>PS.ok) PS.err) PS.err) PS.err
 |eqv c n x y=>exact PS.bA (fun _=>PS.bA (fun _=>PS.ob (fun _=>PS.mZ fun _=>PS.ok) PS.err) PS.err) PS.err
 |un op x=>exact PS.bA (fun _=>PS.ob (fun _=>PS.mB fun _=>PS.ok) PS.err) PS.err
 |nQ x k=>exact PS.bA (fun _=>PS.iv (fun _ _ _=>PS.dp fun _=>PS.ok) PS.err) PS.err
 |sub x a b c=>exact PS.bA (fun _=>PS.oT (fun _=>PS.aH (PS.iG (fun _=>PS.ok) PS.err) PS.err) PS.err) PS.err
 |lr a b x i=>exact PS.bA (fun _=>PS.iv (fun _ _ _=>PS.bA (fun _=>PS.idx (fun _=>PS.dp fun _=>PS.ok) PS.err) PS.err) PS.err) PS.err
 |fm a x i=>exact PS.bA (fun _=>PS.gU (fun _ _ _ _ _=>PS.bA (fun _=>PS.idx (fun _=>PS.dp fun _=>PS.ok) PS.err) PS.err) PS.err PS.err) PS.err
 |zF a b c x i=>exact PS.bA (fun _=>PS.oT (fun _=>PS.bA (fun _=>PS.idx (fun _=>PS.aH (PS.iG (fun _=>PS.ok) PS.err) PS.err) PS.err) PS.err) PS.err) PS.err
 |rZ x i=>exact PS.bA (fun _=>PS.jQ (fun _ _=>PS.bA (fun _=>PS.idx (fun _=>PS.dp fun _=>PS.ok) PS.err) PS.err) PS.err) PS.err
 |iM x a b=>exact PS.bA (fun _=>PS.jQ (fun _ _=>PS.gQ (fun _=>PS.gQ (fun _=>PS.dp fun _=>PS.dp fun _=>PS.ok) PS.err) PS.err) PS.err) PS.err
 |AD n x a b=>exact PS.bA (fun _=>PS.gU (fun _ _ _ _ _=>PS.aH (PS.gQ (fun _=>PS.gQ (fun _=>PS.dp fun _=>PS.dp fun _=>PS.ok) PS.err) PS.err) PS.err) (PS.gQ (fun _=>PS.gQ (fun _=>PS.ok) PS.err) PS.err) PS.err) PS.err
 |vR k n x a b=>cases hp
 |ri x i=>exact PS.bA (fun _=>PS.rR (fun _=>PS.ob (fun _=>PS.ok) PS.err) PS.err) PS.err
 |oR x=>exact PS.bA (fun _=>PS.aH PS.ok PS.err) PS.err
 |nR f z l=>exact PS.ob (fun _=>PS.ob (fun _=>PS.ok) PS.err) PS.err
 |uJ t x=>exact PS.bA (fun _=>PS.ok) PS.err
 |yg a b c d e f=>cases hp
 |build a b=>exact PS.ob (fun _=>PS.ok) PS.err
 |cY a b c d e f=>cases hp
 |len x=>exact PS.bA (fun _=>PS.gU (fun _ _ _ _ _=>PS.ok) PS.ok PS.err) PS.err
 |AE n=>exact PS.ok
 |o3 x=>exact PS.bA (fun _=>PS.jQ (fun _ _=>PS.ok) PS.err) PS.err
 |app a b c x y=>cases hp
 |tC a x y=>cases hp
 |copy a b c=>cases hp
 |zG a b c=>exact PS.bA (fun _=>PS.gN (fun _ _=>PS.ob (fun _=>PS.ob (fun _=>PS.ok) PS.err) PS.err) PS.err) PS.err
 |conv k x=>exact PS.bA (fun _=>PS.gN (fun _ _=>PS.kV fun _=>PS.ok) PS.err) PS.err
 |Cx x=>exact PS.bA (fun _=>PS.ok) PS.err
 |xi e x=>cases hp
 |qS x=>cases hp
 |call f l=>cases hp
 |mF x l=>cases hp
 |qn t n x=>cases hp
 |uS x=>exact PS.bA (fun _=>PS.gU (fun _ _ _ _ _=>PS.aH PS.err PS.ok) PS.ok PS.err) PS.err
 |qu e x n=>cases hp
theorem Q3{E:Env}{o:bE}(hp:mC o=true):o.reads E=some []:=by
 cases o<;>first|rfl|cases hp
inductive kX(ops:Array Oper):Nat→Nat→Prop
 |Ez {j:Nat} {o:Oper} {e:Edge}:ops[j]?=some o→e∈o.after→Region.binds .any e=true→kX ops e.on j
 |step {i k j:Nat}:kX ops i k→kX ops k j→kX ops i j
def CG(ops:Array Oper)(S:Nat→Bool):Prop:=∀j o e,ops[j]?=some o→e∈o.after→Region.binds .any e=true→S j=true→S e.on=true
def Hg(ops:Array Oper)(S:Nat→Bool)(j:Nat):Prop:=∀o e,ops[j]?=some o→e∈o.after→Region.binds .any e=true→S e.on=true
theorem kX.closed{ops:Array Oper}{S:Nat→Bool}(G:CG ops S){i j:Nat}(h:kX ops i j):S j=true→S i=true:=by
 induction h with
 |Ez I h2 J=>exact fun h=>G _ _ _ I h2 J h
 |step _ _ z A=>exact fun h=>z (A h)
theorem kX.ready{ops:Array Oper}{S:Nat→Bool}(G:CG ops S){i j:Nat}(h:kX ops i j):Hg ops S j→S i=true:=by
 induction h with
 |Ez z h2 I=>exact fun h=>h _ _ z h2 I
 |step z _ _ A=>exact fun h=>z.closed G (A h)
def yL(ms:List Nat):List Edge→Nat
 |[]=>0
 |e::r=>if Region.binds .any e=true then 2^e.on|||ms.getD e.on 0|||yL ms r else yL ms r
def wL:List Oper→List Nat→List Nat
 |[],ms=>ms
 |o::r,ms=>wL r (ms++[yL ms o.after.toList])
def B1:Nat→List Oper→Bool
 |_,[]=>true
 |k,o::r=>(o.after.toList.all fun e=>!Region.binds .any e||decide (e.on<k))&&B1 (k+1) r
theorem Mp{ops:Array Oper}{ms:List Nat}(z:∀j i,(ms.getD j 0).testBit i=true→kX ops i j){j:Nat}{o:Oper}(ho:ops[j]?=some o):
  ∀(l:List Edge),(∀e,e∈l→e∈o.after)→∀i,(yL ms l).testBit i=true→kX ops i j
 |[],_,i,h=>by simp[yL] at h
 |e::r,A,i,h=>by
  have G:=Mp z ho r (fun e he=>A e (o0 _ he)) i
  unfold yL at h
  split at h
  ·rename_i I
   rw[Nat.testBit_or,Nat.testBit_or] at h
   simp only[uI] at h
   rcases h with(h|h)|h
   ·rw[Nat.testBit_two_pow] at h
    have:e.on=i:=by simpa using h
    subst this
    exact .Ez ho (A e (lF ..)) I
   ·exact .step (z _ _ h) (.Ez ho (A e (lF ..)) I)
   exact G h
  exact G h
theorem Jb{ops:Array Oper}:∀(l:List Oper)(ms:List Nat),(∀n,l[n]?=ops[ms.length+n]?)→(∀j i,(ms.getD j 0).testBit i=true→kX ops i j)→
  ∀j i,((wL l ms).getD j 0).testBit i=true→kX ops i j
 |[],ms,_,h=>h
 |o::r,ms,A,h=>by
  refine Jb r _ (fun n=>?_) fun j i z=>?_
  ·have:=A (n+1)
   simp only[HD] at this
   rw[this];simp only[bJ,dj,dJ];congr 1;omega
  have ho:ops[ms.length]?=some o:=by have:=A 0;simpa using this.symm
  rcases Hw j ms.length with dR|rfl|G
  ·rw[Et,qs dR,←Et] at z
   exact h j i z
  ·rw[Et,v7 (bY _)] at z
   simp only[Nat.sub_self,List.getElem?_cons_zero,Option.getD_some] at z
   exact Mp h ho _ (fun e he=>by simpa using he) i z
  rw[Et,El (by simp;omega)] at z
  simp at z
theorem Js:∀(l:List Oper)(k:Nat),B1 k l=true→∀n o e,l[n]?=some o→e∈o.after→Region.binds .any e=true→e.on<k+n
 |[],_,_,n,o,e,h,_,_=>by simp at h
 |x::r,k,h,n,o,e,z,he,A=>by
  unfold B1 at h
  simp only[fv,Eh] at h
  cases n with
  |zero=>
   simp at z;subst z
   have:=h.1 e (by simpa using he)
   simpa[A] using this
  |succ n=>
   have:=Js r (k+1) h.2 n o e (by simpa using z) he A
   omega
def UL:aF→Option Key
 |.t n=>some n
 |_=>none
def r6(o:bo):List Key:=o.op.dA.filterMap UL++(match o.g with|some (t,_)=>[t]|none=>[])
def Am(d:Option Key)(l:List Key):Bool:=match d with|some d=>!(l.contains d)|none=>true
def GJ(x y:bo):Bool:=Am x.dst (r6 y)&&Am x.dst y.dst.toList&&Am y.dst (r6 x)
def Mq(ms:List Nat)(l:List bo):Bool:=
 (List.range l.length).all fun j=>(List.range j).all fun i=>(ms.getD j 0).testBit i||(match l[i]?,l[j]?with|some x,some y=>GJ x y|_,_=>false)
theorem F6{d:Option Key}{l:List Key}(h:Am d l=true):∀t,t∈l→d≠some t:=by
 intro t z he
 subst he
 simp[Am] at h
 exact h z
structure GK(x y:bo):Prop where
 xy:∀t,t∈r6 y→x.dst≠some t
 dd:∀t,y.dst=some t→x.dst≠some t
 yx:∀t,t∈r6 x→y.dst≠some t
theorem RG{x y:bo}(h:GJ x y=true):GK x y:=by
 unfold GJ at h
 simp only[fv] at h
 exact⟨F6 h.1.1,fun t z=>F6 h.1.2 t (by simp[z]),F6 h.2⟩
theorem RH{ms:List Nat}{l:List bo}(h:Mq ms l=true){i j:Nat}{x y:bo}(A:i<j)(I:l[i]?=some x)(G:l[j]?=some y):(ms.getD j 0).testBit i=true∨GK x y:=by
 have J:j<l.length:=(List.getElem?_eq_some_iff.1 G).1
 have z:=List.all_eq_true.1 (List.all_eq_true.1 h j (List.mem_range.2 J)) i (List.mem_range.2 A)
 rw[I,G] at z
 rcases uI _ _|>.mp z with z|z
 ·exact .inl z
 exact .inr (RG z)
theorem J8{E E':Env}{o:bo}(h:∀t,t∈r6 o→E.get t=E'.get t):∀x∈o.op.dA,x.ev E=x.ev E':=by
 intro x z
 cases x with
 |t n=>exact h n (Oi _ (List.mem_filterMap.2 ⟨.t n,z,rfl⟩))
 |c v=>rfl
theorem QA{E E':Env}{o:bo}(h:∀t,t∈r6 o→E.get t=E'.get t){b:Bool}(z:mH E o.g b):mH E' o.g b:=by
 generalize A:o.g=g at z
 cases z with
 |none=>exact .none
 |slot k=>
  rename_i t want b
  refine .slot ?_
  rw[←h t (HG _ (by rw[A];simp))]
  exact k
 |off k=>
  rename_i t want
  refine .off ?_
  rw[←h t (HG _ (by rw[A];simp))]
  exact k
def wM(m:Nat):Nat→List Nat→List Nat
 |_,[]=>[]
 |k,j::r=>if m.testBit j then wM m (k+1) r else k::wM m (k+1) r
def oU(ms:List Nat):Nat→List Nat→List bo→List bo
 |_,_,[]=>[]
 |i,seen,o::r=>if mC o.op then{o with q:=none}::oU ms (i+1) seen r else{o with q:=some (wM (ms.getD i 0) 0 seen)}::oU ms (i+1) (i::seen) r
def seenAt(L:List bo):Nat→List Nat
 |0=>[]
 |n+1=>match L[n]?with
  |some o=>if mC o.op then seenAt L n else n::seenAt L n
  |none=>seenAt L n
theorem Jc{m j:Nat}(z:m.testBit j=false):∀(seen:List Nat)(k n:Nat),seen[n]?=some j→k+n∈wM m k seen
 |[],_,_,h=>by simp at h
 |x::r,k,n,h=>by
  unfold wM
  cases n with
  |zero=>simp at h;subst h;rw[aj (by simp[z])];exact lF ..
  |succ n=>
   have:=Jc z r (k+1) n (by simpa using h)
   rw[show k+(n+1)=k+1+n by omega]
   split
   ·exact this
   exact o0 _ this
theorem zc{ms:List Nat}{L:List bo}:∀(l:List bo)(i:Nat),(∀n,l[n]?=L[i+n]?)→∀n io,(oU ms i (seenAt L i) l)[n]?=some io→
  ∃z,L[i+n]?=some z∧io.dst=z.dst∧io.g=z.g∧io.op=z.op∧io.q=if mC z.op then none else some (wM (ms.getD (i+n) 0) 0 (seenAt L (i+n)))
 |[],i,_,n,io,h=>by simp[oU] at h
 |o::r,i,A,n,io,h=>by
  have h0:L[i]?=some o:=by have:=A 0;simpa using this.symm
  have G:∀n,r[n]?=L[i+1+n]?:=fun n=>by have:=A (n+1);rw[show i+1+n=i+(n+1) by omega];simpa using this
  have I:=zc (ms:=ms) r (i+1) G
  have J:seenAt L (i+1)=if mC o.op then seenAt L i else i::seenAt L i:=by simp only[seenAt,h0]
  unfold oU at h
  cases n with
  |zero=>
   refine⟨o,h0,?_⟩
   split at h
   ·rename_i hp;simp at h;subst h;exact⟨rfl,rfl,rfl,by rw[aq hp]⟩
   rename_i hp;simp at h;subst h;exact⟨rfl,rfl,rfl,by rw[aj hp];rfl⟩
  |succ n=>
   rw[show i+(n+1)=i+1+n by omega]
   refine I n io ?_
   rw[J]
   split at h
   ·rename_i hp;rw[aq hp];simpa using h
   rename_i hp;rw[aj hp];simpa using h
theorem Jd{ms:List Nat}:∀(l:List bo)(i:Nat)(s:List Nat),(oU ms i s l).length=l.length
 |[],_,_=>rfl
 |o::r,i,s=>by
  unfold oU
  split<;>simp[Jd r]
theorem JJ{L:List bo}{i:Nat}{o:bo}(h:L[i]?=some o)(hp:mC o.op=false):∀n,i<n→i∈seenAt L n
 |0,h=>by omega
 |n+1,z=>by
  unfold seenAt
  rcases zZ (vM z) with dR|rfl
  ·have:=JJ h hp n dR
   split
   ·split
    ·exact this
    exact o0 _ this
   exact this
  simp[h,hp]
theorem Ext.wide{W:Nat→Prop}{n0 n1 z A:Nat}{ρ ρ':Ho}{w w':World}(h:Ext W n0 n1 ρ ρ' w w')(h0:z≤n0)(G:n1≤A):Ext W z A ρ ρ' w w':=
 ⟨h.le,fun f g x e=>(h.jj f g x e).imp_right fun k=>⟨by omega,by omega⟩,h.b8,h.frame,h.size,by have:=h.nn;omega,h.os,h.tape,h.output⟩
theorem Ext.UM{W:Nat→Prop}{n0 n1:Nat}{ρ z A:Ho}{w K O:World}(h:Ext W n0 n1 ρ z w K)(k:Ext W n0 n1 z A K O):Ext W n0 n1 ρ A w O:=by
 refine⟨Ho.le_trans h.le k.le,?_,?_,?_,kb h.size k.size,h.nn,k.os.trans h.os,k.tape.trans h.tape,k.output.trans h.output⟩
 ·intro f g x G
  rcases k.jj f g x G with⟨g0,h0,e⟩|e
  ·exact h.jj f g0 h0 e
  exact .inr e
 ·intro f g x G
  rcases k.b8 f g x G with e|⟨a,b⟩|⟨g0,h0,e,e1,e2⟩
  ·exact h.b8 f g x e
  ·exact .inr (.inl ⟨kb h.size a,b⟩)
  rcases h.b8 f g0 h0 e with I|⟨a,b⟩|⟨g1,h1,I,e3,e4⟩
  ·exact .inr (.inr ⟨g0,h0,I,e1,e2⟩)
  ·exact .inr (.inl ⟨e1▸a,e2▸b⟩)
  exact .inr (.inr ⟨g1,h1,I,e3.trans e1,e4.trans e2⟩)
 intro b U J
 rw[k.frame b (mn U h.size) ?_,h.frame b U J]
 intro f g x G Y Z
 rcases h.b8 f g x G with e|⟨a,_⟩|⟨g0,h0,e,e1,e2⟩
 ·exact J f g x e Y Z
 ·intro hh;omega
 exact e1▸J f g0 h0 e (e2.trans Y) Z
def oV(l:List bo)(n:Nat):Option Key:=(l[n]?).bind (·.dst)
noncomputable def rE(l:List bo)(E:Env)(V:Nat→an)(S:Nat→Bool):Nat→Env
 |0=>E
 |n+1=>if S n=true then kh (rE l E V S n) (oV l n) (V n) else rE l E V S n
noncomputable def rC(C:Nat→Option dP)(Hs:Nat→az)(S:Nat→Bool):Nat→Nat→Option dP
 |0=>C
 |n+1=>if S n=true then gy (rC C Hs S n) (Hs n) (Hs (n+1)) else rC C Hs S n
theorem zq{l:List bo}{E:Env}{V:Nat→an}{S:Nat→Bool}(n:Nat):rE l E V S (n+1)=if S n=true then kh (rE l E V S n) (oV l n) (V n) else rE l E V S n:=rfl
theorem zr{C:Nat→Option dP}{Hs:Nat→az}{S:Nat→Bool}(n:Nat):rC C Hs S (n+1)=if S n=true then gy (rC C Hs S n) (Hs n) (Hs (n+1)) else rC C Hs S n:=rfl
def ins(S:Nat→Bool)(j:Nat):Nat→Bool:=fun i=>i==j||S i
theorem wT(E:Env)(d:Option Key)(v:an)(t:Key):(kh E d v).get t=if d=some t then some v else E.get t:=by
 cases d with
 |none=>simp[kh]
 |some d=>
  show(E.set d v).get t=_
  rw[T4.eO]
  by_cases h:t=d
  ·subst h;simp
  rw[aj h,aj (by simp;exact fun e=>h e.symm)]
section
variable{l:List bo}{E:Env}{V:Nat→an}{S:Nat→Bool}{j:Nat}
theorem CH(t:Key){T:Nat→Bool}:∀n,(∀i,i<n→S i≠T i→oV l i≠some t)→(rE l E V S n).get t=(rE l E V T n).get t
 |0,_=>rfl
 |n+1,h=>by
  have z:=CH t n fun i hi=>h i (by omega)
  have A:=h n (by omega)
  rw[zq,zq]
  cases G:S n<;>cases I:T n
  ·simpa using z
  ·have:=A (by simp[G,I])
   simp only[pR,if_false,if_true,wT,aj this];exact z
  ·have:=A (by simp[G,I])
   simp only[pR,if_false,if_true,wT,aj this];exact z
  simp only[if_true,wT,z]
theorem Ch(t:Key):∀n,j≤n→(∀k,j≤k→k<n→S k=true→oV l k≠some t)→(rE l E V S n).get t=(rE l E V S j).get t
 |0,z,_=>by have:j=0:=(by omega);subst this;rfl
 |n+1,z,h=>by
  rcases zZ z with dR|rfl
  ·have A:=Ch t n (by omega) fun k G h2=>h k G (by omega)
   rw[zq]
   split
   ·rename_i I;rw[wT,aj (h n (by omega) (by omega) I)];exact A
   exact A
  rfl
theorem Mr(I:S j=false)(A:j<l.length)(J:∀k t,j<k→S k=true→oV l j=some t→oV l k≠some t)(t:Key):
  (rE l E V (ins S j) l.length).get t=(kh (rE l E V S l.length) (oV l j) (V j)).get t:=by
 rw[wT]
 have e:∀i,ins S j i≠S i→i=j:=by
  intro i hi
  unfold ins at hi
  by_cases h:i=j
  ·exact h
  simp[h] at hi
 split
 ·rename_i z
  rw[Ch (j:=j+1) t l.length A fun k K h2 G=>J k t (by omega) (by unfold ins at G;simpa[show k≠j by omega] using G) z]
  rw[zq]
  rw[aq (by simp[ins]),wT,aq z]
 rename_i z
 exact CH t _ fun i _ hi=>by rw[e i hi];exact z
end
section
variable{C:Nat→Option dP}{Hs:Nat→az}{S:Nat→Bool}{j:Nat}
def Touch(Hs:Nat→az)(n f:Nat):Prop:=((Hs n).next≤f∧f<(Hs (n+1)).next)∨(Hs (n+1)).t.get f≠(Hs n).t.get f
theorem BO{n f:Nat}(h:Touch Hs n f):gy C (Hs n) (Hs (n+1)) f=(Hs (n+1)).t.get f:=by
 unfold gy
 rcases h with h|h
 ·rw[aq h]
 rw[aj h];split<;>rfl
theorem BB{n f:Nat}(h:¬Touch Hs n f):gy C (Hs n) (Hs (n+1)) f=C f:=by
 unfold gy
 rw[aj (fun k=>h (.inl k)),aq (tM fun k=>h (.inr k))]
theorem Ms(f:Nat){T:Nat→Bool}:∀n,(∀i,i<n→S i≠T i→¬Touch Hs i f)→rC C Hs S n f=rC C Hs T n f
 |0,_=>rfl
 |n+1,h=>by
  have A:=Ms f n fun i hi=>h i (by omega)
  have G:=h n (by omega)
  rw[zr,zr]
  by_cases z:Touch Hs n f
  ·have e:S n=T n:=tM fun k=>G k z
   rw[e]
   cases T n
   ·simpa using A
   simp only[if_true,BO z]
  cases S n<;>cases T n<;>simp only[pR,if_false,if_true,BB z]<;>exact A
theorem zs(f:Nat):∀n,j≤n→(∀k,j≤k→k<n→S k=true→¬Touch Hs k f)→rC C Hs S n f=rC C Hs S j f
 |0,z,_=>by have:j=0:=(by omega);subst this;rfl
 |n+1,z,h=>by
  rcases zZ z with dR|rfl
  ·have A:=zs f n (by omega) fun k G h2=>h k G (by omega)
   rw[zr]
   split
   ·rename_i I;rw[BB (h n (by omega) (by omega) I)];exact A
   exact A
  rfl
theorem Mt{N:Nat}(I:S j=false)(A:j<N)(J:∀k f,j<k→k<N→S k=true→Touch Hs j f→¬Touch Hs k f)(f:Nat):
  rC C Hs (ins S j) N f=gy (rC C Hs S N) (Hs j) (Hs (j+1)) f:=by
 have e:∀i,ins S j i≠S i→i=j:=by
  intro i hi
  unfold ins at hi
  by_cases h:i=j
  ·exact h
  simp[h] at hi
 by_cases z:Touch Hs j f
 ·rw[BO z,zs (j:=j+1) f N A fun k K h2 G=>J k f (by omega) h2 (by unfold ins at G;simpa[show k≠j by omega] using G) z]
  rw[zr]
  rw[aq (by simp[ins]),BO z]
 rw[BB z]
 exact Ms f _ fun i _ hi=>by rw[e i hi];exact z
theorem F7(f:Nat)(h0:∀o,(Hs 0).t.get f=some o→C f=some o):∀n,(∀i,i<n→S i=false→¬Touch Hs i f)→∀o,(Hs n).t.get f=some o→rC C Hs S n f=some o
 |0,_,o,h=>h0 o h
 |n+1,A,o,h=>by
  have G:=F7 f h0 n (fun i hi=>A i (by omega)) o
  rw[zr]
  by_cases z:Touch Hs n f
  ·have:S n=true:=by
    cases I:S n
    ·exact absurd z (A n (by omega) I)
    rfl
   rw[aq this,BO z];exact h
  have e:(Hs (n+1)).t.get f=(Hs n).t.get f:=tM fun k=>z (.inr k)
  rw[e] at h
  split
  ·rw[BB z];exact G h
  exact G h
end
structure Fact(call:eC)(o:bo)(E:Env)(H:az)(b:Bool)(v:an)(fp:FP)(H1:az):Prop where
 mu:gn H H1
 VN:∀f,((H.next≤f∧f<H1.next)∨H1.t.get f≠H.t.get f)→o.q.isSome=true∧(f∈fp.ws∨(fp.lo≤f∧f<fp.hi∧H.next≤f∧f<H1.next))
 VP:mH E o.g b
 off:b=false→v= .undef∧H1=H
 on:b=true→∃Hm Hn,o.op.ev call E Hm= .ok v Hn∧Hm.bc≤Hm.next∧Hm.next=H.next∧Hm.t=H.t∧Hn.next=H1.next∧Hn.t=H1.t∧(∀f,Wr Hn f→Wr H1 f)∧(o.q.isSome=true→fp.rd=o.op.reads E)
section
variable{P:Program}{call:eC}
theorem pN.fact{o:bo}{E:Env}{H:az}{bP:List FP}{b:Bool}{v:an}{fp:FP}{H1:az}(U:kt P call)(hp:o.q=none→mC o.op=true)(O:H.bc≤H.next)(G:WF H)(h:pN call o E H bP b v fp H1):
  Fact call o E H b v fp H1:=by
 cases h with
 |skip I J=>exact⟨gn.refl _,fun f z=>absurd z (by rintro(z|z);omega;exact z rfl),I,fun _=>⟨rfl,rfl⟩,fun h=>by cases h⟩
 |plain I J he=>
  have e:=RF (hp J) v H1 he
  subst e
  exact⟨gn.refl _,fun f z=>absurd z (by rintro(z|z);omega;exact z rfl),I,fun h=>(by cases h),fun _=>⟨H1,H1,he,O,rfl,rfl,rfl,rfl,fun _ h=>h,fun h=>by rw[J] at h;cases h⟩⟩
 |marked I J he Y=>
  rename_i q A
  have t:=TM.ins (H:=H.mark) (bY _) (fun f a=>U.mu f a _ (bY _)) E o.op v A he
  refine⟨t.xo O,fun f z=>⟨by rw[J];rfl,?_⟩,I,fun h=>(by cases h),fun _=>⟨H.mark,A,he,bY _,rfl,rfl,rfl,rfl,fun f z=>?_,fun _=>rfl⟩⟩
  ·have z:((H.next≤f∧f<A.next)∨A.t.get f≠H.t.get f):=z
   show f∈A.ws∨(H.next≤f∧f<A.next∧H.next≤f∧f<A.next)
   by_cases K:f<H.next
   ·rcases z with z|z
    ·omega
    exact .inl (tM fun k=>z (t.same f K k))
   by_cases h2:f<A.next
   ·exact .inr ⟨by omega,h2,by omega,h2⟩
   rcases z with z|z
   ·omega
   have e1:H.t.get f=none:=G f (by omega)
   have e2:A.t.get f=none:=t.wf G f (by omega)
   exact absurd (e2.trans e1.symm) z
  rcases z with z|z
  ·by_cases K:f<H.bc
   ·exact .inl ((yX _ _ _ _).2 (.inr ⟨z,K⟩))
   exact .inr (by show H.bc≤f;omega)
  have:H.next≤f:=by rw[t.bc] at z;exact z
  exact .inr (by show H.bc≤f;omega)
end
structure uw(P:Program)(nt:Nat)(ops:Array Oper)(l:List bo):Prop where
 len:l.length=ops.size
 WG:∀(i:Nat)(o:Oper)(io:bo),ops[i]?=some o→l[i]?=some io→yo P nt ops o io
 back:∀(j:Nat)(o:Oper)(e:Edge),ops[j]?=some o→e∈o.after→Region.binds .any e=true→e.on<j
 tmps:∀(i j:Nat)(x y:bo),i<j→l[i]?=some x→l[j]?=some y→kX ops i j∨GK x y
 pure:∀(i:Nat)(x:bo),l[i]?=some x→x.q=none→mC x.op=true
section
variable{P:Program}{call:eC}{nt:Nat}{ops:Array Oper}{l:List bo}{E E':Env}{H H':az}{Es:Nat→Env}{Hs:Nat→az}{Rs:Nat→List FP}{Wn:Nat→Bool}{Vs:Nat→an}{Fp:Nat→FP}
theorem Trace.wf(A:kt P call)(G:uw P nt ops l)(T:Trace call l E H [] E' H' Es Hs Rs Wn Vs Fp)(I:H.bc≤H.next)(z:WF H):∀i,i≤l.length→(Hs i).bc≤(Hs i).next∧WF (Hs i)
 |0,_=>by rw[T.h0];exact⟨I,z⟩
 |i+1,hi=>by
  obtain⟨J,h2⟩:=Trace.wf A G T I z i (by omega)
  obtain⟨o,ho⟩:∃o,l[i]?=some o:=⟨_,eY (by omega)⟩
  have t:=((T.step i o ho).1.fact A (G.pure i o ho) J h2).mu
  exact⟨by rw[t.bc];exact kb J t.next,t.wf h2⟩
theorem Trace.fact(A:kt P call)(G:uw P nt ops l)(T:Trace call l E H [] E' H' Es Hs Rs Wn Vs Fp)(I:H.bc≤H.next)(z:WF H){i:Nat}{o:bo}(ho:l[i]?=some o):
  Fact call o (Es i) (Hs i) (Wn i) (Vs i) (Fp i) (Hs (i+1)):=by
 have hi:i<l.length:=(List.getElem?_eq_some_iff.1 ho).1
 obtain⟨J,h2⟩:=T.wf A G I z i (by omega)
 exact(T.step i o ho).1.fact A (G.pure i o ho) J h2
theorem Trace.mu(A:kt P call)(G:uw P nt ops l)(T:Trace call l E H [] E' H' Es Hs Rs Wn Vs Fp)(I:H.bc≤H.next)(z:WF H){i:Nat}:∀k,i≤k→k≤l.length→gn (Hs i) (Hs k)
 |0,h,_=>by have:i=0:=(by omega);subst this;exact gn.refl _
 |k+1,h,hk=>by
  rcases zZ h with dR|rfl
  ·obtain⟨o,ho⟩:∃o,l[k]?=some o:=⟨_,eY (by omega)⟩
   exact(Trace.mu A G T I z k (by omega) (by omega)).trans (T.fact A G I z ho).mu
  exact gn.refl _
theorem Trace.env(T:Trace call l E H [] E' H' Es Hs Rs Wn Vs Fp):∀n,n≤l.length→Es n=rE l E Vs (fun _=>true) n
 |0,_=>T.e0
 |n+1,z=>by
  obtain⟨o,ho⟩:∃o,l[n]?=some o:=⟨_,eY (by omega)⟩
  rw[(T.step n o ho).2.1,zq,Trace.env T n (by omega),aq rfl]
  simp[oV,ho]
structure Inv(P:Program)(nt:Nat)(l:List bo)(E:Env)(H H':az)(Hs:Nat→az)(Vs:Nat→an)(ρ0:Ho)(C0:Nat→Option dP)(w0:World)(S:Nat→Bool)(a:Act)(w:World)(ρ:Ho):Prop where
 ar:AR P ρ nt (rE l E Vs S l.length) a
 r:R ρ (rC C0 Hs S l.length) w
 ext:Ext (Wr H') H.next H'.next ρ0 ρ w0 w
 jj:∀f g h,ρ f g=some h→(∃g0 h0,ρ0 f g0=some h0)∨∃k,k<l.length∧S k=true∧(Hs k).next≤f∧f<(Hs (k+1)).next
theorem AR.congr{ρ:Ho}{a:Act}{E1 z:Env}(h:AR P ρ nt E1 a)(he:∀t,z.get t=E1.get t):AR P ρ nt z a:=
 ⟨h.size,h.defers,fun t v k=>h.tmp t v (by rw[←he];exact k),h.rk⟩
theorem Sk(hc:kt P call)(hr:uw P nt ops l)(T:Trace call l E H [] E' H' Es Hs Rs Wn Vs Fp)
  (O:∀(i j:Nat)(x y:bo),i<j→l[i]?=some x→l[j]?=some y→x.q.isSome=true→y.q.isSome=true→kX ops i j∨w6 (Fp j) (Fp i))
  (hm:H.bc≤H.next) (ny:WF H) {ρ0:Ho} {C0:Nat→Option dP} {w0:World} (Ir:j7 ρ0 C0 H) (E7:ia ρ0 H.next H'.next)
  {S:Nat→Bool} (hS:CG ops S) {j:Nat} (hj:j<l.length) (U:S j=false) (hjr:Hg ops S j) {a:Act} {w:World} {ρ:Ho} (hI:Inv P nt l E H H' Hs Vs ρ0 C0 w0 S a w ρ)
  {Q:Exit→Act→World→Prop} {K:Act→World→Prop} (hK:∀a' w' ρ',Inv P nt l E H H' Hs Vs ρ0 C0 w0 (ins S j) a' w' ρ'→K a' w'):wpOp P ops Q j K a w:=by
 obtain⟨io,A⟩:∃io,l[j]?=some io:=⟨_,eY hj⟩
 obtain⟨o,ho⟩:∃o,ops[j]?=some o:=⟨_,v8 (by rw[←hr.len];exact hj)⟩
 have yM:=hr.WG j o io ho A
 have fj:=T.fact hc hr hm ny A
 have I:∀i k,i≤k→k≤l.length→(Hs i).next≤(Hs k).next:=fun i k h1 h2=>(T.mu hc hr hm ny k h1 h2).next
 have h0:Hs 0=H:=T.h0
 have hN:Hs l.length=H':=T.hN
 have EA:∀k,S k=true→¬kX ops j k:=fun k hk hb=>by rw[hb.closed hS hk] at U;cases U
 have OB:∀i,S i=false→¬kX ops i j:=fun i hi hb=>by rw[hb.ready hS hjr] at hi;cases hi
 have get:∀{k},k<l.length→∃y,l[k]?=some y:=fun hk=>⟨_,eY hk⟩
 have G:∀{k y},l[k]?=some y→oV l k=y.dst:=fun Z=>by simp[oV,Z]
 have Is:∀t,t∈r6 io→(rE l E Vs S l.length).get t=(Es j).get t:=by
  intro t ht
  rw[T.env j (by omega),Ch (j:=j) t l.length (by omega) fun k h1 h2 J=>?_]
  ·refine CH t j fun i hi J=>?_
   obtain⟨x,hx⟩:=get (k:=i) (by omega)
   have J:S i=false:=by simpa using J
   rw[G hx]
   exact((hr.tmps i j x io hi hx A).resolve_left (OB i J)).xy t ht
  obtain⟨y,Z⟩:=get h2
  have lk:j≠k:=fun e=>by rw[←e,U] at J;cases J
  rw[G Z]
  exact((hr.tmps j k io y (by omega) A Z).resolve_left (EA k J)).yx t ht
 have OC:∀k t,j<k→S k=true→oV l j=some t→oV l k≠some t:=by
  intro k t hk J hd sP
  by_cases E8:k<l.length
  ·obtain⟨y,Z⟩:=get E8
   rw[G Z] at sP;rw[G A] at hd
   exact((hr.tmps j k io y hk A Z).resolve_left (EA k J)).dd t sP hd
  simp[oV,El (Nat.le_of_not_lt E8)] at sP
 have z:∀{k f y},l[k]?=some y→Touch Hs k f→y.q.isSome=true∧(f∈(Fp k).ws∨((Fp k).lo≤f∧f<(Fp k).hi∧(Hs k).next≤f∧f<(Hs (k+1)).next)):=
  fun Z ht=>(T.fact hc hr hm ny Z).VN _ ht
 have EB:∀i,i≤l.length→WF (Hs i):=fun i hi=>(T.wf hc hr hm ny i hi).2
 have Mu:∀k f,j<k→k<l.length→S k=true→Touch Hs j f→¬Touch Hs k f:=by
  intro k f hk E8 J tj tk
  obtain⟨y,Z⟩:=get E8
  obtain⟨qj,ej⟩:=z A tj
  obtain⟨qk,ek⟩:=z Z tk
  have fa:=(O j k io y hk A Z qj qk).resolve_left (EA k J)
  have n1:=I (j+1) k hk (by omega)
  have n2:=I j (j+1) (by omega) (by omega)
  rcases ek with ek|⟨e1,e2,e3,e4⟩
  ·rcases ej with ej|⟨e1,e2,e3,e4⟩
   ·exact fa.ww f ek ej
   exact fa.out f ek ⟨e1,e2⟩
  rcases tj with tj|tj
  ·omega
  refine tj ((EB (j+1) (by omega) f (by omega)).trans (EB j (by omega) f (by omega)).symm)
 have AO:∀{i f},i<l.length→S i=false→(Hs i).next≤f→f<(Hs (i+1)).next→∀g,ρ f g=none:=by
  intro i f hi J h1 h2 g
  cases hx:ρ f g with
  |none=>rfl
  |some x=>
   rcases hI.jj f g x hx with⟨g0,x0,e⟩|⟨k,hk,Iu,e1,e2⟩
   ·have n1:=I 0 i (by omega) (by omega)
    have n2:=I (i+1) l.length (by omega) (by omega)
    rw[h0] at n1;rw[hN] at n2
    rw[E7 f g0 (by omega) (by omega)] at e;cases e
   rcases Hw i k with dR|rfl|EY
   ·have:=I (i+1) k (by omega) (by omega);omega
   ·rw[J] at Iu;cases Iu
   have:=I (k+1) i (by omega) (by omega);omega
 have VS:ia ρ (Hs j).next (Hs (j+1)).next:=fun f g h1 h2=>AO hj U h1 h2 g
 have UN:Wn j=true→∀f ob,(∀ls,io.op.reads (Es j)=some ls→f∈ls)→(∃g h,ρ f g=some h)→(Hs j).t.get f=some ob→rC C0 Hs S l.length f=some ob:=by
  intro hon f ob p7⟨g,x,hx⟩yN
  obtain⟨_,_,_,_,_,_,_,_,_,WH⟩:=fj.on hon
  have Y:io.q.isSome=true:=by
   cases hq:io.q with
   |some q=>rfl
   |none=>have:=p7 [] (Q3 (hr.pure j io A hq));cases this
  have WI:(Fp j).rd=io.op.reads (Es j):=WH Y
  have OD:∀m,(Fp j).rd=some m→f∈m:=fun m hm=>p7 m (WI▸hm)
  have fj2:f<(Hs j).next:=tM fun k=>by rw[EB j (by omega) f (by omega)] at yN;cases yN
  rw[zs (j:=j) f l.length (by omega) fun k h1 h2 J tk=>?_]
  ·refine F7 f (fun o' sN=>?_) j (fun i hi J ti=>?_) ob yN
   ·rw[h0] at sN
    refine Ir f o' ?_ sN
    rcases hI.jj f g x hx with e|⟨k,hk,Iu,e1,e2⟩
    ·exact e
    have n1:=I 0 k (by omega) (by omega)
    rw[h0] at n1
    rw[ny f (by omega)] at sN;cases sN
   obtain⟨y,Z⟩:=get (k:=i) (by omega)
   obtain⟨qi,ei⟩:=z Z ti
   rcases ei with ei|⟨_,_,e3,e4⟩
   ·obtain⟨m,sO,E4⟩:=((O i j y io hi Z A qi Y).resolve_left (OB i J)).ba f ei
    exact E4 (OD m sO)
   rw[AO (by omega) J e3 e4 g] at hx;cases hx
  obtain⟨y,Z⟩:=get h2
  have lk:j≠k:=fun e=>by rw[←e,U] at J;cases J
  obtain⟨qk,ek⟩:=z Z tk
  rcases ek with ek|⟨_,_,e3,e4⟩
  ·obtain⟨m,sO,E4⟩:=((O j k io y (by omega) A Z Y qk).resolve_left (EA k J)).ab f ek
   exact E4 (OD m sO)
  have:=I j k (by omega) (by omega);omega
 have Lz:∀k,S k=true→ins S j k=true:=fun k hk=>by simp[ins,hk]
 unfold wpOp
 simp only[ho]
 have hw:=QA (E':=rE l E Vs S l.length) (fun t ht=>(Is t ht).symm) fj.VP
 rw[FU yM hw hI.ar.tmp]
 cases hb:Wn j with
 |false=>
  rw[aj (by simp)]
  obtain⟨e1,e2⟩:=fj.off hb
  refine hK _ _ ρ ⟨?_,?_,hI.ext,fun f g x hx=>(hI.jj f g x hx).imp_right fun⟨k,h1,h2,h3⟩=>⟨k,h1,Lz k h2,h3⟩⟩
  ·refine AR.congr (E1:=kh (rE l E Vs S l.length) io.dst .undef) (by rw[yM.dst];exact hI.ar.Ey yM.lt (by simp only[VR])) fun t=>?_
   rw[Mr U hj OC t,G A,e1]
  rw[show rC C0 Hs (ins S j) l.length=rC C0 Hs S l.length from funext fun f=>by rw[Mt U hj Mu f,e2,po]]
  exact hI.r
 |true=>
  rw[aq rfl]
  left
  obtain⟨Hm,Hn,he,k1,k2,k3,k4,k5,k6,k7⟩:=fj.on hb
  rcases yM.op with yK|HR
  case inr=>rw[HR] at he;exact(Ly he).elim
  have WJ:io.op.ev call (rE l E Vs S l.length) Hm= .ok (Vs j) Hn:=by
   rw[bE.Si io.op (J8 (E':=Es j) Is)];exact he
  have Bb:=J4 (o:=o) yK hI.ar hI.r (by rw[k2,k4];exact VS) (fun f ob p7 hx yN=>by
   rw[k3] at yN
   refine UN hb f ob (fun ls E9=>p7 ls ?_) hx yN
   rw[bE.Qt io.op (J8 (E':=Es j) Is)];exact E9) k1 (fun x hx=>by rw[k3];exact EB j (by omega) x (by rw[←k2];exact hx)) hc WJ
  refine JD Bb fun cv w' hp=>?_
  obtain⟨ρ',hv,HS,Ba⟩:=hp
  have WK:gy (rC C0 Hs S l.length) Hm Hn=gy (rC C0 Hs S l.length) (Hs j) (Hs (j+1)):=by
   funext f;unfold gy;rw[k2,k3,k4,k5]
  refine hK _ _ ρ' ⟨?_,?_,hI.ext.UM (Ext.wide (HS.mono fun f hf=>?_) ?_ ?_),fun f g x hx=>?_⟩
  ·refine AR.congr (E1:=kh (rE l E Vs S l.length) io.dst (Vs j)) (by rw[yM.dst];exact(hI.ar.mono HS.le).Ey yM.lt hv) fun t=>?_
   rw[Mr U hj OC t,G A]
  ·rw[show rC C0 Hs (ins S j) l.length=gy (rC C0 Hs S l.length) Hm Hn from funext fun f=>by rw[Mt U hj Mu f,WK]]
   exact Ba
  ·have t:=T.mu hc hr hm ny (i:=j+1) l.length (by omega) (by omega)
   rw[hN] at t
   exact Gl t f (k6 f hf)
  ·rw[k2,←h0];exact I 0 j (by omega) (by omega)
  ·rw[k4,←hN];exact I (j+1) l.length (by omega) (by omega)
  rcases HS.jj f g x hx with⟨g0,x0,e⟩|e
  ·exact(hI.jj f g0 x0 e).imp_right fun⟨k,h1,h2,h3⟩=>⟨k,h1,Lz k h2,h3⟩
  rw[k2,k4] at e
  exact .inr ⟨j,hj,by simp[ins],e⟩
end
theorem Jt{p q:Nat→Bool}:∀(l:List Nat){j:Nat},j∈l→p j=true→q j=false→(∀i,q i=true→p i=true)→(l.filter q).length+1≤(l.filter p).length
 |[],_,A,_,_,_=>by cases A
 |x::r,j,A,hp,J,h=>by
  have le:(r.filter q).length≤(r.filter p).length:=by
   clear A
   induction r with
   |nil=>simp
   |cons y s I=>
    cases z:q y
    ·rw[z1 (by simp[z])]
     cases G:p y
     ·rw[z1 (by simp[G])];exact I
     rw[vN G];simp;omega
    rw[vN z,vN (h y z)];simp;exact I
  rcases List.mem_cons.1 A with rfl|A
  ·rw[z1 (by simp[J]),vN hp];simp;exact le
  have I:=Jt r A hp J h
  cases z:q x
  ·rw[z1 (by simp[z])]
   cases G:p x
   ·rw[z1 (by simp[G])];exact I
   rw[vN G];simp;omega
  rw[vN z,vN (h x z)];simp;omega
def kr(hD:Array Bool):Nat→Bool:=fun i=>hD.getD i false
def Fa(hD:Array Bool)(n:Nat):Nat:=((List.range n).filter fun i=>!kr hD i).length
section
variable{P:Program}{call:eC}{nt:Nat}{ops:Array Oper}{l:List bo}{E E':Env}{H H':az}{Es:Nat→Env}{Hs:Nat→az}{Rs:Nat→List FP}{Wn:Nat→Bool}{Vs:Nat→an}{Fp:Nat→FP}
theorem QB{hD:Array Bool}{j:Nat}(z:j<hD.size):kr (hD.setIfInBounds j true)=ins (kr hD) j:=by
 funext i
 unfold kr ins
 by_cases h:i=j
 ·subst h;simp[z]
 rw[getD_set_ne false (Ne.symm h)];simp[h]
theorem Q4(A:uw P nt ops l){hD:Array Bool}(I:hD.size=l.length)(h:Region.ready .any ops hD=[]):∀i,i<l.length→kr hD i=true:=by
 intro i
 induction i using Nat.strongRecOn with
 |_ i J=>
  intro hi
  cases z:kr hD i with
  |true=>rfl
  |false=>
   obtain⟨o,ho⟩:∃o,ops[i]?=some o:=⟨_,v8 (by rw[←A.len];exact hi)⟩
   have:i∈Region.ready .any ops hD:=by
    rw[mem_ready]
    refine⟨?_,o,ho,fun e he G=>J e.on (A.back i o e ho he G) (Nat.lt_trans (A.back i o e ho he G) hi)⟩
    unfold kr at z
    simp only[uG] at z⊢
    rw[v8 (by rw[I];exact hi)] at z⊢
    simpa using z
   rw[h] at this;cases this
theorem UO(hc:kt P call)(Z:uw P nt ops l)(T:Trace call l E H [] E' H' Es Hs Rs Wn Vs Fp)
  (G:∀(i j:Nat)(x y:bo),i<j→l[i]?=some x→l[j]?=some y→x.q.isSome=true→y.q.isSome=true→kX ops i j∨w6 (Fp j) (Fp i))
  (hm:H.bc≤H.next) (ny:WF H) {ρ0:Ho} {C0:Nat→Option dP} {w0:World} (Ir:j7 ρ0 C0 H) (E7:ia ρ0 H.next H'.next) {Q:Exit→Act→World→Prop}
  (I:∀S a w ρ,(∀i,i<l.length→S i=true)→Inv P nt l E H H' Hs Vs ρ0 C0 w0 S a w ρ→Q .normal a w):
  ∀(fuel:Nat)(hD:Array Bool)(a:Act)(w:World)(ρ:Ho),hD.size=l.length→CG ops (kr hD)→Inv P nt l E H H' Hs Vs ρ0 C0 w0 (kr hD) a w ρ→Fa hD l.length≤fuel→
   wpAny P .any ops Q fuel hD a w:=by
 intro fuel
 induction fuel with
 |zero=>
  intro hD a w ρ K hC hI hu
  have all:∀i,i<l.length→kr hD i=true:=by
   intro i hi
   cases hl:kr hD i with
   |true=>rfl
   |false=>
    have:i∈(List.range l.length).filter fun i=>!kr hD i:=List.mem_filter.2 ⟨List.mem_range.2 hi,by simp[hl]⟩
    rw[sG (Nat.le_zero.1 hu)] at this;cases this
  refine⟨?_,I _ a w ρ all hI⟩
  cases J:Region.ready .any ops hD with
  |nil=>rfl
  |cons j r=>
   have hj:j∈Region.ready .any ops hD:=by rw[J];exact lF ..
   obtain⟨h0,o,ho,_⟩:=mem_ready.1 hj
   have z:j<l.length:=by rw[Z.len];exact(Array.getElem?_eq_some_iff.1 ho).1
   have:=all j z
   unfold kr at this
   simp only[uG] at h0 this
   rw[v8 (by rw[K];exact z)] at h0 this
   simp at h0 this;rw[h0] at this;cases this
 |succ fuel ih=>
  intro hD a w ρ K hC hI hu
  refine⟨fun h=>I _ a w ρ (Q4 Z K h) hI,fun j hj=>?_⟩
  obtain⟨h0,o,ho,J⟩:=mem_ready.1 hj
  have z:j<l.length:=by rw[Z.len];exact(Array.getElem?_eq_some_iff.1 ho).1
  have O:kr hD j=false:=by
   unfold kr
   simp only[uG] at h0⊢
   rw[v8 (by rw[K];exact z)] at h0⊢
   simpa using h0
  have U:Hg ops (kr hD) j:=fun o' e A he hb=>by
   rw[ho] at A;cases A
   exact J e he hb
  have we:=QB (hD:=hD) (j:=j) (by rw[K];exact z)
  refine Sk hc Z T G hm ny Ir E7 hC z O U hI fun a' w' ρ' hI'=>?_
  refine ih _ a' w' ρ' (by simp[K]) ?_ (by rw[we];exact hI') ?_
  ·rw[we]
   intro k o' e A he hb hk
   unfold ins at hk⊢
   by_cases Y:k=j
   ·subst Y;simp[U o' e A he hb]
   simp[Y] at hk;simp[hC k o' e A he hb hk]
  have:=Jt (p:=fun i=>!kr hD i) (q:=fun i=>!kr (hD.setIfInBounds j true) i) (List.range l.length) (List.mem_range.2 z) (by simp[O]) (by rw[we];simp[ins]) (by
   intro i hi;rw[we] at hi;simp[ins] at hi;simp[hi])
  have h2:Fa (hD.setIfInBounds j true) l.length+1≤Fa hD l.length:=this
  omega
theorem Inv.fin(hc:kt P call)(hr:uw P nt ops l)(T:Trace call l E H [] E' H' Es Hs Rs Wn Vs Fp)(hm:H.bc≤H.next)(J:WF H){ρ0 ρ:Ho}{C0:Nat→Option dP}{w0 w:World}(U:j7 ρ0 C0 H)(E7:ia ρ0 H.next H'.next)
  {S:Nat→Bool} {a:Act} (G:∀i,i<l.length→S i=true) (hI:Inv P nt l E H H' Hs Vs ρ0 C0 w0 S a w ρ):AR P ρ nt E' a∧R ρ (gy C0 H H') w:=by
 have h0:Hs 0=H:=T.h0
 have hN:Hs l.length=H':=T.hN
 have z:∀i k,i≤k→k≤l.length→(Hs i).next≤(Hs k).next:=fun i k h1 h2=>(T.mu hc hr hm J k h1 h2).next
 refine⟨AR.congr hI.ar fun t=>?_,hI.r.weaken fun f o K hd=>?_⟩
 ·rw[←T.eN,T.env l.length (bY _)]
  exact CH t _ fun i hi Z=>absurd (G i hi).symm Z
 obtain⟨g,x,hx⟩:=hd
 have I:=hI.jj f g x hx
 have known:∀O,H'.t.get f=some O→rC C0 Hs S l.length f=some O:=by
  rw[←hN]
  refine F7 f (fun O A=>?_) _ (fun i hi Z=>by rw[G i hi] at Z;cases Z)
  rw[h0] at A
  rcases I with e|⟨k,hk,_,e1,e2⟩
  ·exact U f O e A
  have n1:=z 0 k (by omega) (by omega)
  rw[h0] at n1
  rw[J f (by omega)] at A;cases A
 unfold gy at K
 split at K
 ·exact known o K
 rename_i hn
 split at K
 ·rename_i he
  have hd0:∃g0 x0,ρ0 f g0=some x0:=by
   rcases I with e|⟨k,hk,_,e1,e2⟩
   ·exact e
   have n1:=z 0 k (by omega) (by omega)
   have n2:=z (k+1) l.length (by omega) (by omega)
   rw[h0] at n1;rw[hN] at n2
   omega
  cases hg:H.t.get f with
  |some O=>
   have:=U f O hd0 hg
   rw[K] at this;cases this
   exact known o (he.trans hg)
  |none=>
   have nn:∀i,i≤l.length→(Hs i).t.get f=none:=by
    intro i hi
    cases p6:(Hs i).t.get f with
    |none=>rfl
    |some o2=>
     have:=(T.mu hc hr hm J (i:=i) l.length hi (bY _)).iR f (by rw[p6];simp)
     rw[hN,he,hg] at this;exact absurd rfl this
   rw[zs (j:=0) f l.length (dh _) fun k _ hk _ Y=>?_]
   ·exact K
   rcases Y with Y|Y
   ·have n1:=z 0 k (by omega) (by omega)
    have n2:=z (k+1) l.length (by omega) (by omega)
    rw[h0] at n1;rw[hN] at n2
    omega
   rw[nn k (by omega),nn (k+1) (by omega)] at Y;exact Y rfl
 exact known o K
theorem LA{ms:List Nat}{z:List bo}(G:l=oU ms 0 [] z)(T:Trace call l E H [] E' H' Es Hs Rs Wn Vs Fp):∀n,n≤l.length→Rs n=(seenAt z n).map Fp
 |0,_=>T.r0
 |n+1,J=>by
  obtain⟨o,ho⟩:∃o,l[n]?=some o:=⟨_,eY (by omega)⟩
  rw[(T.step n o ho).2.2,LA G T n (by omega)]
  obtain⟨A,h0,_,_,_,I⟩:=zc (ms:=ms) (L:=z) z 0 (fun n=>by simp) n o (by rw[←ho,G];rfl)
  rw[jS] at h0 I
  unfold zb
  simp only[seenAt,h0]
  rw[I]
  cases mC A.op<;>rfl
theorem Sl{ms:List Nat}{G:List bo}(U:l=oU ms 0 [] G)(Y:∀j i,(ms.getD j 0).testBit i=true→kX ops i j)(T:Trace call l E H [] E' H' Es Hs Rs Wn Vs Fp)
  (i j:Nat) (x y:bo) (Z:i<j) (hx:l[i]?=some x) (hy:l[j]?=some y) (qx:x.q.isSome=true) (I:y.q.isSome=true):kX ops i j∨w6 (Fp j) (Fp i):=by
 have A7:j<l.length:=(List.getElem?_eq_some_iff.1 hy).1
 obtain⟨x0,J,_,_,_,A⟩:=zc (ms:=ms) (L:=G) G 0 (fun n=>by simp) i x (by rw[←hx,U];rfl)
 obtain⟨y0,Iv,_,_,_,z⟩:=zc (ms:=ms) (L:=G) G 0 (fun n=>by simp) j y (by rw[←hy,U];rfl)
 rw[jS] at J Iv A z
 have px:mC x0.op=false:=by
  cases h:mC x0.op
  ·rfl
  rw[h] at A;rw[A] at qx;cases qx
 have py:mC y0.op=false:=by
  cases h:mC y0.op
  ·rfl
  rw[h] at z;rw[z] at I;cases I
 rw[py] at z
 cases hb:(ms.getD j 0).testBit i
 case true=>exact .inl (Y _ _ hb)
 right
 obtain⟨n,hn⟩:=HB (JJ J px j Z)
 have hp:=Jc hb (seenAt G j) 0 n hn
 rw[jS] at hp
 have hr:=LA U T j (by omega)
 generalize hWj:Wn j=wj at*
 generalize hVj:Vs j=vj at*
 have st:=(T.step j y hy).1
 have key:∀{b:Bool}{v:an}{fp:FP}{H1:az},pN call y (Es j) (Hs j) (Rs j) b v fp H1→w6 fp (Fp i):=by
  intro b v fp H1 st
  cases st with
  |skip hw K=>
   rw[K I]
   exact⟨fun _ h=>(by cases h),fun _ _=>⟨[],rfl,by simp⟩,fun _ h=>(by cases h),fun _ h=>(by cases h)⟩
  |plain hw K _=>rw[K] at I;cases I
  |marked hw K he ha=>
   rename_i q H2
   rw[K] at z
   simp at z
   subst z
   obtain⟨b,O,yI⟩:=Jr ha n hp
   rw[hr,iO,hn] at O
   cases O
   exact yI
 exact key st
theorem P8(Y:kt P call)(I:uw P nt ops l){ms:List Nat}{l0:List bo}(hl:l=oU ms 0 [] l0)(Z:∀j i,(ms.getD j 0).testBit i=true→kX ops i j)(J:P.follows .mixedOrders=true)
  {ρ:Ho} {C:Nat→Option dP} {w:World} {a:Act} {id:Nat} {K:Act→World→Prop} {Q:Exit→Act→World→Prop} (h:lR call l E H []= .ok E' H') (hA:AR P ρ nt E a) (O:R ρ C w) (hK:j7 ρ C H) (hF:ia ρ H.next H'.next) (hm:H.bc≤H.next) (A:WF H)
  (G:qw P nt E' H H' C ρ w K) (hQ:∀a w,K a w→Q .normal a w):(Code.region id ops true).wp P Q a w:=by
 obtain⟨Es,Hs,Rs,Wn,Vs,Fp,T⟩:=KM l E H [] E' H' h
 have hnn:H.next≤H'.next:=by
  have:=(T.mu Y I hm A (i:=0) l.length (dh _) (bY _)).next
  rw[T.h0,T.hN] at this;exact this
 refine wp_region_any J (UO Y I T (Sl hl Z T) hm A (ρ0:=ρ) (C0:=C) (w0:={w with drawn:=w.drawn+1}) hK hF (fun S a' w' ρ' U hI=>?_) ops.size _ a _ ρ (by simp[I.len]) ?_ ⟨?_,?_,?_,fun f g h e=>.inl ⟨g,h,e⟩⟩ ?_)
 ·obtain⟨k1,k2⟩:=hI.fin Y I T hm A hK hF U
  have he:=hI.ext
  exact hQ _ _ (G a' w' ρ' k1 ⟨he.le,he.jj,he.b8,he.frame,he.size,he.nn,he.os,he.tape,he.output⟩ k2 (BN hK he.jj))
 ·intro j o e ho he hb hj
  exact absurd hj (by unfold kr;by_cases z:j<ops.size<;>simp[uG,GW,z])
 ·refine AR.congr hA fun t=>?_
  rw[Ch (j:=0) t l.length (dh _) fun k _ _ hk=>?_]
  ·rfl
  exact absurd hk (by unfold kr;by_cases z:k<ops.size<;>simp[uG,GW,z])
 ·have e:rC C Hs (kr (Array.replicate ops.size false)) l.length=C:=funext fun f=>by
   rw[zs (j:=0) f l.length (dh _) fun k _ _ hk=>?_]
   ·rfl
   exact absurd hk (by unfold kr;by_cases z:k<ops.size<;>simp[uG,GW,z])
  rw[e]
  exact⟨fun f o ho g x hx=>(O.obj f o ho g x hx).iR (Ho.le_refl _) rfl,O.nS,O.jX,O.uniq,O.mw⟩
 ·exact(Ext.refl _ H.next ρ _).wide (bY _) hnn
 unfold Fa
 refine kb (List.length_filter_le _ _) ?_
 simp[I.len]
end
def guardOf(ops:Array Oper):Option (Nat×Bool)→Option (Option (Key×Bool))
 |none=>some none
 |some (j,want)=>match(ops[j]?).bind (·.dst) with|some d=>if d<1296 then some (some (pk d,want)) else none|none=>none
def Hh(nt:Nat):Option Nat→Bool
 |some d=>decide (d<nt)&&decide (d<1296)
 |none=>true
def D4(P:Program)(o:Op):bE:=match AN P o with|some io=>io|none=>A4
def Hi(P:Program)(nt:Nat)(ops:Array Oper)(o:Oper):Option bo:=
 match guardOf ops o.guard with
 |none=>none
 |some g=>if Hh nt o.dst=true then some {dst:=o.dst.map pk,g:=g,q:=none,op:=D4 P o.op} else none
def CI(P:Program)(nt:Nat)(ops:Array Oper):List Oper→Option (List bo)
 |[]=>some []
 |o::r=>match Hi P nt ops o,CI P nt ops r with
  |some a,some l=>some (a::l)
  |_,_=>none
def An:IC:=.region false [{dst:=none,g:=none,q:=none,op:=A4}]
def KN(P:Program)(nt:Nat)(ops:Array Oper)(draw:Bool):IC:=
 match CI P nt ops ops.toList with
 |none=>An
 |some l=>
  if draw then
   let ms:=wL ops.toList []
   if B1 0 ops.toList&&Mq ms l then .region true (oU ms 0 [] l) else An
  else .region false l
def lg(P:Program)(nt:Nat):Code→IC
 |.skip=>.skip
 |.region _ ops draw=>KN P nt ops draw
 |.seq a b=>.seq (lg P nt a) (lg P nt b)
 |.cond c a b=>match dc P c with
  |some y=>.cond y (lg P nt a) (lg P nt b)
  |none=>An
 |.block id b=>.block id (lg P nt b)
 |.loop b=>.loop (lg P nt b)
 |.exit id=>.exit id
 |.ret=>.ret
 |_=>An
def nc(P:Program):List ResultVar→Option (List lG)
 |[]=>some []
 |.tmp t::r=>match nc P r with|some l=>if t<1296 then some (.tmp (pk t)::l) else none|none=>none
 |.cell a t::r=>match nc P r,jx P t with|some l,some n=>if a<1296 then some (.cell (pk a) n (pE P t)::l) else none|_,_=>none
def uL(P:Program)(fn:Func):Option bD:=
 match fn.body,nc P fn.results.toList with
 |some c,some rs=>if fn.params.size+fn.nfree≤fn.ntmps∧fn.params.size+fn.nfree≤1296∧(fn.name== "runtime.NumGoroutine")=false then some {nt:=fn.ntmps,ps:=(List.range (fn.params.size+fn.nfree)).map pk,res:=rs,body:=lg P fn.ntmps c} else none
 |_,_=>none
section
variable{P:Program}{nt:Nat}{ops:Array Oper}
theorem Sm{o:Oper}{io:bo}(h:Hi P nt ops o=some io):yo P nt ops o io:=by
 unfold Hi at h
 cases z:guardOf ops o.guard with
 |none=>rw[z] at h;cases h
 |some g=>
  rw[z] at h
  dsimp only at h
  split at h
  ·rename_i A
   cases h
   refine⟨?_,fun d e=>?_,?_,?_⟩
   ·show o.dst=(o.dst.map pk).map Key.n
    cases ho:o.dst with
    |none=>rfl
    |some d=>
     rw[ho] at A
     simp only[Hh,fv,eP] at A
     simp only[uH,wa A.2]
   ·have e:o.dst.map pk=some d:=e
    cases ho:o.dst with
    |none=>rw[ho] at e;cases e
    |some x=>
     rw[ho] at A e
     simp only[Hh,fv,eP] at A
     cases e
     rw[wa A.2]
     exact A.1
   ·cases h0:o.guard with
    |none=>rw[h0] at z;cases z;exact .inl ⟨rfl,rfl⟩
    |some K=>
     obtain⟨j,want⟩:=K
     rw[h0] at z
     unfold guardOf at z
     split at z
     ·rename_i G;cases G
     rename_i O I G
     cases G
     split at z
     ·rename_i d A
      split at z
      ·rename_i J
       cases z
       exact .inr ⟨j,want,pk d,rfl,by rw[wa J];exact A,rfl⟩
      cases z
     cases z
   show AN P o.op=some (D4 P o.op)∨D4 P o.op=A4
   unfold D4
   split
   ·rename_i io h;exact .inl h
   exact .inr rfl
  cases h
theorem J9:∀{os:List Oper}{l:List bo},CI P nt ops os=some l→l.length=os.length∧∀(i:Nat)(o:Oper)(io:bo),os[i]?=some o→l[i]?=some io→yo P nt ops o io
 |[],l,h=>by cases h;exact⟨rfl,fun i o io h=>by simp at h⟩
 |o::r,l,h=>by
  unfold CI at h
  split at h
  ·rename_i a I G h2
   cases h
   obtain⟨e,k⟩:=J9 h2
   refine⟨by simp[e],fun i x io A z=>?_⟩
   cases i with
   |zero=>simp at A z;subst A;subst z;exact Sm G
   |succ i=>exact k i x io (by simpa using A) (by simpa using z)
  cases h
def OE:Ex→Exit
 |.normal=>.normal
 |.exit id=>.exit id
 |.ret=>.ret
theorem Fw{r:Out}{k:Env→az→Out}{x:Ex}{E':Env}{H':az}(h:tg r k= .ok x E' H'):
  ∃y E1 H1,r= .ok y E1 H1∧((y= .normal∧k E1 H1= .ok x E' H')∨(y≠.normal∧y=x∧E1=E'∧H1=H')):=by
 cases r with
 |err n=>cases h
 |ok y E1 H1=>
  refine⟨y,E1,H1,rfl,?_⟩
  cases y with
  |normal=>exact .inl ⟨rfl,h⟩
  |exit id=>cases h;exact .inr ⟨by simp,rfl,rfl,rfl⟩
  |ret=>cases h;exact .inr ⟨by simp,rfl,rfl,rfl⟩
theorem CJ{r:eA}{x:Ex}{E':Env}{H':az}(h:yC r= .ok x E' H'):x= .normal∧r= .ok E' H':=by
 cases r with
 |err n=>cases h
 |ok E H=>cases h;exact⟨rfl,rfl⟩
theorem pN.mu{call:eC}(A:kt P call){o:bo}{E:Env}{H:az}{bP:List FP}{b:Bool}{v:an}{fp:FP}{H1:az}(z:H.bc≤H.next)(h:pN call o E H bP b v fp H1):gn H H1:=by
 cases h with
 |skip=>exact gn.refl _
 |plain _ _ he=>exact TM.ins z (fun f a=>A.mu f a H z) E o.op v _ he
 |marked _ _ he _=>exact(TM.ins (H:=H.mark) (bY _) (fun f a=>A.mu f a _ (bY _)) E o.op v _ he).xo z
theorem Ju{call:eC}(z:kt P call):∀(l:List bo)(E:Env)(H:az)(bP:List FP)(E':Env)(H':az),H.bc≤H.next→lR call l E H bP= .ok E' H'→gn H H'
 |[],E,H,bP,E',H',_,h=>by cases h;exact gn.refl _
 |o::r,E,H,bP,E',H',A,h=>by
  obtain⟨b,v,fp,H1,G,h2⟩:=KL (show o.na call E H bP (lR call r)= .ok E' H' from h)
  have t1:=G.mu z A
  exact t1.trans (Ju z r _ _ _ _ _ (by rw[t1.bc];exact kb A t1.next) h2)
def TF(f:Env→az→Out):Prop:=∀E H x E' H',H.bc≤H.next→f E H= .ok x E' H'→gn H H'
theorem TF.seq{f g:Env→az→Out}(A:TF f)(G:TF g):TF fun E H=>tg (f E H) g:=by
 intro E H x E' H' z h
 obtain⟨y,E1,H1,I,h2⟩:=Fw h
 have t1:=A _ _ _ _ _ z I
 rcases h2 with⟨_,h2⟩|⟨_,_,_,e⟩
 ·exact t1.trans (G _ _ _ _ _ (by rw[t1.bc];exact kb z t1.next) h2)
 exact e▸t1
theorem TF.loop{f:Env→az→Out}(z:TF f):∀n,TF (uo f n)
 |0=>fun _ _ _ _ _ _ h=>by cases h
 |n+1=>TF.seq z (TF.loop z n)
theorem KO{c:aF}{i j:IC}{f g:Env→az→Out}{E E':Env}{H H':az}{x:Ex}(h:G' c i j f g E H= .ok x E' H'):∃t,c.ev E=some (.bool t)∧(if t then f E H else g E H)= .ok x E' H':=by
 unfold G' at h
 cases z:c.ev E with
 |none=>rw[z] at h;cases h
 |some v=>
  rw[z] at h
  cases v<;>try(cases h;done)
  rename_i t
  refine⟨t,rfl,?_⟩
  cases t<;>exact h
theorem J'{id:Nat}{i:IC}{f:Env→az→Out}{E E':Env}{H H':az}{x:Ex}(h:zO id i f E H= .ok x E' H'):
  ∃y,f E H= .ok y E' H'∧((y= .normal∧x= .normal)∨(y= .exit id∧x= .normal)∨(∃z,z≠id∧y= .exit z∧x= .exit z)∨(y= .ret∧x= .ret)):=by
 unfold zO at h
 cases A:f E H with
 |err n=>rw[A] at h;cases h
 |ok y E1 H1=>
  rw[A] at h
  cases y with
  |normal=>cases h;exact⟨_,rfl,.inl ⟨rfl,rfl⟩⟩
  |ret=>cases h;exact⟨_,rfl,.inr (.inr (.inr ⟨rfl,rfl⟩))⟩
  |exit z=>
   have h:aH (Nat.beq z id) (Out.ok .normal E1 H1) (.ok (.exit z) E1 H1)= .ok x E' H':=h
   by_cases he:z=id
   ·subst he
    rw[show Nat.beq z z=true from iZ z] at h
    cases h;exact⟨_,rfl,.inr (.inl ⟨rfl,rfl⟩)⟩
   have e:Nat.beq z id=false:=by
    cases G:Nat.beq z id
    ·rfl
    exact absurd (d8 G) he
   rw[e] at h
   cases h;exact⟨_,rfl,.inr (.inr (.inl ⟨z,he,rfl,rfl⟩))⟩
theorem qP{call:eC}{lf:Nat}(z:kt P call):∀c:IC,TF (c.ev call lf)
 |.skip=>fun _ _ _ _ _ _ h=>by cases h;exact gn.refl _
 |.region d ops=>fun E H x E' H' A h=>by
  cases d with
  |false=>exact BH z ops E H E' H' A (CJ h).2
  |true=>exact Ju z ops E H [] E' H' A (CJ h).2
 |.seq a b=>TF.seq (qP z a) (qP z b)
 |.cond c a b=>fun E H x E' H' A h=>by
  obtain⟨t,_,h⟩:=KO (i:=a) (j:=b) (f:=a.ev call lf) (g:=b.ev call lf) h
  cases t
  ·exact qP z b _ _ _ _ _ A h
  exact qP z a _ _ _ _ _ A h
 |.block id b=>fun E H x E' H' A h=>by
  obtain⟨y,h,_⟩:=J' (i:=b) (f:=b.ev call lf) h
  exact qP z b _ _ _ _ _ A h
 |.loop b=>TF.loop (qP z b) lf
 |.exit id=>fun _ _ _ _ _ _ h=>by cases h;exact gn.refl _
 |.ret=>fun _ _ _ _ _ _ h=>by cases h;exact gn.refl _
variable{ρ:Ho}{E E':Env}{H H' H1:az}{C:Nat→Option dP}{w:World}{a:Act}{call:eC}{lf:Nat}
theorem qw.step(Y:j7 ρ C H)(t1:gn H H1)(t2:gn H1 H'){K:Act→World→Prop}(z:qw P nt E' H H' C ρ w K){A:Ho}{Z:World}(G:Ext (Wr H1) H.next H1.next ρ A w Z):qw P nt E' H1 H' (gy C H H1) A Z K:=
 fun a2 w2 I J O U _=>by
  have h2:=(G.mono (Gl t2)).trans O
  exact z a2 w2 I J h2 (U.weaken fun f o h hf=>J5 Y t1.next t2.next t2.iR h2.jj f o h hf) (BN Y h2.jj)
theorem qw.refl{K:Act→World→Prop}(A:AR P ρ nt E a)(G:R ρ C w)(I:j7 ρ C H)(z:qw P nt E H H C ρ w K):K a w:=by
 refine z a w ρ A (Ext.refl _ _ _ _) ?_ ?_
 ·rw[po];exact G
 rw[po];exact I
theorem tc{x:Ex}(h:An.ev call lf E H= .ok x E' H'):False:=by cases h
def zQ(P:Program)(nt:Nat)(c:Code)(f:Env→az→Out):Prop:=
 ∀E H x E' H' ρ C a w Q,f E H= .ok x E' H'→AR P ρ nt E a→R ρ C w→j7 ρ C H→ia ρ H.next H'.next→H.bc≤H.next→WF H→qw P nt E' H H' C ρ w (Q (OE x))→c.wp P Q a w
theorem zQ.rounds{c:Code}{f:Env→az→Out}(J:zQ P nt c f)(K:TF f):∀n E H x E' H' ρ C a w(Q:Exit→Act→World→Prop),uo f n E H= .ok x E' H'→AR P ρ nt E a→R ρ C w→j7 ρ C H→ia ρ H.next H'.next→H.bc≤H.next→WF H→
  qw P nt E' H H' C ρ w (Q (OE x))→Code.rounds P c Q n a w
 |0,_,_,_,_,_,_,_,_,_,_,h,_,_,_,_,_,_,_=>by cases h
 |n+1,E,H,x,E',H',ρ,C,a,w,Q,h,hA,hR,O,U,I,z,Y=>by
  rw[rounds_succ]
  obtain⟨y,E1,H1,Z,h2⟩:=Fw (k:=uo f n) h
  have t1:=K _ _ _ _ _ I Z
  have A:H1.bc≤H1.next:=by rw[t1.bc];exact kb I t1.next
  rcases h2 with⟨rfl,h2⟩|⟨hy,rfl,rfl,rfl⟩
  ·have t2:=TF.loop K n _ _ _ _ _ A h2
   exact J E H _ E1 H1 ρ C a w _ Z hA hR O (U.le t2.next) I z fun a1 w1 ρ1 Iw G Ix Bd=>(zQ.rounds J K n E1 H1 x E' H' ρ1 _ a1 w1 Q h2 Iw Ix Bd (U.sub G.jj t1.next) A (t1.wf z) (Y.step O t1 t2 G))
  refine J E H _ E1 H1 ρ C a w _ Z hA hR O U I z ?_
  cases y with
  |normal=>exact absurd rfl hy
  |exit id=>exact Y
  |ret=>exact Y
theorem vd(hc:kt P call)(G:P.follows .mixedOrders=true):∀c:Code,zQ P nt c ((lg P nt c).ev call lf)
 |.skip=>fun E H x E' H' ρ C a w Q h I U J Z Y z A=>by
  cases h
  exact wp_skip (A.refl I U J)
 |.exit id=>fun E H x E' H' ρ C a w Q h I U J Z Y z A=>by
  cases h
  exact wp_exit (A.refl I U J)
 |.ret=>fun E H x E' H' ρ C a w Q h I U J Z Y z A=>by
  cases h
  exact wp_ret (A.refl I U J)
 |.seq c d=>fun E H x E' H' ρ C a w Q h I U J Z Y z A=>by
  have yO:=vd hc G c
  have hd:=vd hc G d
  obtain⟨y,E1,H1,h1,h2⟩:=Fw (k:=(lg P nt d).ev call lf) h
  have t1:=qP hc (lg P nt c) _ _ _ _ _ Y h1
  have sO:H1.bc≤H1.next:=by rw[t1.bc];exact kb Y t1.next
  refine wp_seq ?_
  rcases h2 with⟨rfl,h2⟩|⟨hy,rfl,rfl,rfl⟩
  ·have t2:=qP hc (lg P nt d) _ _ _ _ _ sO h2
   exact yO E H _ E1 H1 ρ C a w _ h1 I U J (Z.le t2.next) Y z fun a1 w1 ρ1 Iw uX Ix Bd=>(hd E1 H1 x E' H' ρ1 _ a1 w1 Q h2 Iw Ix Bd (Z.sub uX.jj t1.next) sO (t1.wf z) (A.step J t1 t2 uX))
  refine yO E H _ E1 H1 ρ C a w _ h1 I U J Z Y z ?_
  cases y with
  |normal=>exact absurd rfl hy
  |exit id=>exact A
  |ret=>exact A
 |.cond c d e=>fun E H x E' H' ρ C a w Q h I U J Z Y z A=>by
  unfold lg at h
  split at h
  ·rename_i y hy
   obtain⟨t,h1,h2⟩:=KO (i:=lg P nt d) (j:=lg P nt e) (f:=(lg P nt d).ev call lf) (g:=(lg P nt e).ev call lf) h
   have k:=I.b9 hy h1
   simp only[VR] at k
   refine wp_cond (t:=t) k ?_
   cases t
   ·exact vd hc G e E H x E' H' ρ C a w Q h2 I U J Z Y z A
   exact vd hc G d E H x E' H' ρ C a w Q h2 I U J Z Y z A
  exact(tc h).elim
 |.block id c=>fun E H x E' H' ρ C a w Q h I U J Z Y z A=>by
  obtain⟨y,h1,h2⟩:=J' (i:=lg P nt c) (f:=(lg P nt c).ev call lf) h
  refine wp_block (vd hc G c E H y E' H' ρ C a w _ h1 I U J Z Y z ?_)
  rcases h2 with⟨rfl,rfl⟩|⟨rfl,rfl⟩|⟨id',lk,rfl,rfl⟩|⟨rfl,rfl⟩
  ·exact A
  ·intro a1 w1 ρ1 b1 b2 b3 b4
   show Exit.inBlock id Q (.exit id) a1 w1
   simp only[Exit.inBlock,if_true]
   exact A a1 w1 ρ1 b1 b2 b3 b4
  ·intro a1 w1 ρ1 b1 b2 b3 b4
   show Exit.inBlock id Q (.exit id') a1 w1
   simp only[Exit.inBlock,aj lk]
   exact A a1 w1 ρ1 b1 b2 b3 b4
  exact A
 |.loop c=>fun E H x E' H' ρ C a w Q h I U J Z Y z A=>
  wp_loop_rounds lf (zQ.rounds (vd hc G c) (qP hc _) lf E H x E' H' ρ C a w Q h I U J Z Y z A)
 |.region id ops draw=>fun E H x E' H' ρ C a w Q h I U J Z Y z A=>by
  unfold lg KN at h
  split at h
  ·exact(tc h).elim
  rename_i l hl
  obtain⟨hlen,yK⟩:=J9 hl
  cases draw with
  |false=>
   simp only[pR,if_false] at h
   obtain⟨rfl,hz⟩:=CJ (r:=mG call l E H) h
   refine wp_region ?_
   rw[show ops.size=l.length by rw[hlen];simp,List.range_eq_range']
   exact Jq hc (K:=Q .normal) l ops.toList 0 hlen.symm yK (fun i o h=>by simpa using h) E H E' H' ρ C a w hz I U J Z Y z A (fun _ _ h=>h)
  |true=>
   simp only[if_true] at h
   split at h
   ·rename_i Iy
    simp only[fv] at Iy
    obtain⟨rfl,hz⟩:=CJ (r:=lR call (oU (wL ops.toList []) 0 [] l) E H []) h
    have Ph:=Jb (ops:=ops) ops.toList [] (fun n=>by simp) (fun j i h=>by simp at h)
    have get:∀{i:Nat}{io:bo},(oU (wL ops.toList []) 0 [] l)[i]?=some io→∃O,l[i]?=some O∧io.dst=O.dst∧io.g=O.g∧io.op=O.op∧(io.q=none→mC io.op=true):=by
     intro i io Bc
     obtain⟨O,h0,h1,h2,h3,h4⟩:=zc (ms:=wL ops.toList []) (L:=l) l 0 (fun n=>by simp) i io Bc
     rw[jS] at h0
     refine⟨O,h0,h1,h2,h3,fun hq=>?_⟩
     rw[hq] at h4
     rw[h3]
     cases hp:mC O.op
     ·rw[hp] at h4;simp at h4
     rfl
    refine P8 hc ⟨?_,?_,?_,?_,?_⟩ rfl Ph G hz I U J Z Y z A (fun _ _ h=>h)
    ·rw[Jd,hlen];simp
    ·intro i o io ho Bc
     obtain⟨O,h0,h1,h2,h3,_⟩:=get Bc
     have k:=yK i o O (by simpa using ho) h0
     exact⟨by rw[h1];exact k.dst,fun d hd=>k.lt d (by rw[←h1];exact hd),by rw[h2];exact k.g,by rw[h3];exact k.op⟩
    ·intro j o e ho he hb
     have:=Js ops.toList 0 Iy.1 j o e (by simpa using ho) he hb
     omega
    ·intro i j x y hij hx hy
     obtain⟨x0,hx0,a1,a2,a3,_⟩:=get hx
     obtain⟨y0,Iv,b1,b2,b3,_⟩:=get hy
     rcases RH Iy.2 hij hx0 Iv with k|k
     ·exact .inl (Ph _ _ k)
     refine .inr ⟨fun t A=>?_,fun t A=>?_,fun t A=>?_⟩
     ·rw[a1];exact k.xy t (by unfold r6 at A⊢;rw[←b2,←b3];exact A)
     ·rw[a1];exact k.dd t (by rw[←b1];exact A)
     rw[b1];exact k.yx t (by unfold r6 at A⊢;rw[←a2,←a3];exact A)
    intro i x hx hq
    obtain⟨_,_,_,_,_,k⟩:=get hx
    exact k hq
   exact(tc h).elim
 |.rangeFunc ..=>fun E H x E' H' ρ C a w Q h _ _ _ _ _ _ _=>(tc h).elim
 |.scope _=>fun E H x E' H' ρ C a w Q h _ _ _ _ _ _ _=>(tc h).elim
 |.label _=>fun E H x E' H' ρ C a w Q h _ _ _ _ _ _ _=>(tc h).elim
 |.goto _=>fun E H x E' H' ρ C a w Q h _ _ _ _ _ _ _=>(tc h).elim
 |.refuse _=>fun E H x E' H' ρ C a w Q h _ _ _ _ _ _ _=>(tc h).elim
end
end Go.Ev
