/- Part 9 of rules for walks through the code of a program, and of such walks; what each part proves is said by its theorems. -/
import Derived.Test.YtdaamclhcpjdpaaGreatDoorT8
set_option linter.unusedVariables false
set_option linter.unusedSimpArgs false
noncomputable section
set_option maxRecDepth 100000
set_option maxHeartbeats 4000000
namespace Go.Ev
def PS(H:ay)(r:aC):Prop:=∀v H',r= .ok v H'→H'=H
theorem PS.err{H:ay}{n:Nat}:PS H (.err n):=fun _ _ h=>by cases h
theorem PS.ok{H:ay}{v:ak}:PS H (.ok v H):=fun _ _ h=>by cases h;rfl
theorem PS.aD{H:ay}{b:Bool}{k e:aC}(h:PS H k)(h':PS H e):PS H (aD b k e):=by cases b;exact h';exact h
theorem PS.ob{H:ay}{α:Type}{o:Option α}{e:aC}{k:α→aC}(h:∀x,PS H (k x))(h':PS H e):PS H (ob o e k):=by cases o;exact h';exact h _
theorem PS.bo{H:ay}{x:aI}{E:Env}{e:aC}{k:ak→aC}(h:∀x,PS H (k x))(h':PS H e):PS H (bo x E e k):=by
 cases x with
 |t i=>exact PS.ob (o:=E.get i) h h'
 |c a=>exact h a
theorem PS.uT{H:ay}{a:ak}{e:aC}{k:Bool→aC}(h:∀x,PS H (k x))(h':PS H e):PS H (uT a e k):=by cases a<;>first|exact h'|exact h _
theorem PS.fq{H:ay}{a:ak}{e:aC}{k:IntKind→Int→aC}(h:∀x y,PS H (k x y))(h':PS H e):PS H (fq a e k):=by cases a<;>first|exact h'|exact h _ _
theorem PS.jQ{H:ay}{a:ak}{e:aC}{k:Nat→Nat→aC}(h:∀x y,PS H (k x y))(h':PS H e):PS H (jQ a e k):=by cases a<;>first|exact h'|exact h _ _
theorem PS.gw{H:ay}{a:ak}{e:aC}{k:Nat→Nat→Nat→aC}(h:∀x y z,PS H (k x y z))(h':PS H e):PS H (gw a e k):=by cases a<;>first|exact h'|exact h _ _ _
theorem PS.eT{H:ay}{a:ak}{e A:aC}{k:Nat→Nat→Nat→Nat→Nat→aC}(h:∀x y z u w,PS H (k x y z u w))(h2:PS H A)(h':PS H e):PS H (eT a e A k):=by cases a<;>first|exact h'|exact h2|exact h _ _ _ _ _
theorem PS.mh{H:ay}{a:ak}{e:aC}{k:List ak→aC}(h:∀x,PS H (k x))(h':PS H e):PS H (mh a e k):=by cases a<;>first|exact h'|exact h _
theorem PS.uJ{H:ay}{a:ak}{e:aC}{k:List ak→aC}(h:∀x,PS H (k x))(h':PS H e):PS H (uJ a e k):=by cases a<;>first|exact h'|exact h _
theorem PS.AG{H:ay}{a:ak}{e:aC}{k:Nat→List ak→List ak→aC}(h:∀x y z,PS H (k x y z))(h':PS H e):PS H (AG a e k):=by cases a<;>first|exact h'|exact h _ _ _
theorem PS.gR{H:ay}{i:Int}{e:aC}{k:Nat→aC}(h:∀x,PS H (k x))(h':PS H e):PS H (gR i e k):=by cases i;exact h _;exact h'
theorem PS.idx{H:ay}{a:ak}{n:Nat}{e:aC}{k:Nat→aC}(h:∀x,PS H (k x))(h':PS H e):PS H (idx a n e k):=PS.fq (fun _ _=>PS.gR (fun _=>PS.aD (h _) h') h') h'
theorem PS.er{H:ay}{E:Env}{x:Option aI}{d y:Nat}{e:aC}{k:Nat→aC}(h:∀x,PS H (k x))(h':PS H e):PS H (er E x d y e k):=by
 cases x with
 |none=>exact h _
 |some z=>exact PS.ob (fun _=>PS.fq (fun _ _=>PS.gR (fun _=>PS.aD (h _) h') h') h') h'
theorem PS.iT{H:ay}{o:Option cV}{e:aC}{k:Nat→Nat→Nat→Nat→Nat→Nat→RT→aC}(h:∀a b c d e f g,PS H (k a b c d e f g))(h':PS H e):PS H (iT o e k):=by
 cases o with
 |none=>exact h'
 |some o=>cases o with
  |row=>exact h _ _ _ _ _ _ _
  |map=>exact h'
theorem PS.fN{H:ay}{agg:Bool}{l:List ak}{e:aC}{k:ak→aC}(h:∀x,PS H (k x))(h':PS H e):PS H (fN agg l e k):=by
 refine PS.aD (h _) ?_
 cases l with
 |nil=>exact h'
 |cons x r=>cases r with
  |nil=>exact h _
  |cons=>exact h'
theorem PS.cL{H:ay}{n:Nat}{k:Nat→aC}(h:∀x,PS H (k x)):PS H (cL n k):=by rw[fQ];exact h _
theorem PS.lq{H:ay}{n:Int}{k:Int→aC}(h:∀x,PS H (k x)):PS H (lq n k):=by rw[wV];exact h _
theorem PS.me{H:ay}{n:ak}{k:ak→aC}(h:∀x,PS H (k x)):PS H (me n k):=by rw[wW];exact h _
theorem PS.nG{H:ay}{n:Bool}{k:Bool→aC}(h:∀x,PS H (k x)):PS H (nG n k):=by cases n<;>exact h _
theorem pure_same{call:dG}{H:ay}{E:Env}{o:bm}(z:mf o=true):PS H (o.ev call E H):=by
 cases o with
 |cj x=>exact PS.bo (fun _=>PS.ok) PS.err
 |pick c a b=>exact PS.bo (fun _=>PS.uT (fun _=>PS.aD (PS.bo (fun _=>PS.ok) PS.err) (PS.bo (fun _=>PS.ok) PS.err)) PS.err) PS.err
 |pb a b c d=>cases z
 |box a b c d=>cases z
 |load a b c=>cases z
 |store a b c=>cases z
 |bin op x y=>exact PS.bo (fun _=>PS.bo (fun _=>by rw[K3];exact PS.ob (fun _=>PS.me fun _=>PS.ok) PS.err) PS.err) PS.err
 |eqv c n x y=>exact PS.bo (fun _=>PS.bo (fun _=>PS.ob (fun _=>PS.nG fun _=>PS.ok) PS.err) PS.err) PS.err
 |un op x=>exact PS.bo (fun _=>PS.ob (fun _=>PS.me fun _=>PS.ok) PS.err) PS.err
 |dM x k=>exact PS.bo (fun _=>PS.gw (fun _ _ _=>PS.cL fun _=>PS.ok) PS.err) PS.err
 |sub x a b c=>exact PS.bo (fun _=>PS.mh (fun _=>PS.aD (PS.fN (fun _=>PS.ok) PS.err) PS.err) PS.err) PS.err
 |AF a b x i=>exact PS.bo (fun _=>PS.gw (fun _ _ _=>PS.bo (fun _=>PS.idx (fun _=>PS.cL fun _=>PS.ok) PS.err) PS.err) PS.err) PS.err
 |gQ a x i=>exact PS.bo (fun _=>PS.eT (fun _ _ _ _ _=>PS.bo (fun _=>PS.idx (fun _=>PS.cL fun _=>PS.ok) PS.err) PS.err) PS.err PS.err) PS.err
 |Di a b c x i=>exact PS.bo (fun _=>PS.mh (fun _=>PS.bo (fun _=>PS.idx (fun _=>PS.aD (PS.fN (fun _=>PS.ok) PS.err) PS.err) PS.err) PS.err) PS.err) PS.err
 |Dj x i=>exact PS.bo (fun _=>PS.jQ (fun _ _=>PS.bo (fun _=>PS.idx (fun _=>PS.cL fun _=>PS.ok) PS.err) PS.err) PS.err) PS.err
 |HG x a b=>exact PS.bo (fun _=>PS.jQ (fun _ _=>PS.er (fun _=>PS.er (fun _=>PS.cL fun _=>PS.cL fun _=>PS.ok) PS.err) PS.err) PS.err) PS.err
 |yN n x a b=>exact PS.bo (fun _=>PS.eT (fun _ _ _ _ _=>PS.aD (PS.er (fun _=>PS.er (fun _=>PS.cL fun _=>PS.cL fun _=>PS.ok) PS.err) PS.err) PS.err) (PS.er (fun _=>PS.er (fun _=>PS.ok) PS.err) PS.err) PS.err) PS.err
 |JK n x a b c=>exact PS.bo (fun _=>PS.eT (fun _ _ _ _ _=>PS.aD (PS.er (fun _=>PS.aD (PS.er (fun _=>PS.er (fun _=>PS.cL fun _=>PS.cL fun _=>PS.ok) PS.err) PS.err) PS.err) PS.err) PS.err) PS.err PS.err) PS.err
 |vI x i=>exact PS.bo (fun _=>PS.uJ (fun _=>PS.ob (fun _=>PS.ok) PS.err) PS.err) PS.err
 |rB x=>exact PS.bo (fun _=>PS.aD PS.ok PS.err) PS.err
 |yO f fs l=>exact PS.ob (fun _=>PS.ob (fun _=>PS.ok) PS.err) PS.err
 |yP t x=>exact PS.bo (fun _=>PS.ok) PS.err
 |vJ a b c d e f=>cases z
 |build a b=>exact PS.ob (fun _=>PS.ok) PS.err
 |sM a b c d e f=>cases z
 |len x=>exact PS.bo (fun _=>PS.eT (fun _ _ _ _ _=>PS.ok) PS.ok PS.err) PS.err
 |IQ n=>exact PS.ok
 |tQ x=>exact PS.bo (fun _=>PS.jQ (fun _ _=>PS.ok) PS.err) PS.err
 |app a b c x y=>cases z
 |xn a x y=>cases z
 |copy a b c=>cases z
 |xo a b c=>exact PS.bo (fun _=>PS.fq (fun _ _=>PS.ob (fun _=>PS.ob (fun _=>PS.ok) PS.err) PS.err) PS.err) PS.err
 |conv k x=>exact PS.bo (fun _=>PS.fq (fun _ _=>PS.lq fun _=>PS.ok) PS.err) PS.err
 |LF x=>exact PS.bo (fun _=>PS.ok) PS.err
 |Dk e x=>cases z
 |xp x=>cases z
 |call f l=>cases z
 |xR x l=>cases z
 |xS t n x=>cases z
 |JL x=>exact PS.bo (fun _=>PS.eT (fun _ _ _ _ _=>PS.aD PS.err PS.ok) PS.ok PS.err) PS.err
 |yQ e x n=>cases z
theorem pure_reads{E:Env}{o:bm}(z:mf o=true):o.reads E=some []:=by
 cases o<;>first|rfl|cases z
inductive jN(ops:Array Oper):Nat→Nat→Prop
 |N3 {j:Nat} {o:Oper} {e:Edge}:ops[j]?=some o→e∈o.after→Region.binds .any e=true→jN ops e.on j
 |step {i k j:Nat}:jN ops i k→jN ops k j→jN ops i j
def LO(ops:Array Oper)(S:Nat→Bool):Prop:=∀j o e,ops[j]?=some o→e∈o.after→Region.binds .any e=true→S j=true→S e.on=true
def T2(ops:Array Oper)(S:Nat→Bool)(j:Nat):Prop:=∀o e,ops[j]?=some o→e∈o.after→Region.binds .any e=true→S e.on=true
theorem jN.closed{ops:Array Oper}{S:Nat→Bool}(G:LO ops S){i j:Nat}(h:jN ops i j):S j=true→S i=true:=by
 induction h with
 |N3 I h2 L=>exact fun h=>G _ _ _ I h2 L h
 |step _ _ z A=>exact fun h=>z (A h)
theorem jN.ready{ops:Array Oper}{S:Nat→Bool}(G:LO ops S){i j:Nat}(h:jN ops i j):T2 ops S j→S i=true:=by
 induction h with
 |N3 z h2 I=>exact fun h=>h _ _ z h2 I
 |step z _ _ A=>exact fun h=>z.closed G (A h)
def Ff(ms:List Nat):List Edge→Nat
 |[]=>0
 |e::r=>if Region.binds .any e=true then 2^e.on|||ms.getD e.on 0|||Ff ms r else Ff ms r
def CO:List Oper→List Nat→List Nat
 |[],ms=>ms
 |o::r,ms=>CO r (ms++[Ff ms o.after.toList])
def KQ:Nat→List Oper→Bool
 |_,[]=>true
 |k,o::r=>(o.after.toList.all fun e=>!Region.binds .any e||decide (e.on<k))&&KQ (k+1) r
theorem adr{ops:Array Oper}{ms:List Nat}(z:∀j i,(ms.getD j 0).testBit i=true→jN ops i j){j:Nat}{o:Oper}(ho:ops[j]?=some o):
  ∀(l:List Edge),(∀e,e∈l→e∈o.after)→∀i,(Ff ms l).testBit i=true→jN ops i j
 |[],_,i,h=>by simp[Ff] at h
 |e::r,A,i,h=>by
  have G:=adr z ho r (fun e L=>A e (mu _ L)) i;unfold Ff at h
  split at h
  ·rename_i I;rw[Nat.testBit_or,Nat.testBit_or] at h;simp only[m8] at h;rcases h with(h|h)|h
   ·rw[Nat.testBit_two_pow] at h;have:e.on=i:=by simpa using h
    subst this;exact .N3 ho (A e (iI ..)) I
   ·exact .step (z _ _ h) (.N3 ho (A e (iI ..)) I)
   exact G h
  exact G h
theorem YC{ops:Array Oper}:∀(l:List Oper)(ms:List Nat),(∀n,l[n]?=ops[ms.length+n]?)→(∀j i,(ms.getD j 0).testBit i=true→jN ops i j)→
  ∀j i,((CO l ms).getD j 0).testBit i=true→jN ops i j
 |[],ms,_,h=>h
 |o::r,ms,G,h=>by
  refine YC r _ (fun n=>?_) fun j i z=>?_
  ·have:=G (n+1);simp only[NK] at this;rw[this];simp only[fv,gy,jP];congr 1;omega
  have ho:ops[ms.length]?=some o:=by have:=G 0;simpa using this.symm
  rcases Vk j ms.length with A|rfl|I
  ·rw[MB,tB A,←MB] at z;exact h j i z
  ·rw[MB,vH (bt _)] at z;simp only[Nat.sub_self,MC,TH] at z;exact adr h ho _ (fun e L=>by simpa using L) i z
  rw[MB,yz (by simp;omega)] at z;simp at z
theorem YU:∀(l:List Oper)(k:Nat),KQ k l=true→∀n o e,l[n]?=some o→e∈o.after→Region.binds .any e=true→e.on<k+n
 |[],_,_,n,o,e,h,_,_=>by simp at h
 |x::r,k,h,n,o,e,z,A,G=>by
  unfold KQ at h;simp only[cU,tz] at h
  cases n with
  |zero=>
   simp at z;subst z;have:=h.1 e (by simpa using A);simpa[G] using this
  |succ n=>
   have:=YU r (k+1) h.2 n o e (by simpa using z) A G;omega
def slotOf:aI→Option Key
 |.t n=>some n
 |_=>none
def uU(o:bl):List Key:=o.op.cT.filterMap slotOf++(match o.g with|some (t,_)=>[t]|none=>[])
def HY(d:Option Key)(l:List Key):Bool:=match d with|some d=>!(l.contains d)|none=>true
def RX(x y:bl):Bool:=HY x.dst (uU y)&&HY x.dst y.dst.toList&&HY y.dst (uU x)
def ads(ms:List Nat)(l:List bl):Bool:=
 (List.range l.length).all fun j=>(List.range j).all fun i=>(ms.getD j 0).testBit i||(match l[i]?,l[j]?with|some x,some y=>RX x y|_,_=>false)
theorem Qo{d:Option Key}{l:List Key}(h:HY d l=true):∀t,t∈l→d≠some t:=by
 intro t z A;subst A;simp[HY] at h;exact h z
structure RY(x y:bl):Prop where
 xy:∀t,t∈uU y→x.dst≠some t
 dd:∀t,y.dst=some t→x.dst≠some t
 yx:∀t,t∈uU x→y.dst≠some t
theorem apartI_ok{x y:bl}(h:RX x y=true):RY x y:=by
 unfold RX at h;simp only[cU] at h;exact⟨Qo h.1.1,fun t z=>Qo h.1.2 t (by simp[z]),Qo h.2⟩
theorem tmpsOk_ok{ms:List Nat}{l:List bl}(h:ads ms l=true){i j:Nat}{x y:bl}(A:i<j)(I:l[i]?=some x)(G:l[j]?=some y):(ms.getD j 0).testBit i=true∨RY x y:=by
 have L:j<l.length:=(List.getElem?_eq_some_iff.1 G).1;have z:=List.all_eq_true.1 (List.all_eq_true.1 h j (List.mem_range.2 L)) i (List.mem_range.2 A);rw[I,G] at z;rcases m8 _ _|>.mp z with z|z
 ·exact .inl z
 exact .inr (apartI_ok z)
theorem ZD{E E':Env}{o:bl}(h:∀t,t∈uU o→E.get t=E'.get t):∀x∈o.op.cT,x.ev E=x.ev E':=by
 intro x z
 cases x with
 |t n=>exact h n (ahL _ (List.mem_filterMap.2 ⟨.t n,z,rfl⟩))
 |c v=>rfl
theorem looks_wants{E E':Env}{o:bl}(h:∀t,t∈uU o→E.get t=E'.get t){b:Bool}(z:mj E o.g b):mj E' o.g b:=by
 generalize A:o.g=g at z
 cases z with
 |none=>exact .none
 |slot k=>
  rename_i t want b;refine .slot ?_;rw[←h t (Vt _ (by rw[A];simp))];exact k
 |off k=>
  rename_i t want;refine .off ?_;rw[←h t (Vt _ (by rw[A];simp))];exact k
def CP(m:Nat):Nat→List Nat→List Nat
 |_,[]=>[]
 |k,j::r=>if m.testBit j then CP m (k+1) r else k::CP m (k+1) r
def oR(ms:List Nat):Nat→List Nat→List bl→List bl
 |_,_,[]=>[]
 |i,seen,o::r=>if mf o.op then{o with q:=none}::oR ms (i+1) seen r else{o with q:=some (CP (ms.getD i 0) 0 seen)}::oR ms (i+1) (i::seen) r
def seenAt(L:List bl):Nat→List Nat
 |0=>[]
 |n+1=>match L[n]?with
  |some o=>if mf o.op then seenAt L n else n::seenAt L n
  |none=>seenAt L n
theorem YD{m j:Nat}(z:m.testBit j=false):∀(seen:List Nat)(k n:Nat),seen[n]?=some j→k+n∈CP m k seen
 |[],_,_,h=>by simp at h
 |x::r,k,n,h=>by
  unfold CP
  cases n with
  |zero=>simp at h;subst h;rw[aZ (by simp[z])];exact iI ..
  |succ n=>
   have:=YD z r (k+1) n (by simpa using h);rw[show k+(n+1)=k+1+n by omega]
   split
   ·exact this
   exact mu _ this
theorem FZ{ms:List Nat}{L:List bl}:∀(l:List bl)(i:Nat),(∀n,l[n]?=L[i+n]?)→∀n io,(oR ms i (seenAt L i) l)[n]?=some io→
  ∃z,L[i+n]?=some z∧io.dst=z.dst∧io.g=z.g∧io.op=z.op∧io.q=if mf z.op then none else some (CP (ms.getD (i+n) 0) 0 (seenAt L (i+n)))
 |[],i,_,n,io,h=>by simp[oR] at h
 |o::r,i,G,n,io,h=>by
  have h0:L[i]?=some o:=by have:=G 0;simpa using this.symm
  have I:∀n,r[n]?=L[i+1+n]?:=fun n=>by have:=G (n+1);rw[show i+1+n=i+(n+1) by omega];simpa using this
  have M:=FZ (ms:=ms) r (i+1) I;have O:seenAt L (i+1)=if mf o.op then seenAt L i else i::seenAt L i:=by simp only[seenAt,h0]
  unfold oR at h
  cases n with
  |zero=>
   refine⟨o,h0,?_⟩
   split at h
   ·rename_i A;simp at h;subst h;exact⟨rfl,rfl,rfl,by rw[bj A]⟩
   rename_i A;simp at h;subst h;exact⟨rfl,rfl,rfl,by rw[aZ A];rfl⟩
  |succ n=>
   rw[show i+(n+1)=i+1+n by omega];refine M n io ?_;rw[O]
   split at h
   ·rename_i A;rw[bj A];simpa using h
   rename_i A;rw[aZ A];simpa using h
theorem YE{ms:List Nat}:∀(l:List bl)(i:Nat)(s:List Nat),(oR ms i s l).length=l.length
 |[],_,_=>rfl
 |o::r,i,s=>by
  unfold oR
  split<;>simp[YE r]
theorem Y9{L:List bl}{i:Nat}{o:bl}(h:L[i]?=some o)(A:mf o.op=false):∀n,i<n→i∈seenAt L n
 |0,h=>by omega
 |n+1,G=>by
  unfold seenAt;rcases MD (Nat.le_of_lt_succ G) with z|rfl
  ·have:=Y9 h A n z
   split
   ·split
    ·exact this
    exact mu _ this
   exact this
  simp[h,A]
theorem Ext.wide{W:Nat→Prop}{n0 n1 z A:Nat}{ρ ρ':Ho}{w w':World}(h:Ext W n0 n1 ρ ρ' w w')(h0:z≤n0)(G:n1≤A):Ext W z A ρ ρ' w w':=
 ⟨h.le,fun f g x e=>(h.gp f g x e).imp_right fun k=>⟨aq,aq⟩,h.bz,h.frame,h.size,by have:=h.nn;omega,h.os,h.tape,h.output⟩
theorem Ext.transW{W:Nat→Prop}{n0 n1:Nat}{ρ z A:Ho}{w U Y:World}(h:Ext W n0 n1 ρ z w U)(k:Ext W n0 n1 z A U Y):Ext W n0 n1 ρ A w Y:=by
 refine⟨Ho.le_trans h.le k.le,?_,?_,?_,eZ h.size k.size,h.nn,k.os.trans h.os,k.tape.trans h.tape,k.output.trans h.output⟩
 ·intro f g x G;rcases k.gp f g x G with⟨g0,h0,e⟩|e
  ·exact h.gp f g0 h0 e
  exact .inr e
 ·intro f g x G;rcases k.bz f g x G with e|⟨a,b⟩|⟨g0,h0,e,I,L⟩
  ·exact h.bz f g x e
  ·exact .inr (.inl ⟨eZ h.size a,b⟩)
  rcases h.bz f g0 h0 e with M|⟨a,b⟩|⟨g1,h1,M,e3,e4⟩
  ·exact .inr (.inr ⟨g0,h0,M,I,L⟩)
  ·exact .inr (.inl ⟨I▸a,L▸b⟩)
  exact .inr (.inr ⟨g1,h1,M,e3.trans I,e4.trans L⟩)
 intro b Z O;rw[k.frame b (jj Z h.size) ?_,h.frame b Z O];intro f g x G hr hw;rcases h.bz f g x G with e|⟨a,_⟩|⟨g0,h0,e,I,L⟩
 ·exact O f g x e hr hw
 ·intro hh;omega
 exact I▸O f g0 h0 e (L.trans hr) hw
def oS(l:List bl)(n:Nat):Option Key:=(l[n]?).bind (·.dst)
def rE(l:List bl)(E:Env)(V:Nat→ak)(S:Nat→Bool):Nat→Env
 |0=>E
 |n+1=>if S n=true then iK (rE l E V S n) (oS l n) (V n) else rE l E V S n
def rC(C:Nat→Option cV)(Hs:Nat→ay)(S:Nat→Bool):Nat→Nat→Option cV
 |0=>C
 |n+1=>if S n=true then ep (rC C Hs S n) (Hs n) (Hs (n+1)) else rC C Hs S n
theorem Gf{l:List bl}{E:Env}{V:Nat→ak}{S:Nat→Bool}(n:Nat):rE l E V S (n+1)=if S n=true then iK (rE l E V S n) (oS l n) (V n) else rE l E V S n:=rfl
theorem Gg{C:Nat→Option cV}{Hs:Nat→ay}{S:Nat→Bool}(n:Nat):rC C Hs S (n+1)=if S n=true then ep (rC C Hs S n) (Hs n) (Hs (n+1)) else rC C Hs S n:=rfl
def ins(S:Nat→Bool)(j:Nat):Nat→Bool:=fun i=>i==j||S i
theorem CW(E:Env)(d:Option Key)(v:ak)(t:Key):(iK E d v).get t=if d=some t then some v else E.get t:=by
 cases d with
 |none=>simp[iK]
 |some d=>
  show(E.set d v).get t=_;rw[T4.dn]
  by_cases h:t=d
  ·subst h;simp
  rw[aZ h,aZ (by simp;exact fun e=>h e.symm)]
section
variable{l:List bl}{E:Env}{V:Nat→ak}{S:Nat→Bool}{j:Nat}
theorem LP(t:Key){T:Nat→Bool}:∀n,(∀i,i<n→S i≠T i→oS l i≠some t)→(rE l E V S n).get t=(rE l E V T n).get t
 |0,_=>rfl
 |n+1,h=>by
  have z:=LP t n fun i hi=>h i aq
  have A:=h n aq;rw[Gf,Gf]
  cases G:S n<;>cases I:T n
  ·simpa using z
  ·have:=A (by simp[G,I]);simp only[gK,if_false,if_true,CW,aZ this];exact z
  ·have:=A (by simp[G,I]);simp only[gK,if_false,if_true,CW,aZ this];exact z
  simp only[if_true,CW,z]
theorem K5(t:Key):∀n,j≤n→(∀k,j≤k→k<n→S k=true→oS l k≠some t)→(rE l E V S n).get t=(rE l E V S j).get t
 |0,z,_=>by have:j=0:=aq;subst this;rfl
 |n+1,z,h=>by
  rcases MD z with G|rfl
  ·have A:=K5 t n aq fun k I h2=>h k I aq
   rw[Gf]
   split
   ·rename_i L;rw[CW,aZ (h n aq aq L)];exact A
   exact A
  rfl
theorem adt(I:S j=false)(A:j<l.length)(L:∀k t,j<k→S k=true→oS l j=some t→oS l k≠some t)(t:Key):
  (rE l E V (ins S j) l.length).get t=(iK (rE l E V S l.length) (oS l j) (V j)).get t:=by
 rw[CW];have e:∀i,ins S j i≠S i→i=j:=by
  intro i hi;unfold ins at hi
  by_cases h:i=j
  ·exact h
  simp[h] at hi
 split
 ·rename_i z;rw[K5 (j:=j+1) t l.length A fun k M h2 G=>L k t aq (by unfold ins at G;simpa[show k≠j by omega] using G) z];rw[Gf];rw[bj (by simp[ins]),CW,bj z]
 rename_i z;exact LP t _ fun i _ hi=>by rw[e i hi];exact z
end
section
variable{C:Nat→Option cV}{Hs:Nat→ay}{S:Nat→Bool}{j:Nat}
def Touch(Hs:Nat→ay)(n f:Nat):Prop:=((Hs n).next≤f∧f<(Hs (n+1)).next)∨(Hs (n+1)).t.get f≠(Hs n).t.get f
theorem KD{n f:Nat}(h:Touch Hs n f):ep C (Hs n) (Hs (n+1)) f=(Hs (n+1)).t.get f:=by
 unfold ep;rcases h with h|h
 ·rw[bj h]
 rw[aZ h];split<;>rfl
theorem Kv{n f:Nat}(h:¬Touch Hs n f):ep C (Hs n) (Hs (n+1)) f=C f:=by
 unfold ep;rw[aZ (fun k=>h (.inl k)),bj (HD fun k=>h (.inr k))]
theorem adu(f:Nat){T:Nat→Bool}:∀n,(∀i,i<n→S i≠T i→¬Touch Hs i f)→rC C Hs S n f=rC C Hs T n f
 |0,_=>rfl
 |n+1,h=>by
  have A:=adu f n fun i hi=>h i aq
  have G:=h n aq;rw[Gg,Gg]
  by_cases z:Touch Hs n f
  ·have e:S n=T n:=HD fun k=>G k z
   rw[e]
   cases T n
   ·simpa using A
   simp only[if_true,KD z]
  cases S n<;>cases T n<;>simp only[gK,if_false,if_true,Kv z]<;>exact A
theorem Gh(f:Nat):∀n,j≤n→(∀k,j≤k→k<n→S k=true→¬Touch Hs k f)→rC C Hs S n f=rC C Hs S j f
 |0,z,_=>by have:j=0:=aq;subst this;rfl
 |n+1,z,h=>by
  rcases MD z with G|rfl
  ·have A:=Gh f n aq fun k I h2=>h k I aq
   rw[Gg]
   split
   ·rename_i L;rw[Kv (h n aq aq L)];exact A
   exact A
  rfl
theorem adv{N:Nat}(I:S j=false)(A:j<N)(L:∀k f,j<k→k<N→S k=true→Touch Hs j f→¬Touch Hs k f)(f:Nat):
  rC C Hs (ins S j) N f=ep (rC C Hs S N) (Hs j) (Hs (j+1)) f:=by
 have e:∀i,ins S j i≠S i→i=j:=by
  intro i hi;unfold ins at hi
  by_cases h:i=j
  ·exact h
  simp[h] at hi
 by_cases z:Touch Hs j f
 ·rw[KD z,Gh (j:=j+1) f N A fun k M h2 G=>L k f aq h2 (by unfold ins at G;simpa[show k≠j by omega] using G) z];rw[Gg];rw[bj (by simp[ins]),KD z]
 rw[Kv z];exact adu f _ fun i _ hi=>by rw[e i hi];exact z
theorem Qp(f:Nat)(h0:∀o,(Hs 0).t.get f=some o→C f=some o):∀n,(∀i,i<n→S i=false→¬Touch Hs i f)→∀o,(Hs n).t.get f=some o→rC C Hs S n f=some o
 |0,_,o,h=>h0 o h
 |n+1,A,o,h=>by
  have G:=Qp f h0 n (fun i hi=>A i aq) o;rw[Gg]
  by_cases z:Touch Hs n f
  ·have:S n=true:=by
    cases I:S n
    ·exact absurd z (A n aq I)
    rfl
   rw[bj this,KD z];exact h
  have e:(Hs (n+1)).t.get f=(Hs n).t.get f:=HD fun k=>z (.inr k)
  rw[e] at h
  split
  ·rw[Kv z];exact G h
  exact G h
end
structure Fact(call:dG)(o:bl)(E:Env)(H:ay)(b:Bool)(v:ak)(fp:FP)(H1:ay):Prop where
 kK:eH H H1
 touch:∀f,((H.next≤f∧f<H1.next)∨H1.t.get f≠H.t.get f)→o.q.isSome=true∧(f∈fp.ws∨(fp.lo≤f∧f<fp.hi∧H.next≤f∧f<H1.next))
 wants:mj E o.g b
 off:b=false→v= .undef∧H1=H
 on:b=true→∃Hm Hn,o.op.ev call E Hm= .ok v Hn∧Hm.aQ≤Hm.next∧Hm.next=H.next∧Hm.t=H.t∧Hn.next=H1.next∧Hn.t=H1.t∧(∀f,Wr Hn f→Wr H1 f)∧(o.q.isSome=true→fp.rd=o.op.reads E)
section
variable{P:Program}{call:dG}
theorem qb.fact{o:bl}{E:Env}{H:ay}{bb:List FP}{b:Bool}{v:ak}{fp:FP}{H1:ay}(Y:je P call)(Z:o.q=none→mf o.op=true)(U:H.aQ≤H.next)(G:WF H)(h:qb call o E H bb b v fp H1):
  Fact call o E H b v fp H1:=by
 cases h with
 |skip I L=>exact⟨eH.refl _,fun f z=>absurd z (by rintro(z|z);omega;exact z rfl),I,fun _=>⟨rfl,rfl⟩,fun h=>by cases h⟩
 |plain I L M=>
  have e:=pure_same (Z L) v H1 M;subst e;exact⟨eH.refl _,fun f z=>absurd z (by rintro(z|z);omega;exact z rfl),I,fun h=>(by cases h),fun _=>⟨H1,H1,M,U,rfl,rfl,rfl,rfl,fun _ h=>h,fun h=>by rw[L] at h;cases h⟩⟩
 |marked I L M ha=>
  rename_i q A;have t:=TM.ins (H:=H.mark) (bt _) (fun f a=>Y.kK f a _ (bt _)) E o.op v A M;refine⟨t.Dn U,fun f z=>⟨by rw[L];rfl,?_⟩,I,fun h=>(by cases h),fun _=>⟨H.mark,A,M,bt _,rfl,rfl,rfl,rfl,fun f z=>?_,fun _=>rfl⟩⟩
  ·have z:((H.next≤f∧f<A.next)∨A.t.get f≠H.t.get f):=z;show f∈A.ws∨(H.next≤f∧f<A.next∧H.next≤f∧f<A.next)
   by_cases O:f<H.next
   ·rcases z with z|z
    ·omega
    exact .inl (HD fun k=>z (t.same f O k))
   by_cases h2:f<A.next
   ·exact .inr ⟨aq,h2,aq,h2⟩
   rcases z with z|z
   ·omega
   have e1:H.t.get f=none:=G f aq;have e2:A.t.get f=none:=t.wf G f aq;exact absurd (e2.trans e1.symm) z
  rcases z with z|z
  ·by_cases O:f<H.aQ
   ·exact .inl ((FD _ _ _ _).2 (.inr ⟨z,O⟩))
   exact .inr (by show H.aQ≤f;omega)
  have:H.next≤f:=by rw[t.aQ] at z;exact z
  exact .inr (by show H.aQ≤f;omega)
end
structure xX(P:Program)(nt:Nat)(ops:Array Oper)(l:List bl):Prop where
 len:l.length=ops.size
 opof:∀(i:Nat)(o:Oper)(io:bl),ops[i]?=some o→l[i]?=some io→EC P nt ops o io
 back:∀(j:Nat)(o:Oper)(e:Edge),ops[j]?=some o→e∈o.after→Region.binds .any e=true→e.on<j
 tmps:∀(i j:Nat)(x y:bl),i<j→l[i]?=some x→l[j]?=some y→jN ops i j∨RY x y
 pure:∀(i:Nat)(x:bl),l[i]?=some x→x.q=none→mf x.op=true
section
variable{P:Program}{call:dG}{nt:Nat}{ops:Array Oper}{l:List bl}{E E':Env}{H H':ay}{Es:Nat→Env}{Hs:Nat→ay}{Rs:Nat→List FP}{Wn:Nat→Bool}{Vs:Nat→ak}{Fp:Nat→FP}
theorem Trace.wf(A:je P call)(G:xX P nt ops l)(T:Trace call l E H [] E' H' Es Hs Rs Wn Vs Fp)(I:H.aQ≤H.next)(z:WF H):∀i,i≤l.length→(Hs i).aQ≤(Hs i).next∧WF (Hs i)
 |0,_=>by rw[T.h0];exact⟨I,z⟩
 |i+1,hi=>by
  obtain⟨L,h2⟩:=Trace.wf A G T I z i aq;obtain⟨o,ho⟩:∃o,l[i]?=some o:=⟨_,dm aq⟩;have t:=((T.step i o ho).1.fact A (G.pure i o ho) L h2).kK;exact⟨by rw[t.aQ];exact eZ L t.next,t.wf h2⟩
theorem Trace.fact(A:je P call)(G:xX P nt ops l)(T:Trace call l E H [] E' H' Es Hs Rs Wn Vs Fp)(I:H.aQ≤H.next)(z:WF H){i:Nat}{o:bl}(ho:l[i]?=some o):
  Fact call o (Es i) (Hs i) (Wn i) (Vs i) (Fp i) (Hs (i+1)):=by
 have hi:i<l.length:=(List.getElem?_eq_some_iff.1 ho).1;obtain⟨L,h2⟩:=T.wf A G I z i aq;exact(T.step i o ho).1.fact A (G.pure i o ho) L h2
theorem Trace.kK(A:je P call)(G:xX P nt ops l)(T:Trace call l E H [] E' H' Es Hs Rs Wn Vs Fp)(I:H.aQ≤H.next)(z:WF H){i:Nat}:∀k,i≤k→k≤l.length→eH (Hs i) (Hs k)
 |0,h,_=>by have:i=0:=aq;subst this;exact eH.refl _
 |k+1,h,M=>by
  rcases MD h with L|rfl
  ·obtain⟨o,ho⟩:∃o,l[k]?=some o:=⟨_,dm aq⟩;exact(Trace.kK A G T I z k aq aq).trans (T.fact A G I z ho).kK
  exact eH.refl _
theorem Trace.env(T:Trace call l E H [] E' H' Es Hs Rs Wn Vs Fp):∀n,n≤l.length→Es n=rE l E Vs (fun _=>true) n
 |0,_=>T.e0
 |n+1,z=>by
  obtain⟨o,ho⟩:∃o,l[n]?=some o:=⟨_,dm aq⟩;rw[(T.step n o ho).2.1,Gf,Trace.env T n aq,bj rfl];simp[oS,ho]
structure Inv(P:Program)(nt:Nat)(l:List bl)(E:Env)(H H':ay)(Hs:Nat→ay)(Vs:Nat→ak)(ρ0:Ho)(C0:Nat→Option cV)(w0:World)(S:Nat→Bool)(a:Act)(w:World)(ρ:Ho):Prop where
 ar:AR P ρ nt (rE l E Vs S l.length) a
 r:R ρ (rC C0 Hs S l.length) w
 ext:Ext (Wr H') H.next H'.next ρ0 ρ w0 w
 gp:∀f g h,ρ f g=some h→(∃g0 h0,ρ0 f g0=some h0)∨∃k,k<l.length∧S k=true∧(Hs k).next≤f∧f<(Hs (k+1)).next
theorem AR.congr{ρ:Ho}{a:Act}{E1 z:Env}(h:AR P ρ nt E1 a)(A:∀t,z.get t=E1.get t):AR P ρ nt z a:=
 ⟨h.size,h.defers,fun t v k=>h.tmp t v (by rw[←A];exact k),h.qz⟩
theorem step_any(hc:je P call)(hr:xX P nt ops l)(T:Trace call l E H [] E' H' Es Hs Rs Wn Vs Fp)
  (M:∀(i j:Nat)(x y:bl),i<j→l[i]?=some x→l[j]?=some y→x.q.isSome=true→y.q.isSome=true→jN ops i j∨C4 (Fp j) (Fp i))
  (hm:H.aQ≤H.next) (nq:WF H) {ρ0:Ho} {C0:Nat→Option cV} {w0:World} (Xp:gJ ρ0 C0 H) (Fg:fw ρ0 H.next H'.next)
  {S:Nat→Bool} (hS:LO ops S) {j:Nat} (hj:j<l.length) (O:S j=false) (hjr:T2 ops S j) {a:Act} {w:World} {ρ:Ho} (hI:Inv P nt l E H H' Hs Vs ρ0 C0 w0 S a w ρ)
  {Q:Exit→Act→World→Prop} {K:Act→World→Prop} (hK:∀a' w' ρ',Inv P nt l E H H' Hs Vs ρ0 C0 w0 (ins S j) a' w' ρ'→K a' w'):wpOp P ops Q j K a w:=by
 obtain⟨io,A⟩:∃io,l[j]?=some io:=⟨_,dm hj⟩;obtain⟨o,ho⟩:∃o,ops[j]?=some o:=⟨_,BG (by rw[←hr.len];exact hj)⟩;have Fh:=hr.opof j o io ho A;have fj:=T.fact hc hr hm nq A;have I:∀i k,i≤k→k≤l.length→(Hs i).next≤(Hs k).next:=fun i k h1 h2=>(T.kK hc hr hm nq k h1 h2).next
 have h0:Hs 0=H:=T.h0;have hN:Hs l.length=H':=T.hN;have N4:∀k,S k=true→¬jN ops j k:=fun k hk hb=>by rw[hb.closed hS hk] at O;cases O
 have aiB:∀i,S i=false→¬jN ops i j:=fun i hi hb=>by rw[hb.ready hS hjr] at hi;cases hi
 have get:∀{k},k<l.length→∃y,l[k]?=some y:=fun hk=>⟨_,dm hk⟩
 have G:∀{k y},l[k]?=some y→oS l k=y.dst:=fun Y=>by simp[oS,Y]
 have Xq:∀t,t∈uU io→(rE l E Vs S l.length).get t=(Es j).get t:=by
  intro t ht;rw[T.env j aq,K5 (j:=j) t l.length aq fun k h1 h2 L=>?_]
  ·refine LP t j fun i hi L=>?_
   obtain⟨x,hx⟩:=get (k:=i) aq;have L:S i=false:=by simpa using L
   rw[G hx];exact((hr.tmps i j x io hi hx A).resolve_left (aiB i L)).xy t ht
  obtain⟨y,Y⟩:=get h2;have fO:j≠k:=fun e=>by rw[←e,O] at L;cases L
  rw[G Y];exact((hr.tmps j k io y aq A Y).resolve_left (N4 k L)).yx t ht
 have aiC:∀k t,j<k→S k=true→oS l j=some t→oS l k≠some t:=by
  intro k t hk L hd wI
  by_cases O2:k<l.length
  ·obtain⟨y,Y⟩:=get O2;rw[G Y] at wI;rw[G A] at hd;exact((hr.tmps j k io y hk A Y).resolve_left (N4 k L)).dd t wI hd
  simp[oS,yz (Nat.le_of_not_lt O2)] at wI
 have z:∀{k f y},l[k]?=some y→Touch Hs k f→y.q.isSome=true∧(f∈(Fp k).ws∨((Fp k).lo≤f∧f<(Fp k).hi∧(Hs k).next≤f∧f<(Hs (k+1)).next)):=
  fun Y ht=>(T.fact hc hr hm nq Y).touch _ ht
 have N5:∀i,i≤l.length→WF (Hs i):=fun i hi=>(T.wf hc hr hm nq i hi).2
 have adw:∀k f,j<k→k<l.length→S k=true→Touch Hs j f→¬Touch Hs k f:=by
  intro k f hk O2 L tj tk;obtain⟨y,Y⟩:=get O2;obtain⟨qj,ej⟩:=z A tj;obtain⟨qk,ek⟩:=z Y tk;have fa:=(M j k io y hk A Y qj qk).resolve_left (N4 k L);have n1:=I (j+1) k hk aq;have n2:=I j (j+1) aq aq;rcases ek with ek|⟨e1,e2,e3,e4⟩
  ·rcases ej with ej|⟨e1,e2,e3,e4⟩
   ·exact fa.ww f ek ej
   exact fa.out f ek ⟨e1,e2⟩
  rcases tj with tj|tj
  ·omega
  refine tj ((N5 (j+1) aq f aq).trans (N5 j aq f aq).symm)
 have I2:∀{i f},i<l.length→S i=false→(Hs i).next≤f→f<(Hs (i+1)).next→∀g,ρ f g=none:=by
  intro i f hi L h1 h2 g
  cases hx:ρ f g with
  |none=>rfl
  |some x=>
   rcases hI.gp f g x hx with⟨g0,x0,e⟩|⟨k,hk,Xr,e1,e2⟩
   ·have n1:=I 0 i aq aq;have n2:=I (i+1) l.length aq aq;rw[h0] at n1;rw[hN] at n2;rw[Fg f g0 aq aq] at e;cases e
   rcases Vk i k with pA|rfl|OX
   ·have:=I (i+1) k aq aq;omega
   ·rw[L] at Xr;cases Xr
   have:=I (k+1) i aq aq;omega
 have hfree:fw ρ (Hs j).next (Hs (j+1)).next:=fun f g h1 h2=>I2 hj O h1 h2 g
 have hreads:Wn j=true→∀f ob,(∀ls,io.op.reads (Es j)=some ls→f∈ls)→(∃g h,ρ f g=some h)→(Hs j).t.get f=some ob→rC C0 Hs S l.length f=some ob:=by
  intro hon f ob zI⟨g,x,hx⟩Fi;obtain⟨_,_,_,_,_,_,_,_,_,hrd2⟩:=fj.on hon;have U:io.q.isSome=true:=by
   cases hq:io.q with
   |some q=>rfl
   |none=>have:=zI [] (pure_reads (hr.pure j io A hq));cases this
  have hrdj:(Fp j).rd=io.op.reads (Es j):=hrd2 U;have aiD:∀m,(Fp j).rd=some m→f∈m:=fun m hm=>zI m (hrdj▸hm)
  have fj2:f<(Hs j).next:=HD fun k=>by rw[N5 j aq f aq] at Fi;cases Fi
  rw[Gh (j:=j) f l.length aq fun k h1 h2 L tk=>?_]
  ·refine Qp f (fun o' pD=>?_) j (fun i hi L ti=>?_) ob Fi
   ·rw[h0] at pD;refine Xp f o' ?_ pD;rcases hI.gp f g x hx with e|⟨k,hk,Xr,e1,e2⟩
    ·exact e
    have n1:=I 0 k aq aq;rw[h0] at n1;rw[nq f aq] at pD;cases pD
   obtain⟨y,Y⟩:=get (k:=i) aq;obtain⟨qi,ei⟩:=z Y ti;rcases ei with ei|⟨_,_,e3,e4⟩
   ·obtain⟨m,qM,sf⟩:=((M i j y io hi Y A qi U).resolve_left (aiB i L)).ba f ei;exact sf (aiD m qM)
   rw[I2 aq L e3 e4 g] at hx;cases hx
  obtain⟨y,Y⟩:=get h2;have fO:j≠k:=fun e=>by rw[←e,O] at L;cases L
  obtain⟨qk,ek⟩:=z Y tk;rcases ek with ek|⟨_,_,e3,e4⟩
  ·obtain⟨m,qM,sf⟩:=((M j k io y aq A Y U qk).resolve_left (N4 k L)).ab f ek;exact sf (aiD m qM)
  have:=I j k aq aq;omega
 have Z:∀k,S k=true→ins S j k=true:=fun k hk=>by simp[ins,hk]
 unfold wpOp;simp only[ho];have hw:=looks_wants (E':=rE l E Vs S l.length) (fun t ht=>(Xq t ht).symm) fj.wants;rw[P7 Fh hw hI.ar.tmp]
 cases hb:Wn j with
 |false=>
  rw[aZ (by simp)];obtain⟨e1,e2⟩:=fj.off hb;refine hK _ _ ρ ⟨?_,?_,hI.ext,fun f g x hx=>(hI.gp f g x hx).imp_right fun⟨k,h1,h2,h3⟩=>⟨k,h1,Z k h2,h3⟩⟩
  ·refine AR.congr (E1:=iK (rE l E Vs S l.length) io.dst .undef) (by rw[Fh.dst];exact hI.ar.N1 Fh.lt (by simp only[VR])) fun t=>?_
   rw[adt O hj aiC t,G A,e1]
  rw[show rC C0 Hs (ins S j) l.length=rC C0 Hs S l.length from funext fun f=>by rw[adv O hj adw f,e2,oJ]];exact hI.r
 |true=>
  rw[bj rfl];left;obtain⟨Hm,Hn,he,k1,k2,k3,k4,k5,k6,k7⟩:=fj.on hb;rcases Fh.op with zG|VD
  case inr=>rw[VD] at he;exact(abd he).elim
  have hop2:io.op.ev call (rE l E Vs S l.length) Hm= .ok (Vs j) Hn:=by
   rw[bm.ev_congr io.op (ZD (E':=Es j) Xq)];exact he
  have Xn:=Zz (o:=o) zG hI.ar hI.r (by rw[k2,k4];exact hfree) (fun f ob zI hx Fi=>by
   rw[k3] at Fi;refine hreads hb f ob (fun ls O3=>zI ls ?_) hx Fi
   rw[bm.reads_congr io.op (ZD (E':=Es j) Xq)];exact O3) k1 (fun x hx=>by rw[k3];exact N5 j aq x (by rw[←k2];exact hx)) hc hop2
  refine Y3 Xn fun cv w' hp=>?_
  obtain⟨ρ',hv,VF,Xo⟩:=hp;have hupd:ep (rC C0 Hs S l.length) Hm Hn=ep (rC C0 Hs S l.length) (Hs j) (Hs (j+1)):=by
   funext f;unfold ep;rw[k2,k3,k4,k5]
  refine hK _ _ ρ' ⟨?_,?_,hI.ext.transW (Ext.wide (VF.mono fun f hf=>?_) ?_ ?_),fun f g x hx=>?_⟩
  ·refine AR.congr (E1:=iK (rE l E Vs S l.length) io.dst (Vs j)) (by rw[Fh.dst];exact(hI.ar.mono VF.le).N1 Fh.lt hv) fun t=>?_
   rw[adt O hj aiC t,G A]
  ·rw[show rC C0 Hs (ins S j) l.length=ep (rC C0 Hs S l.length) Hm Hn from funext fun f=>by rw[adv O hj adw f,hupd]];exact Xo
  ·have t:=T.kK hc hr hm nq (i:=j+1) l.length aq aq;rw[hN] at t;exact QW t f (k6 f hf)
  ·rw[k2,←h0];exact I 0 j aq aq
  ·rw[k4,←hN];exact I (j+1) l.length aq aq
  rcases VF.gp f g x hx with⟨g0,x0,e⟩|e
  ·exact(hI.gp f g0 x0 e).imp_right fun⟨k,h1,h2,h3⟩=>⟨k,h1,Z k h2,h3⟩
  rw[k2,k4] at e;exact .inr ⟨j,hj,by simp[ins],e⟩
end
end Go.Ev
