/- Part 9 of rules for walks through the code of a program, and of such walks; what each part proves is said by its theorems. -/
import Derived.Test.YtdaamclhcpjdpaaGreatDoorR8
set_option linter.unusedVariables false
set_option linter.unusedSimpArgs false
noncomputable section
set_option maxRecDepth 100000
set_option maxHeartbeats 4000000
namespace Go.Ev
def PS(H:aw)(r:aC):Prop:=∀v H',r= .ok v H'→H'=H
theorem PS.err{H:aw}{n:Nat}:PS H (.err n):=fun _ _ h=>by cases h
theorem PS.ok{H:aw}{v:al}:PS H (.ok v H):=fun _ _ h=>by cases h;rfl
theorem PS.aD{H:aw}{b:Bool}{k e:aC}(h:PS H k)(h':PS H e):PS H (aD b k e):=by cases b;exact h';exact h
theorem PS.ob{H:aw}{α:Type}{o:Option α}{e:aC}{k:α→aC}(h:∀x,PS H (k x))(h':PS H e):PS H (ob o e k):=by cases o;exact h';exact h _
theorem PS.bk{H:aw}{x:aH}{E:Env}{e:aC}{k:al→aC}(h:∀x,PS H (k x))(h':PS H e):PS H (bk x E e k):=by
 cases x with
 |t i=>exact PS.ob (o:=E.get i) h h'
 |c a=>exact h a
theorem PS.uV{H:aw}{a:al}{e:aC}{k:Bool→aC}(h:∀x,PS H (k x))(h':PS H e):PS H (uV a e k):=by cases a<;>first|exact h'|exact h _
theorem PS.ff{H:aw}{a:al}{e:aC}{k:IntKind→Int→aC}(h:∀x y,PS H (k x y))(h':PS H e):PS H (ff a e k):=by cases a<;>first|exact h'|exact h _ _
theorem PS.jm{H:aw}{a:al}{e:aC}{k:Nat→Nat→aC}(h:∀x y,PS H (k x y))(h':PS H e):PS H (jm a e k):=by cases a<;>first|exact h'|exact h _ _
theorem PS.gq{H:aw}{a:al}{e:aC}{k:Nat→Nat→Nat→aC}(h:∀x y z,PS H (k x y z))(h':PS H e):PS H (gq a e k):=by cases a<;>first|exact h'|exact h _ _ _
theorem PS.eR{H:aw}{a:al}{e A:aC}{k:Nat→Nat→Nat→Nat→Nat→aC}(h:∀x y z u w,PS H (k x y z u w))(h2:PS H A)(h':PS H e):PS H (eR a e A k):=by cases a<;>first|exact h'|exact h2|exact h _ _ _ _ _
theorem PS.mc{H:aw}{a:al}{e:aC}{k:List al→aC}(h:∀x,PS H (k x))(h':PS H e):PS H (mc a e k):=by cases a<;>first|exact h'|exact h _
theorem PS.uM{H:aw}{a:al}{e:aC}{k:List al→aC}(h:∀x,PS H (k x))(h':PS H e):PS H (uM a e k):=by cases a<;>first|exact h'|exact h _
theorem PS.xe{H:aw}{a:al}{e:aC}{k:Nat→List al→List al→aC}(h:∀x y z,PS H (k x y z))(h':PS H e):PS H (xe a e k):=by cases a<;>first|exact h'|exact h _ _ _
theorem PS.gM{H:aw}{i:Int}{e:aC}{k:Nat→aC}(h:∀x,PS H (k x))(h':PS H e):PS H (gM i e k):=by cases i;exact h _;exact h'
theorem PS.idx{H:aw}{a:al}{n:Nat}{e:aC}{k:Nat→aC}(h:∀x,PS H (k x))(h':PS H e):PS H (idx a n e k):=PS.ff (fun _ _=>PS.gM (fun _=>PS.aD (h _) h') h') h'
theorem PS.eb{H:aw}{E:Env}{x:Option aH}{d y:Nat}{e:aC}{k:Nat→aC}(h:∀x,PS H (k x))(h':PS H e):PS H (eb E x d y e k):=by
 cases x with
 |none=>exact h _
 |some z=>exact PS.ob (fun _=>PS.ff (fun _ _=>PS.gM (fun _=>PS.aD (h _) h') h') h') h'
theorem PS.iR{H:aw}{o:Option cT}{e:aC}{k:Nat→Nat→Nat→Nat→Nat→Nat→RT→aC}(h:∀a b c d e f g,PS H (k a b c d e f g))(h':PS H e):PS H (iR o e k):=by
 cases o with
 |none=>exact h'
 |some o=>cases o with
  |row=>exact h _ _ _ _ _ _ _
  |map=>exact h'
theorem PS.fH{H:aw}{agg:Bool}{l:List al}{e:aC}{k:al→aC}(h:∀x,PS H (k x))(h':PS H e):PS H (fH agg l e k):=by
 refine PS.aD (h _) ?_
 cases l with
 |nil=>exact h'
 |cons x r=>cases r with
  |nil=>exact h _
  |cons=>exact h'
theorem PS.ct{H:aw}{n:Nat}{k:Nat→aC}(h:∀x,PS H (k x)):PS H (ct n k):=by rw[fK];exact h _
theorem PS.lq{H:aw}{n:Int}{k:Int→aC}(h:∀x,PS H (k x)):PS H (lq n k):=by rw[wK];exact h _
theorem PS.l6{H:aw}{n:al}{k:al→aC}(h:∀x,PS H (k x)):PS H (l6 n k):=by rw[wL];exact h _
theorem PS.nH{H:aw}{n:Bool}{k:Bool→aC}(h:∀x,PS H (k x)):PS H (nH n k):=by cases n<;>exact h _
theorem pure_same{call:dG}{H:aw}{E:Env}{o:bn}(z:l7 o=true):PS H (o.ev call E H):=by
 cases o with
 |ch x=>exact PS.bk (fun _=>PS.ok) PS.err
 |pick c a b=>exact PS.bk (fun _=>PS.uV (fun _=>PS.aD (PS.bk (fun _=>PS.ok) PS.err) (PS.bk (fun _=>PS.ok) PS.err)) PS.err) PS.err
 |pf a b c d=>cases z
 |box a b c d=>cases z
 |load a b c=>cases z
 |store a b c=>cases z
 |bin op x y=>exact PS.bk (fun _=>PS.bk (fun _=>by rw[KX];exact PS.ob (fun _=>PS.l6 fun _=>PS.ok) PS.err) PS.err) PS.err
 |eqv c n x y=>exact PS.bk (fun _=>PS.bk (fun _=>PS.ob (fun _=>PS.nH fun _=>PS.ok) PS.err) PS.err) PS.err
 |un op x=>exact PS.bk (fun _=>PS.ob (fun _=>PS.l6 fun _=>PS.ok) PS.err) PS.err
 |dM x k=>exact PS.bk (fun _=>PS.gq (fun _ _ _=>PS.ct fun _=>PS.ok) PS.err) PS.err
 |sub x a b c=>exact PS.bk (fun _=>PS.mc (fun _=>PS.aD (PS.fH (fun _=>PS.ok) PS.err) PS.err) PS.err) PS.err
 |zX a b x i=>exact PS.bk (fun _=>PS.gq (fun _ _ _=>PS.bk (fun _=>PS.idx (fun _=>PS.ct fun _=>PS.ok) PS.err) PS.err) PS.err) PS.err
 |iE a x i=>exact PS.bk (fun _=>PS.eR (fun _ _ _ _ _=>PS.bk (fun _=>PS.idx (fun _=>PS.ct fun _=>PS.ok) PS.err) PS.err) PS.err PS.err) PS.err
 |CM a b c x i=>exact PS.bk (fun _=>PS.mc (fun _=>PS.bk (fun _=>PS.idx (fun _=>PS.aD (PS.fH (fun _=>PS.ok) PS.err) PS.err) PS.err) PS.err) PS.err) PS.err
 |zY x i=>exact PS.bk (fun _=>PS.jm (fun _ _=>PS.bk (fun _=>PS.idx (fun _=>PS.ct fun _=>PS.ok) PS.err) PS.err) PS.err) PS.err
 |Hy x a b=>exact PS.bk (fun _=>PS.jm (fun _ _=>PS.eb (fun _=>PS.eb (fun _=>PS.ct fun _=>PS.ct fun _=>PS.ok) PS.err) PS.err) PS.err) PS.err
 |yl n x a b=>exact PS.bk (fun _=>PS.eR (fun _ _ _ _ _=>PS.aD (PS.eb (fun _=>PS.eb (fun _=>PS.ct fun _=>PS.ct fun _=>PS.ok) PS.err) PS.err) PS.err) (PS.eb (fun _=>PS.eb (fun _=>PS.ok) PS.err) PS.err) PS.err) PS.err
 |JH n x a b c=>exact PS.bk (fun _=>PS.eR (fun _ _ _ _ _=>PS.aD (PS.eb (fun _=>PS.aD (PS.eb (fun _=>PS.eb (fun _=>PS.ct fun _=>PS.ct fun _=>PS.ok) PS.err) PS.err) PS.err) PS.err) PS.err) PS.err PS.err) PS.err
 |vA x i=>exact PS.bk (fun _=>PS.uM (fun _=>PS.ob (fun _=>PS.ok) PS.err) PS.err) PS.err
 |rH x=>exact PS.bk (fun _=>PS.aD PS.ok PS.err) PS.err
 |ym f fs l=>exact PS.ob (fun _=>PS.ob (fun _=>PS.ok) PS.err) PS.err
 |yn t x=>exact PS.bk (fun _=>PS.ok) PS.err
 |vB a b c d e f=>cases z
 |build a b=>exact PS.ob (fun _=>PS.ok) PS.err
 |s8 a b c d e f=>cases z
 |len x=>exact PS.bk (fun _=>PS.eR (fun _ _ _ _ _=>PS.ok) PS.ok PS.err) PS.err
 |IG n=>exact PS.ok
 |tW x=>exact PS.bk (fun _=>PS.jm (fun _ _=>PS.ok) PS.err) PS.err
 |app a b c x y=>cases z
 |wZ a x y=>cases z
 |copy a b c=>cases z
 |xb a b c=>exact PS.bk (fun _=>PS.ff (fun _ _=>PS.ob (fun _=>PS.ob (fun _=>PS.ok) PS.err) PS.err) PS.err) PS.err
 |conv k x=>exact PS.bk (fun _=>PS.ff (fun _ _=>PS.lq fun _=>PS.ok) PS.err) PS.err
 |Ly x=>exact PS.bk (fun _=>PS.ok) PS.err
 |CN e x=>cases z
 |xd x=>cases z
 |call f l=>cases z
 |rI x l=>cases z
 |xE t n x=>cases z
 |JI x=>exact PS.bk (fun _=>PS.eR (fun _ _ _ _ _=>PS.aD PS.err PS.ok) PS.ok PS.err) PS.err
 |yo e x n=>cases z
theorem pure_reads{E:Env}{o:bn}(z:l7 o=true):o.reads E=some []:=by
 cases o<;>first|rfl|cases z
inductive jC(ops:Array Oper):Nat→Nat→Prop
 |NT {j:Nat} {o:Oper} {e:Edge}:ops[j]?=some o→e∈o.after→Region.binds .any e=true→jC ops e.on j
 |step {i k j:Nat}:jC ops i k→jC ops k j→jC ops i j
def LI(ops:Array Oper)(S:Nat→Bool):Prop:=∀j o e,ops[j]?=some o→e∈o.after→Region.binds .any e=true→S j=true→S e.on=true
def Tv(ops:Array Oper)(S:Nat→Bool)(j:Nat):Prop:=∀o e,ops[j]?=some o→e∈o.after→Region.binds .any e=true→S e.on=true
theorem jC.closed{ops:Array Oper}{S:Nat→Bool}(G:LI ops S){i j:Nat}(h:jC ops i j):S j=true→S i=true:=by
 induction h with
 |NT I h2 L=>exact fun h=>G _ _ _ I h2 L h
 |step _ _ z A=>exact fun h=>z (A h)
theorem jC.ready{ops:Array Oper}{S:Nat→Bool}(G:LI ops S){i j:Nat}(h:jC ops i j):Tv ops S j→S i=true:=by
 induction h with
 |NT z h2 I=>exact fun h=>h _ _ z h2 I
 |step z _ _ A=>exact fun h=>z.closed G (A h)
def EY(ms:List Nat):List Edge→Nat
 |[]=>0
 |e::r=>if Region.binds .any e=true then 2^e.on|||ms.getD e.on 0|||EY ms r else EY ms r
def Ck:List Oper→List Nat→List Nat
 |[],ms=>ms
 |o::r,ms=>Ck r (ms++[EY ms o.after.toList])
def KJ:Nat→List Oper→Bool
 |_,[]=>true
 |k,o::r=>(o.after.toList.all fun e=>!Region.binds .any e||decide (e.on<k))&&KJ (k+1) r
theorem ac2{ops:Array Oper}{ms:List Nat}(z:∀j i,(ms.getD j 0).testBit i=true→jC ops i j){j:Nat}{o:Oper}(ho:ops[j]?=some o):
  ∀(l:List Edge),(∀e,e∈l→e∈o.after)→∀i,(EY ms l).testBit i=true→jC ops i j
 |[],_,i,h=>by simp[EY] at h
 |e::r,A,i,h=>by
  have G:=ac2 z ho r (fun e L=>A e (m5 _ L)) i;unfold EY at h
  split at h
  ·rename_i I;rw[Nat.testBit_or,Nat.testBit_or] at h;simp only[m6] at h;rcases h with(h|h)|h
   ·rw[Nat.testBit_two_pow] at h;have:e.on=i:=by simpa using h
    subst this;exact .NT ho (A e (gu ..)) I
   ·exact .step (z _ _ h) (.NT ho (A e (gu ..)) I)
   exact G h
  exact G h
theorem Yc{ops:Array Oper}:∀(l:List Oper)(ms:List Nat),(∀n,l[n]?=ops[ms.length+n]?)→(∀j i,(ms.getD j 0).testBit i=true→jC ops i j)→
  ∀j i,((Ck l ms).getD j 0).testBit i=true→jC ops i j
 |[],ms,_,h=>h
 |o::r,ms,G,h=>by
  refine Yc r _ (fun n=>?_) fun j i z=>?_
  ·have:=G (n+1);simp only[Nz] at this;rw[this];simp only[fA,gr,jF];congr 1;omega
  have ho:ops[ms.length]?=some o:=by have:=G 0;simpa using this.symm
  rcases UK j ms.length with A|rfl|I
  ·rw[Mi,vz A,←Mi] at z;exact h j i z
  ·rw[Mi,A7 (bq _)] at z;simp only[Nat.sub_self,Mj,Td] at z;exact ac2 h ho _ (fun e L=>by simpa using L) i z
  rw[Mi,A8 (by simp;omega)] at z;simp at z
theorem Ys:∀(l:List Oper)(k:Nat),KJ k l=true→∀n o e,l[n]?=some o→e∈o.after→Region.binds .any e=true→e.on<k+n
 |[],_,_,n,o,e,h,_,_=>by simp at h
 |x::r,k,h,n,o,e,z,A,G=>by
  unfold KJ at h;simp only[cS,tF] at h
  cases n with
  |zero=>
   simp at z;subst z;have:=h.1 e (by simpa using A);simpa[G] using this
  |succ n=>
   have:=Ys r (k+1) h.2 n o e (by simpa using z) A G;omega
def slotOf:aH→Option Key
 |.t n=>some n
 |_=>none
def uW(o:bl):List Key:=o.op.cR.filterMap slotOf++(match o.g with|some (t,_)=>[t]|none=>[])
def HP(d:Option Key)(l:List Key):Bool:=match d with|some d=>!(l.contains d)|none=>true
def RD(x y:bl):Bool:=HP x.dst (uW y)&&HP x.dst y.dst.toList&&HP y.dst (uW x)
def ac3(ms:List Nat)(l:List bl):Bool:=
 (List.range l.length).all fun j=>(List.range j).all fun i=>(ms.getD j 0).testBit i||(match l[i]?,l[j]?with|some x,some y=>RD x y|_,_=>false)
theorem Qa{d:Option Key}{l:List Key}(h:HP d l=true):∀t,t∈l→d≠some t:=by
 intro t z A;subst A;simp[HP] at h;exact h z
structure RE(x y:bl):Prop where
 xy:∀t,t∈uW y→x.dst≠some t
 dd:∀t,y.dst=some t→x.dst≠some t
 yx:∀t,t∈uW x→y.dst≠some t
theorem apartI_ok{x y:bl}(h:RD x y=true):RE x y:=by
 unfold RD at h;simp only[cS] at h;exact⟨Qa h.1.1,fun t z=>Qa h.1.2 t (by simp[z]),Qa h.2⟩
theorem tmpsOk_ok{ms:List Nat}{l:List bl}(h:ac3 ms l=true){i j:Nat}{x y:bl}(A:i<j)(I:l[i]?=some x)(G:l[j]?=some y):(ms.getD j 0).testBit i=true∨RE x y:=by
 have L:j<l.length:=(List.getElem?_eq_some_iff.1 G).1;have z:=List.all_eq_true.1 (List.all_eq_true.1 h j (List.mem_range.2 L)) i (List.mem_range.2 A);rw[I,G] at z;rcases m6 _ _|>.mp z with z|z
 ·exact .inl z
 exact .inr (apartI_ok z)
theorem Zc{E E':Env}{o:bl}(h:∀t,t∈uW o→E.get t=E'.get t):∀x∈o.op.cR,x.ev E=x.ev E':=by
 intro x z
 cases x with
 |t n=>exact h n (ahs _ (List.mem_filterMap.2 ⟨.t n,z,rfl⟩))
 |c v=>rfl
theorem looks_wants{E E':Env}{o:bl}(h:∀t,t∈uW o→E.get t=E'.get t){b:Bool}(z:mf E o.g b):mf E' o.g b:=by
 generalize A:o.g=g at z
 cases z with
 |none=>exact .none
 |slot k=>
  rename_i t want b;refine .slot ?_;rw[←h t (UU _ (by rw[A];simp))];exact k
 |off k=>
  rename_i t want;refine .off ?_;rw[←h t (UU _ (by rw[A];simp))];exact k
def Cl(m:Nat):Nat→List Nat→List Nat
 |_,[]=>[]
 |k,j::r=>if m.testBit j then Cl m (k+1) r else k::Cl m (k+1) r
def oX(ms:List Nat):Nat→List Nat→List bl→List bl
 |_,_,[]=>[]
 |i,seen,o::r=>if l7 o.op then{o with q:=none}::oX ms (i+1) seen r else{o with q:=some (Cl (ms.getD i 0) 0 seen)}::oX ms (i+1) (i::seen) r
def seenAt(L:List bl):Nat→List Nat
 |0=>[]
 |n+1=>match L[n]?with
  |some o=>if l7 o.op then seenAt L n else n::seenAt L n
  |none=>seenAt L n
theorem Yd{m j:Nat}(z:m.testBit j=false):∀(seen:List Nat)(k n:Nat),seen[n]?=some j→k+n∈Cl m k seen
 |[],_,_,h=>by simp at h
 |x::r,k,n,h=>by
  unfold Cl
  cases n with
  |zero=>simp at h;subst h;rw[aZ (by simp[z])];exact gu ..
  |succ n=>
   have:=Yd z r (k+1) n (by simpa using h);rw[show k+(n+1)=k+1+n by omega]
   split
   ·exact this
   exact m5 _ this
theorem FD{ms:List Nat}{L:List bl}:∀(l:List bl)(i:Nat),(∀n,l[n]?=L[i+n]?)→∀n io,(oX ms i (seenAt L i) l)[n]?=some io→
  ∃z,L[i+n]?=some z∧io.dst=z.dst∧io.g=z.g∧io.op=z.op∧io.q=if l7 z.op then none else some (Cl (ms.getD (i+n) 0) 0 (seenAt L (i+n)))
 |[],i,_,n,io,h=>by simp[oX] at h
 |o::r,i,G,n,io,h=>by
  have h0:L[i]?=some o:=by have:=G 0;simpa using this.symm
  have I:∀n,r[n]?=L[i+1+n]?:=fun n=>by have:=G (n+1);rw[show i+1+n=i+(n+1) by omega];simpa using this
  have M:=FD (ms:=ms) r (i+1) I;have O:seenAt L (i+1)=if l7 o.op then seenAt L i else i::seenAt L i:=by simp only[seenAt,h0]
  unfold oX at h
  cases n with
  |zero=>
   refine⟨o,h0,?_⟩
   split at h
   ·rename_i A;simp at h;subst h;exact⟨rfl,rfl,rfl,by rw[bh A]⟩
   rename_i A;simp at h;subst h;exact⟨rfl,rfl,rfl,by rw[aZ A];rfl⟩
  |succ n=>
   rw[show i+(n+1)=i+1+n by omega];refine M n io ?_;rw[O]
   split at h
   ·rename_i A;rw[bh A];simpa using h
   rename_i A;rw[aZ A];simpa using h
theorem Ye{ms:List Nat}:∀(l:List bl)(i:Nat)(s:List Nat),(oX ms i s l).length=l.length
 |[],_,_=>rfl
 |o::r,i,s=>by
  unfold oX
  split<;>simp[Ye r]
theorem YI{L:List bl}{i:Nat}{o:bl}(h:L[i]?=some o)(A:l7 o.op=false):∀n,i<n→i∈seenAt L n
 |0,h=>by omega
 |n+1,G=>by
  unfold seenAt;rcases Mk (Nat.le_of_lt_succ G) with z|rfl
  ·have:=YI h A n z
   split
   ·split
    ·exact this
    exact m5 _ this
   exact this
  simp[h,A]
theorem Ext.wide{W:Nat→Prop}{n0 n1 z A:Nat}{ρ ρ':Ho}{w w':World}(h:Ext W n0 n1 ρ ρ' w w')(h0:z≤n0)(G:n1≤A):Ext W z A ρ ρ' w w':=
 ⟨h.le,fun f g x e=>(h.gf f g x e).imp_right fun k=>⟨ah,ah⟩,h.bw,h.frame,h.size,by have:=h.nn;omega,h.os,h.tape,h.output⟩
theorem Ext.transW{W:Nat→Prop}{n0 n1:Nat}{ρ z A:Ho}{w U Y:World}(h:Ext W n0 n1 ρ z w U)(k:Ext W n0 n1 z A U Y):Ext W n0 n1 ρ A w Y:=by
 refine⟨Ho.le_trans h.le k.le,?_,?_,?_,eZ h.size k.size,h.nn,k.os.trans h.os,k.tape.trans h.tape,k.output.trans h.output⟩
 ·intro f g x G;rcases k.gf f g x G with⟨g0,h0,e⟩|e
  ·exact h.gf f g0 h0 e
  exact .inr e
 ·intro f g x G;rcases k.bw f g x G with e|⟨a,b⟩|⟨g0,h0,e,I,L⟩
  ·exact h.bw f g x e
  ·exact .inr (.inl ⟨eZ h.size a,b⟩)
  rcases h.bw f g0 h0 e with M|⟨a,b⟩|⟨g1,h1,M,e3,e4⟩
  ·exact .inr (.inr ⟨g0,h0,M,I,L⟩)
  ·exact .inr (.inl ⟨I▸a,L▸b⟩)
  exact .inr (.inr ⟨g1,h1,M,e3.trans I,e4.trans L⟩)
 intro b Z O;rw[k.frame b (jg Z h.size) ?_,h.frame b Z O];intro f g x G hr hw;rcases h.bw f g x G with e|⟨a,_⟩|⟨g0,h0,e,I,L⟩
 ·exact O f g x e hr hw
 ·intro hh;omega
 exact I▸O f g0 h0 e (L.trans hr) hw
def oY(l:List bl)(n:Nat):Option Key:=(l[n]?).bind (·.dst)
def rE(l:List bl)(E:Env)(V:Nat→al)(S:Nat→Bool):Nat→Env
 |0=>E
 |n+1=>if S n=true then iJ (rE l E V S n) (oY l n) (V n) else rE l E V S n
def rC(C:Nat→Option cT)(Hs:Nat→aw)(S:Nat→Bool):Nat→Nat→Option cT
 |0=>C
 |n+1=>if S n=true then dZ (rC C Hs S n) (Hs n) (Hs (n+1)) else rC C Hs S n
theorem FZ{l:List bl}{E:Env}{V:Nat→al}{S:Nat→Bool}(n:Nat):rE l E V S (n+1)=if S n=true then iJ (rE l E V S n) (oY l n) (V n) else rE l E V S n:=rfl
theorem F1{C:Nat→Option cT}{Hs:Nat→aw}{S:Nat→Bool}(n:Nat):rC C Hs S (n+1)=if S n=true then dZ (rC C Hs S n) (Hs n) (Hs (n+1)) else rC C Hs S n:=rfl
def ins(S:Nat→Bool)(j:Nat):Nat→Bool:=fun i=>i==j||S i
theorem Ct(E:Env)(d:Option Key)(v:al)(t:Key):(iJ E d v).get t=if d=some t then some v else E.get t:=by
 cases d with
 |none=>simp[iJ]
 |some d=>
  show(E.set d v).get t=_;rw[T4.di]
  by_cases h:t=d
  ·subst h;simp
  rw[aZ h,aZ (by simp;exact fun e=>h e.symm)]
section
variable{l:List bl}{E:Env}{V:Nat→al}{S:Nat→Bool}{j:Nat}
theorem LJ(t:Key){T:Nat→Bool}:∀n,(∀i,i<n→S i≠T i→oY l i≠some t)→(rE l E V S n).get t=(rE l E V T n).get t
 |0,_=>rfl
 |n+1,h=>by
  have z:=LJ t n fun i hi=>h i ah
  have A:=h n ah;rw[FZ,FZ]
  cases G:S n<;>cases I:T n
  ·simpa using z
  ·have:=A (by simp[G,I]);simp only[fW,if_false,if_true,Ct,aZ this];exact z
  ·have:=A (by simp[G,I]);simp only[fW,if_false,if_true,Ct,aZ this];exact z
  simp only[if_true,Ct,z]
theorem KZ(t:Key):∀n,j≤n→(∀k,j≤k→k<n→S k=true→oY l k≠some t)→(rE l E V S n).get t=(rE l E V S j).get t
 |0,z,_=>by have:j=0:=ah;subst this;rfl
 |n+1,z,h=>by
  rcases Mk z with G|rfl
  ·have A:=KZ t n ah fun k I h2=>h k I ah
   rw[FZ]
   split
   ·rename_i L;rw[Ct,aZ (h n ah ah L)];exact A
   exact A
  rfl
theorem ac4(I:S j=false)(A:j<l.length)(L:∀k t,j<k→S k=true→oY l j=some t→oY l k≠some t)(t:Key):
  (rE l E V (ins S j) l.length).get t=(iJ (rE l E V S l.length) (oY l j) (V j)).get t:=by
 rw[Ct];have e:∀i,ins S j i≠S i→i=j:=by
  intro i hi;unfold ins at hi
  by_cases h:i=j
  ·exact h
  simp[h] at hi
 split
 ·rename_i z;rw[KZ (j:=j+1) t l.length A fun k M h2 G=>L k t ah (by unfold ins at G;simpa[show k≠j by omega] using G) z];rw[FZ];rw[bh (by simp[ins]),Ct,bh z]
 rename_i z;exact LJ t _ fun i _ hi=>by rw[e i hi];exact z
end
section
variable{C:Nat→Option cT}{Hs:Nat→aw}{S:Nat→Bool}{j:Nat}
def Touch(Hs:Nat→aw)(n f:Nat):Prop:=((Hs n).next≤f∧f<(Hs (n+1)).next)∨(Hs (n+1)).t.get f≠(Hs n).t.get f
theorem Kx{n f:Nat}(h:Touch Hs n f):dZ C (Hs n) (Hs (n+1)) f=(Hs (n+1)).t.get f:=by
 unfold dZ;rcases h with h|h
 ·rw[bh h]
 rw[aZ h];split<;>rfl
theorem Ko{n f:Nat}(h:¬Touch Hs n f):dZ C (Hs n) (Hs (n+1)) f=C f:=by
 unfold dZ;rw[aZ (fun k=>h (.inl k)),bh (Dj fun k=>h (.inr k))]
theorem ac5(f:Nat){T:Nat→Bool}:∀n,(∀i,i<n→S i≠T i→¬Touch Hs i f)→rC C Hs S n f=rC C Hs T n f
 |0,_=>rfl
 |n+1,h=>by
  have A:=ac5 f n fun i hi=>h i ah
  have G:=h n ah;rw[F1,F1]
  by_cases z:Touch Hs n f
  ·have e:S n=T n:=Dj fun k=>G k z
   rw[e]
   cases T n
   ·simpa using A
   simp only[if_true,Kx z]
  cases S n<;>cases T n<;>simp only[fW,if_false,if_true,Ko z]<;>exact A
theorem F2(f:Nat):∀n,j≤n→(∀k,j≤k→k<n→S k=true→¬Touch Hs k f)→rC C Hs S n f=rC C Hs S j f
 |0,z,_=>by have:j=0:=ah;subst this;rfl
 |n+1,z,h=>by
  rcases Mk z with G|rfl
  ·have A:=F2 f n ah fun k I h2=>h k I ah
   rw[F1]
   split
   ·rename_i L;rw[Ko (h n ah ah L)];exact A
   exact A
  rfl
theorem ac6{N:Nat}(I:S j=false)(A:j<N)(L:∀k f,j<k→k<N→S k=true→Touch Hs j f→¬Touch Hs k f)(f:Nat):
  rC C Hs (ins S j) N f=dZ (rC C Hs S N) (Hs j) (Hs (j+1)) f:=by
 have e:∀i,ins S j i≠S i→i=j:=by
  intro i hi;unfold ins at hi
  by_cases h:i=j
  ·exact h
  simp[h] at hi
 by_cases z:Touch Hs j f
 ·rw[Kx z,F2 (j:=j+1) f N A fun k M h2 G=>L k f ah h2 (by unfold ins at G;simpa[show k≠j by omega] using G) z];rw[F1];rw[bh (by simp[ins]),Kx z]
 rw[Ko z];exact ac5 f _ fun i _ hi=>by rw[e i hi];exact z
theorem Qb(f:Nat)(h0:∀o,(Hs 0).t.get f=some o→C f=some o):∀n,(∀i,i<n→S i=false→¬Touch Hs i f)→∀o,(Hs n).t.get f=some o→rC C Hs S n f=some o
 |0,_,o,h=>h0 o h
 |n+1,A,o,h=>by
  have G:=Qb f h0 n (fun i hi=>A i ah) o;rw[F1]
  by_cases z:Touch Hs n f
  ·have:S n=true:=by
    cases I:S n
    ·exact absurd z (A n ah I)
    rfl
   rw[bh this,Kx z];exact h
  have e:(Hs (n+1)).t.get f=(Hs n).t.get f:=Dj fun k=>z (.inr k)
  rw[e] at h
  split
  ·rw[Ko z];exact G h
  exact G h
end
structure Fact(call:dG)(o:bl)(E:Env)(H:aw)(b:Bool)(v:al)(fp:FP)(H1:aw):Prop where
 ky:eF H H1
 touch:∀f,((H.next≤f∧f<H1.next)∨H1.t.get f≠H.t.get f)→o.q.isSome=true∧(f∈fp.ws∨(fp.lo≤f∧f<fp.hi∧H.next≤f∧f<H1.next))
 wants:mf E o.g b
 off:b=false→v= .undef∧H1=H
 on:b=true→∃Hm Hn,o.op.ev call E Hm= .ok v Hn∧Hm.aQ≤Hm.next∧Hm.next=H.next∧Hm.t=H.t∧Hn.next=H1.next∧Hn.t=H1.t∧(∀f,Wr Hn f→Wr H1 f)∧(o.q.isSome=true→fp.rd=o.op.reads E)
section
variable{P:Program}{call:dG}
theorem qm.fact{o:bl}{E:Env}{H:aw}{bc:List FP}{b:Bool}{v:al}{fp:FP}{H1:aw}(Y:jb P call)(Z:o.q=none→l7 o.op=true)(U:H.aQ≤H.next)(G:WF H)(h:qm call o E H bc b v fp H1):
  Fact call o E H b v fp H1:=by
 cases h with
 |skip I L=>exact⟨eF.refl _,fun f z=>absurd z (by rintro(z|z);omega;exact z rfl),I,fun _=>⟨rfl,rfl⟩,fun h=>by cases h⟩
 |plain I L M=>
  have e:=pure_same (Z L) v H1 M;subst e;exact⟨eF.refl _,fun f z=>absurd z (by rintro(z|z);omega;exact z rfl),I,fun h=>(by cases h),fun _=>⟨H1,H1,M,U,rfl,rfl,rfl,rfl,fun _ h=>h,fun h=>by rw[L] at h;cases h⟩⟩
 |marked I L M ha=>
  rename_i q A;have t:=TM.ins (H:=H.mark) (bq _) (fun f a=>Y.ky f a _ (bq _)) E o.op v A M;refine⟨t.CQ U,fun f z=>⟨by rw[L];rfl,?_⟩,I,fun h=>(by cases h),fun _=>⟨H.mark,A,M,bq _,rfl,rfl,rfl,rfl,fun f z=>?_,fun _=>rfl⟩⟩
  ·have z:((H.next≤f∧f<A.next)∨A.t.get f≠H.t.get f):=z;show f∈A.ws∨(H.next≤f∧f<A.next∧H.next≤f∧f<A.next)
   by_cases O:f<H.next
   ·rcases z with z|z
    ·omega
    exact .inl (Dj fun k=>z (t.same f O k))
   by_cases h2:f<A.next
   ·exact .inr ⟨ah,h2,ah,h2⟩
   rcases z with z|z
   ·omega
   have e1:H.t.get f=none:=G f ah;have e2:A.t.get f=none:=t.wf G f ah;exact absurd (e2.trans e1.symm) z
  rcases z with z|z
  ·by_cases O:f<H.aQ
   ·exact .inl ((Fk _ _ _ _).2 (.inr ⟨z,O⟩))
   exact .inr (by show H.aQ≤f;omega)
  have:H.next≤f:=by rw[t.aQ] at z;exact z
  exact .inr (by show H.aQ≤f;omega)
end
structure xJ(P:Program)(nt:Nat)(ops:Array Oper)(l:List bl):Prop where
 len:l.length=ops.size
 opof:∀(i:Nat)(o:Oper)(io:bl),ops[i]?=some o→l[i]?=some io→Ei P nt ops o io
 back:∀(j:Nat)(o:Oper)(e:Edge),ops[j]?=some o→e∈o.after→Region.binds .any e=true→e.on<j
 tmps:∀(i j:Nat)(x y:bl),i<j→l[i]?=some x→l[j]?=some y→jC ops i j∨RE x y
 pure:∀(i:Nat)(x:bl),l[i]?=some x→x.q=none→l7 x.op=true
section
variable{P:Program}{call:dG}{nt:Nat}{ops:Array Oper}{l:List bl}{E E':Env}{H H':aw}{Es:Nat→Env}{Hs:Nat→aw}{Rs:Nat→List FP}{Wn:Nat→Bool}{Vs:Nat→al}{Fp:Nat→FP}
theorem Trace.wf(A:jb P call)(G:xJ P nt ops l)(T:Trace call l E H [] E' H' Es Hs Rs Wn Vs Fp)(I:H.aQ≤H.next)(z:WF H):∀i,i≤l.length→(Hs i).aQ≤(Hs i).next∧WF (Hs i)
 |0,_=>by rw[T.h0];exact⟨I,z⟩
 |i+1,hi=>by
  obtain⟨L,h2⟩:=Trace.wf A G T I z i ah;obtain⟨o,ho⟩:∃o,l[i]?=some o:=⟨_,c7 ah⟩;have t:=((T.step i o ho).1.fact A (G.pure i o ho) L h2).ky;exact⟨by rw[t.aQ];exact eZ L t.next,t.wf h2⟩
theorem Trace.fact(A:jb P call)(G:xJ P nt ops l)(T:Trace call l E H [] E' H' Es Hs Rs Wn Vs Fp)(I:H.aQ≤H.next)(z:WF H){i:Nat}{o:bl}(ho:l[i]?=some o):
  Fact call o (Es i) (Hs i) (Wn i) (Vs i) (Fp i) (Hs (i+1)):=by
 have hi:i<l.length:=(List.getElem?_eq_some_iff.1 ho).1;obtain⟨L,h2⟩:=T.wf A G I z i ah;exact(T.step i o ho).1.fact A (G.pure i o ho) L h2
theorem Trace.ky(A:jb P call)(G:xJ P nt ops l)(T:Trace call l E H [] E' H' Es Hs Rs Wn Vs Fp)(I:H.aQ≤H.next)(z:WF H){i:Nat}:∀k,i≤k→k≤l.length→eF (Hs i) (Hs k)
 |0,h,_=>by have:i=0:=ah;subst this;exact eF.refl _
 |k+1,h,M=>by
  rcases Mk h with L|rfl
  ·obtain⟨o,ho⟩:∃o,l[k]?=some o:=⟨_,c7 ah⟩;exact(Trace.ky A G T I z k ah ah).trans (T.fact A G I z ho).ky
  exact eF.refl _
theorem Trace.env(T:Trace call l E H [] E' H' Es Hs Rs Wn Vs Fp):∀n,n≤l.length→Es n=rE l E Vs (fun _=>true) n
 |0,_=>T.e0
 |n+1,z=>by
  obtain⟨o,ho⟩:∃o,l[n]?=some o:=⟨_,c7 ah⟩;rw[(T.step n o ho).2.1,FZ,Trace.env T n ah,bh rfl];simp[oY,ho]
structure Inv(P:Program)(nt:Nat)(l:List bl)(E:Env)(H H':aw)(Hs:Nat→aw)(Vs:Nat→al)(ρ0:Ho)(C0:Nat→Option cT)(w0:World)(S:Nat→Bool)(a:Act)(w:World)(ρ:Ho):Prop where
 ar:AR P ρ nt (rE l E Vs S l.length) a
 r:R ρ (rC C0 Hs S l.length) w
 ext:Ext (Wr H') H.next H'.next ρ0 ρ w0 w
 gf:∀f g h,ρ f g=some h→(∃g0 h0,ρ0 f g0=some h0)∨∃k,k<l.length∧S k=true∧(Hs k).next≤f∧f<(Hs (k+1)).next
theorem AR.congr{ρ:Ho}{a:Act}{E1 z:Env}(h:AR P ρ nt E1 a)(A:∀t,z.get t=E1.get t):AR P ρ nt z a:=
 ⟨h.size,h.defers,fun t v k=>h.tmp t v (by rw[←A];exact k),h.qH⟩
theorem step_any(hc:jb P call)(hr:xJ P nt ops l)(T:Trace call l E H [] E' H' Es Hs Rs Wn Vs Fp)
  (M:∀(i j:Nat)(x y:bl),i<j→l[i]?=some x→l[j]?=some y→x.q.isSome=true→y.q.isSome=true→jC ops i j∨Cz (Fp j) (Fp i))
  (hm:H.aQ≤H.next) (nu:WF H) {ρ0:Ho} {C0:Nat→Option cT} {w0:World} (WY:gE ρ0 C0 H) (EZ:fk ρ0 H.next H'.next)
  {S:Nat→Bool} (hS:LI ops S) {j:Nat} (hj:j<l.length) (O:S j=false) (hjr:Tv ops S j) {a:Act} {w:World} {ρ:Ho} (hI:Inv P nt l E H H' Hs Vs ρ0 C0 w0 S a w ρ)
  {Q:Exit→Act→World→Prop} {K:Act→World→Prop} (hK:∀a' w' ρ',Inv P nt l E H H' Hs Vs ρ0 C0 w0 (ins S j) a' w' ρ'→K a' w'):wpOp P ops Q j K a w:=by
 obtain⟨io,A⟩:∃io,l[j]?=some io:=⟨_,c7 hj⟩;obtain⟨o,ho⟩:∃o,ops[j]?=some o:=⟨_,A9 (by rw[←hr.len];exact hj)⟩;have E0:=hr.opof j o io ho A;have fj:=T.fact hc hr hm nu A;have I:∀i k,i≤k→k≤l.length→(Hs i).next≤(Hs k).next:=fun i k h1 h2=>(T.ky hc hr hm nu k h1 h2).next
 have h0:Hs 0=H:=T.h0;have hN:Hs l.length=H':=T.hN;have NU:∀k,S k=true→¬jC ops j k:=fun k hk hb=>by rw[hb.closed hS hk] at O;cases O
 have aii:∀i,S i=false→¬jC ops i j:=fun i hi hb=>by rw[hb.ready hS hjr] at hi;cases hi
 have get:∀{k},k<l.length→∃y,l[k]?=some y:=fun hk=>⟨_,c7 hk⟩
 have G:∀{k y},l[k]?=some y→oY l k=y.dst:=fun Y=>by simp[oY,Y]
 have WZ:∀t,t∈uW io→(rE l E Vs S l.length).get t=(Es j).get t:=by
  intro t ht;rw[T.env j ah,KZ (j:=j) t l.length ah fun k h1 h2 L=>?_]
  ·refine LJ t j fun i hi L=>?_
   obtain⟨x,hx⟩:=get (k:=i) ah;have L:S i=false:=by simpa using L
   rw[G hx];exact((hr.tmps i j x io hi hx A).resolve_left (aii i L)).xy t ht
  obtain⟨y,Y⟩:=get h2;have fL:j≠k:=fun e=>by rw[←e,O] at L;cases L
  rw[G Y];exact((hr.tmps j k io y ah A Y).resolve_left (NU k L)).yx t ht
 have aij:∀k t,j<k→S k=true→oY l j=some t→oY l k≠some t:=by
  intro k t hk L hd wu
  by_cases OP:k<l.length
  ·obtain⟨y,Y⟩:=get OP;rw[G Y] at wu;rw[G A] at hd;exact((hr.tmps j k io y hk A Y).resolve_left (NU k L)).dd t wu hd
  simp[oY,A8 (Nat.le_of_not_lt OP)] at wu
 have z:∀{k f y},l[k]?=some y→Touch Hs k f→y.q.isSome=true∧(f∈(Fp k).ws∨((Fp k).lo≤f∧f<(Fp k).hi∧(Hs k).next≤f∧f<(Hs (k+1)).next)):=
  fun Y ht=>(T.fact hc hr hm nu Y).touch _ ht
 have NV:∀i,i≤l.length→WF (Hs i):=fun i hi=>(T.wf hc hr hm nu i hi).2
 have ac7:∀k f,j<k→k<l.length→S k=true→Touch Hs j f→¬Touch Hs k f:=by
  intro k f hk OP L tj tk;obtain⟨y,Y⟩:=get OP;obtain⟨qj,ej⟩:=z A tj;obtain⟨qk,ek⟩:=z Y tk;have fa:=(M j k io y hk A Y qj qk).resolve_left (NU k L);have n1:=I (j+1) k hk ah;have n2:=I j (j+1) ah ah;rcases ek with ek|⟨e1,e2,e3,e4⟩
  ·rcases ej with ej|⟨e1,e2,e3,e4⟩
   ·exact fa.ww f ek ej
   exact fa.out f ek ⟨e1,e2⟩
  rcases tj with tj|tj
  ·omega
  refine tj ((NV (j+1) ah f ah).trans (NV j ah f ah).symm)
 have IT:∀{i f},i<l.length→S i=false→(Hs i).next≤f→f<(Hs (i+1)).next→∀g,ρ f g=none:=by
  intro i f hi L h1 h2 g
  cases hx:ρ f g with
  |none=>rfl
  |some x=>
   rcases hI.gf f g x hx with⟨g0,x0,e⟩|⟨k,hk,W0,e1,e2⟩
   ·have n1:=I 0 i ah ah;have n2:=I (i+1) l.length ah ah;rw[h0] at n1;rw[hN] at n2;rw[EZ f g0 ah ah] at e;cases e
   rcases UK i k with pI|rfl|OK
   ·have:=I (i+1) k ah ah;omega
   ·rw[L] at W0;cases W0
   have:=I (k+1) i ah ah;omega
 have hfree:fk ρ (Hs j).next (Hs (j+1)).next:=fun f g h1 h2=>IT hj O h1 h2 g
 have hreads:Wn j=true→∀f ob,(∀ls,io.op.reads (Es j)=some ls→f∈ls)→(∃g h,ρ f g=some h)→(Hs j).t.get f=some ob→rC C0 Hs S l.length f=some ob:=by
  intro hon f ob yY⟨g,x,hx⟩E3;obtain⟨_,_,_,_,_,_,_,_,_,hrd2⟩:=fj.on hon;have U:io.q.isSome=true:=by
   cases hq:io.q with
   |some q=>rfl
   |none=>have:=yY [] (pure_reads (hr.pure j io A hq));cases this
  have hrdj:(Fp j).rd=io.op.reads (Es j):=hrd2 U;have aik:∀m,(Fp j).rd=some m→f∈m:=fun m hm=>yY m (hrdj▸hm)
  have fj2:f<(Hs j).next:=Dj fun k=>by rw[NV j ah f ah] at E3;cases E3
  rw[F2 (j:=j) f l.length ah fun k h1 h2 L tk=>?_]
  ·refine Qb f (fun o' pL=>?_) j (fun i hi L ti=>?_) ob E3
   ·rw[h0] at pL;refine WY f o' ?_ pL;rcases hI.gf f g x hx with e|⟨k,hk,W0,e1,e2⟩
    ·exact e
    have n1:=I 0 k ah ah;rw[h0] at n1;rw[nu f ah] at pL;cases pL
   obtain⟨y,Y⟩:=get (k:=i) ah;obtain⟨qi,ei⟩:=z Y ti;rcases ei with ei|⟨_,_,e3,e4⟩
   ·obtain⟨m,qX,sC⟩:=((M i j y io hi Y A qi U).resolve_left (aii i L)).ba f ei;exact sC (aik m qX)
   rw[IT ah L e3 e4 g] at hx;cases hx
  obtain⟨y,Y⟩:=get h2;have fL:j≠k:=fun e=>by rw[←e,O] at L;cases L
  obtain⟨qk,ek⟩:=z Y tk;rcases ek with ek|⟨_,_,e3,e4⟩
  ·obtain⟨m,qX,sC⟩:=((M j k io y ah A Y U qk).resolve_left (NU k L)).ab f ek;exact sC (aik m qX)
  have:=I j k ah ah;omega
 have Z:∀k,S k=true→ins S j k=true:=fun k hk=>by simp[ins,hk]
 unfold wpOp;simp only[ho];have hw:=looks_wants (E':=rE l E Vs S l.length) (fun t ht=>(WZ t ht).symm) fj.wants;rw[PN E0 hw hI.ar.tmp]
 cases hb:Wn j with
 |false=>
  rw[aZ (by simp)];obtain⟨e1,e2⟩:=fj.off hb;refine hK _ _ ρ ⟨?_,?_,hI.ext,fun f g x hx=>(hI.gf f g x hx).imp_right fun⟨k,h1,h2,h3⟩=>⟨k,h1,Z k h2,h3⟩⟩
  ·refine AR.congr (E1:=iJ (rE l E Vs S l.length) io.dst .undef) (by rw[E0.dst];exact hI.ar.NS E0.lt (by simp only[VR])) fun t=>?_
   rw[ac4 O hj aij t,G A,e1]
  rw[show rC C0 Hs (ins S j) l.length=rC C0 Hs S l.length from funext fun f=>by rw[ac6 O hj ac7 f,e2,oL]];exact hI.r
 |true=>
  rw[bh rfl];left;obtain⟨Hm,Hn,he,k1,k2,k3,k4,k5,k6,k7⟩:=fj.on hb;rcases E0.op with yW|U4
  case inr=>rw[U4] at he;exact(aaS he).elim
  have hop2:io.op.ev call (rE l E Vs S l.length) Hm= .ok (Vs j) Hn:=by
   rw[bn.ev_congr io.op (Zc (E':=Es j) WZ)];exact he
  have WW:=Y9 (o:=o) yW hI.ar hI.r (by rw[k2,k4];exact hfree) (fun f ob yY hx E3=>by
   rw[k3] at E3;refine hreads hb f ob (fun ls OQ=>yY ls ?_) hx E3
   rw[bn.reads_congr io.op (Zc (E':=Es j) WZ)];exact OQ) k1 (fun x hx=>by rw[k3];exact NV j ah x (by rw[←k2];exact hx)) hc hop2
  refine YB WW fun cv w' hp=>?_
  obtain⟨ρ',hv,U5,WX⟩:=hp;have hupd:dZ (rC C0 Hs S l.length) Hm Hn=dZ (rC C0 Hs S l.length) (Hs j) (Hs (j+1)):=by
   funext f;unfold dZ;rw[k2,k3,k4,k5]
  refine hK _ _ ρ' ⟨?_,?_,hI.ext.transW (Ext.wide (U5.mono fun f hf=>?_) ?_ ?_),fun f g x hx=>?_⟩
  ·refine AR.congr (E1:=iJ (rE l E Vs S l.length) io.dst (Vs j)) (by rw[E0.dst];exact(hI.ar.mono U5.le).NS E0.lt hv) fun t=>?_
   rw[ac4 O hj aij t,G A]
  ·rw[show rC C0 Hs (ins S j) l.length=dZ (rC C0 Hs S l.length) Hm Hn from funext fun f=>by rw[ac6 O hj ac7 f,hupd]];exact WX
  ·have t:=T.ky hc hr hm nu (i:=j+1) l.length ah ah;rw[hN] at t;exact QG t f (k6 f hf)
  ·rw[k2,←h0];exact I 0 j ah ah
  ·rw[k4,←hN];exact I (j+1) l.length ah ah
  rcases U5.gf f g x hx with⟨g0,x0,e⟩|e
  ·exact(hI.gf f g0 x0 e).imp_right fun⟨k,h1,h2,h3⟩=>⟨k,h1,Z k h2,h3⟩
  rw[k2,k4] at e;exact .inr ⟨j,hj,by simp[ins],e⟩
end
end Go.Ev
