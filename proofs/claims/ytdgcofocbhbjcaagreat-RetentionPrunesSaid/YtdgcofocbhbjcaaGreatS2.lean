/- Part 2 of rules for walks through the code of a program, and of such walks; what each part proves is said by its theorems. -/
import Derived.Test.YtdgcofocbhbjcaaGreatS1
import GoSem.Core.Layout
import GoSem.ClaimKeys
import Derived.IntWalk
import Derived.Deep.AppendSrc
import Derived.RowKit3
set_option linter.unusedVariables false
set_option linter.unusedSimpArgs false
noncomputable section
set_option maxRecDepth 100000
set_option maxHeartbeats 4000000
namespace Go.Ev
mutual
def valOf:Value→Option aw
 |.bool b=>some (.bool b)
 |.int k n=>some (.int k n)
 |.string s=>some (.str s.size (pack s.data.toList))
 |.pointer none=>some .kN
 |.slice none 0 0=>some .gh
 |.nilIface=>some .i7
 |.nilFunc=>some .nw
 |.map none=>some .u9
 |.agg cs=>match DH cs.toList with
  |some l=>if l.all fb then some (.agg l) else none
  |none=>none
 |_=>none
def DH:List Value→Option (List aw)
 |[]=>some []
 |v::r=>match valOf v,DH r with
  |some a,some l=>some (a::l)
  |_,_=>none
end
def cellsOf:aw→Option (List aw)
 |.agg cs=>some cs
 |.tuple _=>none
 |.undef=>none
 |v=>some [v]
def cB(P:Program):Operand→Option aM
 |.tmp t=>if t<1296 then some (.t (pk t)) else none
 |.const v=>match valOf v with|some a=>some (.c a)|none=>none
 |.global g=>if g<P.globals.size then some (.c (.ptr g 1 0)) else none
 |.func f=>some (.c (.func f [] []))
def jN(P:Program):List Operand→Option (List aM)
 |[]=>some []
 |x::r=>match cB P x,jN P r with
  |some a,some l=>some (a::l)
  |_,_=>none
def zeroOf(P:Program)(t:TypeId):Option (List aw):=
 match P.info? t with
 |some i=>match i.zero with
  |some z=>match valOf z with
   |some v=>match cellsOf v with
    |some l=>if l.length=i.size∧0<i.size then some l else none
    |none=>none
   |none=>none
  |none=>none
 |none=>none
def o0(P:Program)(t:TypeId):Bool:=match P.underlying t with|some (.struct _)=>true|some (.array _ _)=>true|_=>false
def bad:bF:=.rA (.c .kN) []
def O'(P:Program):TypeDesc→Option Cw
 |.bool=>some .bool
 |.pointer e=>match P.info? e with|some _=>some .ptr|none=>none
 |.slice _=>some .slice
 |.interface _=>some .iface
 |.func _ _ _=>some .func
 |.map _ _=>some .map
 |_=>none
def Ay:Operand→Bool
 |.const _=>true
 |_=>false
def Io(x y:Operand):TypeDesc→Bool
 |.interface ms=>ms.isEmpty||Ay x||Ay y
 |_=>true
def HN(P:Program)(g:TypeId→Option (List Nat)):Nat→List Field→Option (List Nat)
 |_,[]=>some []
 |off,f::r=>match g f.type with
  |some k=>if f.offset=off∧k.length=P.cellsOf f.type then
    match HN P g (off+k.length) r with
    |some l=>some (k++l)
    |none=>none
   else none
  |none=>none
def uY(P:Program):Nat→TypeId→Option (List Nat)
 |0,_=>none
 |d+1,t=>match P.underlying t with
  |some .bool=>some [100]
  |some (.int k)=>some [cI k]
  |some .string=>some [101]
  |some (.struct fs)=>match HN P (uY P d) 0 fs.toList with
   |some ks=>if ks.length=P.cellsOf t∧fs.all (·.name != "_")=true then some ks else none
   |none=>none
  |_=>none
def Pa(P:Program)(op:BinOp)(t:TypeId)(x y:aM):Option bF:=
 match uY P 12 t with
 |some ks=>if P.keyTypeAt 12 t=true∧P.eqGuardType P.depth t=false then
   match op with
   |.eql=>some (.eqv (.agg ks) false x y)
   |.neq=>some (.eqv (.agg ks) true x y)
   |_=>none
  else none
 |none=>none
def QF(P:Program)(op:BinOp)(d:TypeDesc)(p z:Operand)(x y:aM):Option bF:=
 match O' P d with
 |some c=>if Io p z d=true then
   match op with
   |.eql=>some (.eqv c false x y)
   |.neq=>some (.eqv c true x y)
   |_=>none
  else none
 |none=>none
def Y1(P:Program)(op:BinOp)(t:TypeId)(p z:Operand)(x y:aM):Option bF:=
 match P.underlying t with
 |some (.int _)=>some (.bin op x y)
 |some .string=>some (.bin op x y)
 |some (.struct _)=>Pa P op t x y
 |some d=>QF P op d p z x y
 |none=>none
def gK(P:Program)(t:TypeId):Option Nat:=match P.info? t,P.underlying t with|some i,some _=>if i.size≠0 then some i.size else none|_,_=>none
def HO(P:Program)(t:TypeId)(x:aM):Option bF:=
 match P.info? t with
 |some j=>if j.size≠0 then some (.vt t (P.cellsOf t) x) else none
 |none=>none
def L9(P:Program)(src dst:TypeId)(x:aM):Option bF:=
 match P.underlying src,P.underlying dst with
 |some .string,some (.slice e)=>match P.underlying e with
  |some (.int .u8)=>some (.AQ e x)
  |_=>none
 |some (.slice e),some .string=>match P.underlying e with
  |some (.int .u8)=>some (.vc x)
  |_=>none
 |some (.pointer t),some .unsafePointer=>HO P t x
 |some .unsafePointer,some (.pointer t)=>HO P t x
 |_,_=>none
def WN(P:Program)(src dst:TypeId)(x:aM):Option bF:=
 match P.underlying src,P.underlying dst with
 |some (.int _),some (.int k)=>some (.conv k x)
 |_,_=>L9 P src dst x
def AT(P:Program)(place:Nat→Option (Nat×Nat)):List (Nat×Operand)→Option (List (Nat×Nat×aM))
 |[]=>some []
 |(i,x)::r=>match place i,cB P x,AT P place r with
  |some q,some y,some l=>some ((q.1,q.2,y)::l)
  |_,_,_=>none
def HP(P:Program):List (Nat×Operand)→Option (List (Nat×aM))
 |[]=>some []
 |(i,x)::r=>match cB P x,HP P r with
  |some y,some l=>some ((i,y)::l)
  |_,_=>none
def nB(P:Program):Option Operand→Option (Option aM)
 |none=>some none
 |some x=>match cB P x with|some y=>some (some y)|none=>none
def HQ(z:List aw):Option (List (Nat×Nat×aM))→Option bF
 |some l=>if(l.all fun p=>decide (p.1+p.2.1≤z.length))=true then some (.build z l) else none
 |none=>none
def L'(P:Program)(t:TypeId)(parts:List (Nat×Operand)):Option bF:=
 match zeroOf P t with
 |some z=>match P.underlying t with
  |some (.struct fs)=>match fs.toList.mapM (fun f=>(P.info? f.type).map fun i=>(f.offset,i.size)) with
   |some p=>HQ z (AT P (fun i=>p.toArray[i]?) parts)
   |none=>none
  |some (.array _ e)=>match P.info? e with
   |some A=>HQ z (AT P (fun i=>some (i*A.size,A.size)) parts)
   |none=>none
  |_=>none
 |none=>none
def Lx(P:Program)(t:TypeId)(p:Nat)(parts:List (Nat×Operand)):Option bF:=
 match P.underlying t with
 |some (.slice e)=>match P.info? e,zeroOf P e with
  |some i,some z=>match HP P parts with
   |some l=>if p*i.size≤16777216 then some (.rf e i.size i.bytes p z l) else none
   |none=>none
  |_,_=>none
 |_=>none
def M3(P:Program)(t:TypeId)(a b:aM):Option bF:=
 match P.underlying t with
 |some (.slice e)=>match P.info? e,zeroOf P e with
  |some i,some z=>if i.bytes≠0 then some (.tE e i.size i.bytes z a b) else none
  |_,_=>none
 |_=>none
def slArrOf(_:Program)(_:TypeId)(_:aM)(_ _:Option aM):Option bF:=none
def UF(mx:Bool):List aM→Option bF
 |x::r=>some (.vb mx x r)
 |[]=>none
def otherOf(_:Program)(_:Op):Option bF:=none
def M4(P:Program)(c:Call):Option bF:=
 match c.callee,jN P c.args.toList with
 |.value f,some args=>match f with
  |.func f=>some (.call f args)
  |f=>match cB P f with|some y=>some (.rA y args)|none=>none
 |.builtin .len,some [x]=>match c.argTypes[0]?with
  |some t=>match P.underlying t with
   |some .string=>some (.rY x)
   |some (.slice _)=>some (.len x)
   |some (.array n _)=>some (.FE n)
   |_=>none
  |none=>none
 |.builtin .append,some [x,y]=>match c.argTypes[0]?,c.argTypes[1]?with
  |some t,some u=>match P.underlying t,P.underlying u with
   |some (.slice e),some (.slice _)=>match P.info? e,zeroOf P e with
    |some i,some _=>if i.bytes≠0 then some (.app e i.size i.bytes x y) else none
    |_,_=>none
   |some (.slice e),some .string=>match P.info? e,zeroOf P e with
    |some i,some _=>if i.size=1∧i.bytes=1 then some (.va e x y) else none
    |_,_=>none
   |_,_=>none
  |_,_=>none
 |.builtin .clear,some [x]=>match c.argTypes[0]?with
  |some t=>match P.underlying t with
   |some (.slice e)=>match P.info? e,zeroOf P e with
    |some i,some z=>some (.copy i.size x (.c (.agg z)))
    |_,_=>none
   |_=>none
  |none=>none
 |.builtin .unsafeSliceData,some [x]=>some (.Gx x)
 |.builtin .unsafeString,some [x,y]=>match c.argTypes.toList with
  |[p,_]=>match P.underlying p with
   |some (.pointer e)=>if P.cellsOf e=1 then some (.wc e x y) else none
   |_=>none
  |_=>none
 |.builtin .min,some l=>UF false l
 |.builtin .max,some l=>UF true l
 |_,_=>none
def FN(P:Program)(o:Op):Option bF:=
 match o with
 |.move x=>match cB P x with|some y=>some (.cG y)|none=>none
 |.assign x=>match cB P x with|some y=>some (.cG y)|none=>none
 |.pick c a b=>match cB P c,cB P a,cB P b with|some c,some a,some b=>some (.pick c a b)|_,_,_=>none
 |.alloc t=>match zeroOf P t,P.info? t with|some z,some i=>some (.oz t i.size i.bytes z)|_,_=>none
 |.box t x=>match gK P t,P.info? t,cB P x with|some n,some i,some y=>some (.box t n i.bytes y)|_,_,_=>none
 |.build t parts=>L' P t parts.toList
 |.buildSlice t A parts=>Lx P t A parts.toList
 |.load t a=>match gK P t,cB P a with|some n,some y=>some (.load n (o0 P t) y)|_,_=>none
 |.store t a x=>match gK P t,cB P a,cB P x with|some n,some y,some z=>some (.store n y z)|_,_,_=>none
 |.nilCheck x=>match cB P x with|some y=>some (.ql y)|none=>none
 |.binOp op t x y _=>match cB P x,cB P y with|some a,some b=>Y1 P op t x y a b|_,_=>none
 |.unOp op _ x=>match cB P x with|some y=>some (.un op y)|none=>none
 |.convert src dst x=>match cB P x with|some y=>WN P src dst y|none=>none
 |.makeInterface t x=>match P.underlying t,cB P x with
  |some (.interface _),_=>none
  |some _,some y=>some (.wb t y)
  |_,_=>none
 |.makeFunc (.func f) first dM=>match jN P first.toList,jN P dM.toList with|some fs,some l=>some (.wa f fs l)|_,_=>none
 |.makeSlice t A F=>match cB P A,cB P F with|some a,some b=>M3 P t a b|_,_=>none
 |.slice t x lo hi none=>match P.underlying t,cB P x,nB P lo,nB P hi with
  |some .string,some x,some lo,some hi=>some (.Ed x lo hi)
  |some (.slice e),some x,some lo,some hi=>match gK P e with|some n=>some (.rX n x lo hi)|none=>none
  |some _,some x,some lo,some hi=>slArrOf P t x lo hi
  |_,_,_,_=>none
 |.slice t x lo (some hi) (some mx)=>match P.underlying t,cB P x,nB P lo,cB P hi,cB P mx with
  |some (.slice e),some x,some lo,some hi,some mx=>match gK P e with|some n=>some (.Gw n x lo hi mx)|none=>none
  |_,_,_,_,_=>none
 |.fieldAddr s x f=>match P.underlying s,cB P x with
  |some (.struct fs),some y=>match fs[f]?with
   |some p=>match gK P p.type with|some _=>some (.dt y p.offset)|none=>none
   |none=>none
  |_,_=>none
 |.field s x f=>match P.underlying s,cB P x with
  |some (.struct fs),some y=>match fs[f]?with
   |some p=>match gK P p.type with|some n=>some (.sub y p.offset n (o0 P p.type))|none=>none
   |none=>none
  |_,_=>none
 |.indexAddr t x i=>match P.underlying t,cB P x,cB P i with
  |some (.array k e),some x,some i=>match gK P e with|some n=>if 1<k then some (.xF k n x i) else none|none=>none
  |some (.slice e),some x,some i=>match gK P e with|some n=>some (.fP n x i)|none=>none
  |_,_,_=>none
 |.index t x i=>match P.underlying t,cB P x,cB P i with
  |some (.array k e),some x,some i=>match gK P e with|some n=>some (.AO k n (o0 P e) x i)|none=>none
  |some .string,some x,some i=>some (.AP x i)
  |_,_,_=>none
 |.extract x i=>match cB P x with|some y=>some (.tD y i)|none=>none
 |.call c=>M4 P c
 |o=>otherOf P o
def l9:bF→Bool
 |.oz ..|.box ..|.load ..|.store ..|.tE ..|.rf ..|.app ..|.va ..|.copy ..|.AQ ..|.vc ..|.call ..|.rA ..|.vt ..|.wc ..=>false
 |_=>true
structure Hm where
 bW:Nat
 off:Nat
 room:Nat
 ro:Bool
 ct:Bool:=false
abbrev Ho:=Nat→Nat→Option Hm
def FO(h:Hm)(a:Addr)(l cap o es:Nat):Prop:=
 (a=⟨h.bW,h.off+o,none⟩∧o+cap*es≤h.room)∨(l=0∧cap=0∧0<o)
mutual
def VR(ρ:Ho):aw→Value→Prop
 |.bool b,v=>v= .bool b
 |.int k n,v=>v= .int k n
 |.str l s,v=>∃b:ByteArray,v= .string b∧l=b.size∧s=pack b.data.toList
 |.ptr f g o,v=>∃h,ρ f g=some h∧v= .pointer (some ⟨h.bW,h.off+o,none⟩)
 |.kN,v=>v= .pointer none
 |.slice f g o l es,v=>∃h a cap,ρ f g=some h∧v= .slice (some a) l cap∧(l≤cap∧g*es≤o+cap*es)∧FO h a l cap o es
 |.gh,v=>v= .slice none 0 0
 |.agg cs,v=>∃vs,v= .agg vs∧cm ρ cs vs.toList∧cs.all fb=true
 |.tuple cs,v=>∃vs,v= .tuple vs∧cm ρ cs vs.toList
 |.func f first dM,v=>∃fs vs,v= .func (.func f) fs vs∧cm ρ first fs.toList∧cm ρ dM vs.toList
 |.nw,v=>v= .nilFunc
 |.iface t a,v=>∃x,v= .iface t x∧VR ρ a x
 |.i7,v=>v= .nilIface
 |.map _,v=>∃a:Addr,v= .pointer (some a)
 |.u9,v=>v= .map none
 |.undef,v=>v=undef
def cm(ρ:Ho):List aw→List Value→Prop
 |[],vs=>vs=[]
 |a::r,vs=>∃v t,vs=v::t∧VR ρ a v∧cm ρ r t
end
def Ho.le(ρ ρ':Ho):Prop:=∀f g h,ρ f g=some h→ρ' f g=some h
theorem Ho.le_refl(ρ:Ho):ρ.le ρ:=fun _ _ _ h=>h
theorem Ho.le_trans{a b c:Ho}(h:a.le b)(k:b.le c):a.le c:=fun f g x p=>k f g x (h f g x p)
mutual
theorem VR.mono{ρ ρ':Ho}(p:ρ.le ρ'):∀{a:aw}{v:Value},VR ρ a v→VR ρ' a v
 |.bool _,_,h=>by simpa[VR] using h
 |.int _ _,_,h=>by simpa[VR] using h
 |.str _ _,_,h=>by simpa[VR] using h
 |.ptr _ _ _,_,h=>by
  simp only[VR] at h⊢
  obtain⟨x,A,e⟩:=h
  exact⟨x,p _ _ _ A,e⟩
 |.kN,_,h=>by simpa[VR] using h
 |.slice _ _ _ _ _,_,h=>by
  simp only[VR] at h⊢
  obtain⟨x,a,c,A,e⟩:=h
  exact⟨x,a,c,p _ _ _ A,e⟩
 |.gh,_,h=>by simpa[VR] using h
 |.agg cs,_,h=>by
  simp only[VR] at h⊢
  obtain⟨vs,e,z,ho⟩:=h
  exact⟨vs,e,cm.mono p z,ho⟩
 |.tuple cs,_,h=>by
  simp only[VR] at h⊢
  obtain⟨vs,e,z⟩:=h
  exact⟨vs,e,cm.mono p z⟩
 |.func _ _ cs,_,h=>by
  simp only[VR] at h⊢
  obtain⟨fs,vs,e,F,z⟩:=h
  exact⟨fs,vs,e,cm.mono p F,cm.mono p z⟩
 |.nw,_,h=>by simpa[VR] using h
 |.iface _ a,_,h=>by
  simp only[VR] at h⊢
  obtain⟨x,e,z⟩:=h
  exact⟨x,e,VR.mono p z⟩
 |.i7,_,h=>by simpa[VR] using h
 |.map _,_,h=>by simp only[VR] at h⊢;exact h
 |.u9,_,h=>by simpa[VR] using h
 |.undef,_,h=>by simpa[VR] using h
theorem cm.mono{ρ ρ':Ho}(p:ρ.le ρ'):∀{a:List aw}{v:List Value},cm ρ a v→cm ρ' a v
 |[],_,h=>by simpa[cm] using h
 |a::r,_,h=>by
  simp only[cm] at h⊢
  obtain⟨v,t,e,z,h2⟩:=h
  exact⟨v,t,e,VR.mono p z,cm.mono p h2⟩
end
theorem cm.length{ρ:Ho}:∀{a:List aw}{v:List Value},cm ρ a v→v.length=a.length
 |[],_,h=>by simp only[cm] at h;subst h;rfl
 |a::r,_,h=>by
  simp only[cm] at h
  obtain⟨v,t,rfl,_,h2⟩:=h
  simp[cm.length h2]
theorem cm.get{ρ:Ho}:∀{a:List aw}{v:List Value},cm ρ a v→∀(i:Nat)(x:aw),a[i]?=some x→∃y,v[i]?=some y∧VR ρ x y
 |[],_,_,i,x,p=>by simp at p
 |a::r,_,h,i,x,p=>by
  simp only[cm] at h
  obtain⟨v,t,rfl,z,h2⟩:=h
  cases i with
  |zero=>simp at p;subst p;exact⟨v,rfl,z⟩
  |succ i=>simp at p;obtain⟨y,A,k⟩:=cm.get h2 i x p;exact⟨y,by simpa using A,k⟩
theorem cm.qb{ρ:Ho}:∀{a:List aw}{v:List Value},v.length=a.length→(∀(i:Nat)(x:aw),a[i]?=some x→∃y,v[i]?=some y∧VR ρ x y)→cm ρ a v
 |[],v,p,_=>by simp only[cm];exact tm (by simpa using p)
 |a::r,[],p,_=>by simp at p
 |a::r,v::t,p,h=>by
  simp only[cm]
  refine⟨v,t,rfl,?_,cm.qb (by simpa using p) fun i x A=>?_⟩
  ·obtain⟨y,z,k⟩:=h 0 a rfl;simp at z;subst z;exact k
  obtain⟨y,z,k⟩:=h (i+1) x (by simpa using A);exact⟨y,by simpa using z,k⟩
theorem cm.append{ρ:Ho}{a b:List aw}{v u:List Value}(h:cm ρ a v)(k:cm ρ b u):cm ρ (a++b) (v++u):=by
 induction a generalizing v with
 |nil=>simp only[cm] at h;subst h;exact k
 |cons x r p=>
  simp only[cm] at h
  obtain⟨y,t,rfl,z,h2⟩:=h
  simp only[yF,cm]
  exact⟨y,t++u,rfl,z,p h2⟩
theorem cm.take{ρ:Ho}{a:List aw}{v:List Value}(h:cm ρ a v)(n:Nat):cm ρ (a.take n) (v.take n):=by
 refine cm.qb (by simp[h.length]) fun i x p=>?_
 rw[yG] at p
 split at p
 ·obtain⟨y,z,k⟩:=h.get i x p
  exact⟨y,by rw[yG,bE (by assumption)];exact z,k⟩
 cases p
theorem cm.drop{ρ:Ho}{a:List aw}{v:List Value}(h:cm ρ a v)(n:Nat):cm ρ (a.drop n) (v.drop n):=by
 refine cm.qb (by simp[h.length]) fun i x p=>?_
 rw[Fm] at p
 obtain⟨y,z,k⟩:=h.get _ x p
 exact⟨y,by rw[Fm];exact z,k⟩
theorem VR.cells{ρ:Ho}{a:aw}{v:Value}{l:List aw}(h:VR ρ a v)(p:iB a=some l):cm ρ l v.cells.toList∧l.all fb=true:=by
 have one:∀{x:aw}{y:Value},VR ρ x y→y.cells=#[y]→fb x=true→l=[x]→cm ρ l y.cells.toList∧l.all fb=true:=by
  intro x y z A F G
  subst G
  rw[A]
  exact⟨⟨y,[],rfl,z,rfl⟩,by simp[F]⟩
 cases a<;>simp only[iB,eW,reduceCtorEq] at p
 case agg cs=>
  simp only[VR] at h
  obtain⟨vs,rfl,I,ho⟩:=h
  subst p
  exact⟨I,ho⟩
 case bool b=>exact one h (by simp only[VR] at h;subst h;rfl) rfl p.symm
 case int k n=>exact one h (by simp only[VR] at h;subst h;rfl) rfl p.symm
 case str k n=>exact one h (by simp only[VR] at h;obtain⟨b,rfl,_⟩:=h;rfl) rfl p.symm
 case ptr f g o=>exact one h (by simp only[VR] at h;obtain⟨b,_,rfl⟩:=h;rfl) rfl p.symm
 case kN=>exact one h (by simp only[VR] at h;subst h;rfl) rfl p.symm
 case slice f g o l es=>exact one h (by simp only[VR] at h;obtain⟨_,_,_,_,rfl,_⟩:=h;rfl) rfl p.symm
 case gh=>exact one h (by simp only[VR] at h;subst h;rfl) rfl p.symm
 case func f fs c=>exact one h (by simp only[VR] at h;obtain⟨_,_,rfl,_⟩:=h;rfl) rfl p.symm
 case nw=>exact one h (by simp only[VR] at h;subst h;rfl) rfl p.symm
 case iface t x=>exact one h (by simp only[VR] at h;obtain⟨_,rfl,_⟩:=h;rfl) rfl p.symm
 case i7=>exact one h (by simp only[VR] at h;subst h;rfl) rfl p.symm
 case map f=>exact one h (by simp only[VR] at h;obtain⟨a,rfl⟩:=h;rfl) rfl p.symm
 case u9=>exact one h (by simp only[VR] at h;subst h;rfl) rfl p.symm
theorem VR.noAgg{ρ:Ho}{a:aw}{v:Value}(h:VR ρ a v)(p:fb a=true):(∀cs,v≠.agg cs)∧(∀cs,v≠.tuple cs):=by
 cases a<;>simp only[VR,fb,ju] at h p
 all_goals first
  |(subst h;exact⟨fun _=>by simp,fun _=>by simp⟩)
  |(obtain⟨_,rfl⟩:=h;exact⟨fun _=>by simp,fun _=>by simp⟩)
  |(obtain⟨_,rfl,_⟩:=h;exact⟨fun _=>by simp,fun _=>by simp⟩)
  |(obtain⟨_,_,rfl⟩:=h;exact⟨fun _=>by simp,fun _=>by simp⟩)
  |(obtain⟨_,_,rfl,_⟩:=h;exact⟨fun _=>by simp,fun _=>by simp⟩)
  |(obtain⟨_,_,_,_,rfl,_⟩:=h;exact⟨fun _=>by simp,fun _=>by simp⟩)
structure Jj(ρ:Ho)(w:World)(h:Hm)(g elem es n fl:Nat)(cs:RT):Prop where
 row:∃c fz,w.heap[h.bW]?=some (.cells c elem fz)∧h.off+h.room≤c.size
 fits:g*es≤h.room
 cell:∀i,i<g→∃l,cs.get i=some l∧l.length=es∧∀j x,l[j]?=some x→fb x=true∧∃cv,w.cell? ⟨h.bW,h.off+i*es+j,none⟩=some cv∧VR ρ x cv
 Eu:fl=0→∀i,i<h.room→w.frozen? ⟨h.bW,h.off+i,none⟩=false
 Bj:fl≠1→∀i,n*es≤i→i<h.room→w.frozen? ⟨h.bW,h.off+i,none⟩=false
 tG:fl=0∨fl=2→h.off=0
 CA:fl=0∨fl=2→∀c e fz,w.heap[h.bW]?=some (.cells c e fz)→fz.1=fz.2∨fz.2≤n*es
def Ew(ρ:Ho)(w:World)(h:Hm)(g:Nat):cZ→Prop
 |.row elem es _ n lo fl cs=>0<es∧(h.ro=true→fl=1)∧g≤n∧(lo≤g→g≤n→Jj ρ w h g elem es n fl cs)
 |.map _=>False
def CB(ρ:Ho)(w:World)(f:Nat)(h:Hm):Prop:=(∀g' h',ρ f g'=some h'→h'.ro=true)∧∃p z,w.cell? ⟨h.bW,h.off,none⟩=some (.iface p z)
structure R(ρ:Ho)(C:Nat→Option cZ)(w:World):Prop where
 obj:∀f o,C f=some o→∀g h,ρ f g=some h→Ew ρ w h g o
 nL:∀f g h f' g' h',ρ f g=some h→ρ f' g'=some h'→f≠f'→h.bW=h'.bW→h.ro=true∧h'.ro=true
 iH:∀f g h,ρ f g=some h→h.bW<w.heap.size
 uniq:∀f g h g' h',ρ f g=some h→ρ f g'=some h'→h.bW=h'.bW→h.off=h'.off
 ct:∀f g h,ρ f g=some h→h.ro=true→h.ct=true→CB ρ w f h
structure Ext(W:Nat→Prop)(n0 n1:Nat)(ρ ρ':Ho)(w w':World):Prop where
 le:ρ.le ρ'
 gN:∀f g h,ρ' f g=some h→(∃g0 h0,ρ f g0=some h0)∨(n0≤f∧f<n1)
 bW:∀f g h,ρ' f g=some h→ρ f g=some h∨(w.heap.size≤h.bW∧h.ro=false)∨(∃g0 h0,ρ f g0=some h0∧h0.bW=h.bW∧h0.ro=h.ro)
 frame:∀b,b<w.heap.size→(∀f g h,ρ f g=some h→h.ro=false→W f→h.bW≠b)→w'.heap[b]?=w.heap[b]?
 size:w.heap.size≤w'.heap.size
 nn:n0≤n1
 os:w'.os=w.os
 tape:w'.tape=w.tape
 output:w'.output=w.output
theorem Ext.refl(W:Nat→Prop)(n:Nat)(ρ:Ho)(w:World):Ext W n n ρ ρ w w:=
 ⟨Ho.le_refl _,fun f g h e=>.inl ⟨g,h,e⟩,fun _ _ _ e=>.inl e,fun _ _ _=>rfl,bM _,bM _,rfl,rfl,rfl⟩
theorem Ext.mono{W p:Nat→Prop}{n0 n1:Nat}{ρ ρ':Ho}{w w':World}(h:Ext W n0 n1 ρ ρ' w w')(z:∀f,W f→p f):Ext p n0 n1 ρ ρ' w w':=
 ⟨h.le,h.gN,h.bW,fun b A k=>h.frame b A fun f g x F G I=>k f g x F G (z f I),h.size,h.nn,h.os,h.tape,h.output⟩
theorem Ext.trans{W:Nat→Prop}{n0 n1 K:Nat}{ρ p z:Ho}{w L M:World}(h:Ext W n0 n1 ρ p w L)(k:Ext W n1 K p z L M):Ext W n0 K ρ z w M:=by
 refine⟨Ho.le_trans h.le k.le,?_,?_,?_,fY h.size k.size,fY h.nn k.nn,k.os.trans h.os,k.tape.trans h.tape,k.output.trans h.output⟩
 ·intro f g x A
  have O:=h.nn
  have h2:=k.nn
  rcases k.gN f g x A with⟨g0,h0,e⟩|⟨a,b⟩
  ·rcases h.gN f g0 h0 e with e|⟨a,b⟩
   ·exact .inl e
   exact .inr ⟨a,ax⟩
  exact .inr ⟨ax,b⟩
 ·intro f g x A
  rcases k.bW f g x A with e|⟨a,b⟩|⟨g0,h0,e,F,G⟩
  ·exact h.bW f g x e
  ·exact .inr (.inl ⟨fY h.size a,b⟩)
  rcases h.bW f g0 h0 e with I|⟨a,b⟩|⟨g1,O,I,e3,e4⟩
  ·exact .inr (.inr ⟨g0,h0,I,F,G⟩)
  ·exact .inr (.inl ⟨F▸a,G▸b⟩)
  exact .inr (.inr ⟨g1,O,I,e3.trans F,e4.trans G⟩)
 intro b U J
 rw[k.frame b (lH U h.size) ?_,h.frame b U J]
 intro f g x A Y Z
 rcases h.bW f g x A with e|⟨a,_⟩|⟨g0,h0,e,F,G⟩
 ·exact J f g x e Y Z
 ·intro hh;omega
 exact F▸J f g0 h0 e (G.trans Y) Z
theorem cell_of_heap{w w':World}{a:Addr}(h:w'.heap[a.block]?=w.heap[a.block]?):w'.cell? a=w.cell? a:=by simp only[World.cell?,h]
theorem CB.gl{ρ:Ho}{w w':World}{f:Nat}{h:Hm}(k:CB ρ w f h)(p:w'.cell? ⟨h.bW,h.off,none⟩=w.cell? ⟨h.bW,h.off,none⟩):CB ρ w' f h:=⟨k.1,by obtain⟨z,A,e⟩:=k.2;exact⟨z,A,p.trans e⟩⟩
theorem frozen_of_heap{w w':World}{a:Addr}(h:w'.heap[a.block]?=w.heap[a.block]?):w'.frozen? a=w.frozen? a:=by simp only[World.frozen?,h]
theorem Jj.gl{ρ ρ':Ho}{w w':World}{h:Hm}{g elem es n fl:Nat}{cs:RT}(k:Jj ρ w h g elem es n fl cs)(A:ρ.le ρ')(p:w'.heap[h.bW]?=w.heap[h.bW]?):
  Jj ρ' w' h g elem es n fl cs:=by
 refine⟨by rw[p];exact k.row,k.fits,fun i hi=>?_,fun h0 i hi=>?_,fun h0 i hi F=>?_,k.tG,fun e c t fz z=>k.CA e c t fz (by rw[←p];exact z)⟩
 ·obtain⟨l,e,G,I⟩:=k.cell i hi
  refine⟨l,e,G,fun j x J=>?_⟩
  obtain⟨o,cv,z,K⟩:=I j x J
  exact⟨o,cv,by rw[cell_of_heap (w:=w) p];exact z,K.mono A⟩
 ·rw[frozen_of_heap (w:=w) p];exact k.Eu h0 i hi
 rw[frozen_of_heap (w:=w) p];exact k.Bj h0 i hi F
theorem Ew.gl{ρ ρ':Ho}{w w':World}{h:Hm}{g:Nat}{o:cZ}(k:Ew ρ w h g o)(p:ρ.le ρ')(z:w'.heap[h.bW]?=w.heap[h.bW]?):Ew ρ' w' h g o:=by
 cases o with
 |row elem es aL n lo fl cs=>exact⟨k.1,k.2.1,k.2.2.1,fun a b=>(k.2.2.2 a b).gl p z⟩
 |map es=>exact k
theorem R.weaken{ρ:Ho}{C p:Nat→Option cZ}{w:World}(h:R ρ C w)(A:∀f o,p f=some o→(∃g x,ρ f g=some x)→C f=some o):R ρ p w:=
 ⟨fun f o e g x z=>h.obj f o (A f o e ⟨g,x,z⟩) g x z,h.nL,h.iH,h.uniq,h.ct⟩
theorem dw{β:Type}(k e:β):aI true k e=k:=rfl
theorem chk_false{β:Type}(k e:β):aI false k e=e:=rfl
theorem ri{β:Type}(b:Bool)(k e:β):aI b k e=if b=true then k else e:=by cases b<;>rfl
section
variable{v:aw}{H':aC}{n:Nat}
theorem dR{b:Bool}{k:aF}(h:aI b k (.err n)= .ok v H'):b=true∧k= .ok v H':=by
 cases b
 ·cases h
 exact⟨rfl,h⟩
theorem gV{α:Type}{o:Option α}{k:α→aF}(h:ob o (.err n) k= .ok v H'):∃x,o=some x∧k x= .ok v H':=by
 cases o with
 |none=>cases h
 |some x=>exact⟨x,rfl,h⟩
theorem dG{x:aM}{E:Env}{k:aw→aF}(h:bD x E (.err n) k= .ok v H'):∃a,x.ev E=some a∧k a= .ok v H':=by
 cases x with
 |t i=>exact gV h
 |c a=>exact⟨a,rfl,h⟩
theorem onBool_ok{a:aw}{k:Bool→aF}(h:sV a (.err n) k= .ok v H'):∃b,a= .bool b∧k b= .ok v H':=by
 cases a<;>first|cases h;done|exact⟨_,rfl,h⟩
theorem sL{a:aw}{k:IntKind→Int→aF}(h:ew a (.err n) k= .ok v H'):∃b i,a= .int b i∧k b i= .ok v H':=by
 cases a<;>first|cases h;done|exact⟨_,_,rfl,h⟩
theorem Az{a:aw}{k:Nat→Nat→aF}(h:iM a (.err n) k= .ok v H'):∃l s,a= .str l s∧k l s= .ok v H':=by
 cases a<;>first|cases h;done|exact⟨_,_,rfl,h⟩
theorem xm{a:aw}{k:Nat→Nat→Nat→aF}(h:gA a (.err n) k= .ok v H'):∃f g o,a= .ptr f g o∧k f g o= .ok v H':=by
 cases a<;>first|cases h;done|exact⟨_,_,_,rfl,h⟩
theorem uM{a:aw}{e:aF}{k:Nat→Nat→Nat→Nat→Nat→aF}(h:eG a (.err n) e k= .ok v H'):
  (a= .gh∧e= .ok v H')∨∃f g o l es,a= .slice f g o l es∧k f g o l es= .ok v H':=by
 cases a<;>first|cases h;done|exact .inr ⟨_,_,_,_,_,rfl,h⟩|exact .inl ⟨rfl,h⟩
theorem UG{a:aw}{k:List aw→aF}(h:mc a (.err n) k= .ok v H'):∃l,a= .agg l∧k l= .ok v H':=by
 cases a<;>first|cases h;done|exact⟨_,rfl,h⟩
theorem onTuple_ok{a:aw}{k:List aw→aF}(h:sQ a (.err n) k= .ok v H'):∃l,a= .tuple l∧k l= .ok v H':=by
 cases a<;>first|cases h;done|exact⟨_,rfl,h⟩
theorem onFunc_ok{a:aw}{k:Nat→List aw→List aw→aF}(h:vd a (.err n) k= .ok v H'):∃f fs l,a= .func f fs l∧k f fs l= .ok v H':=by
 cases a<;>first|cases h;done|exact⟨_,_,_,rfl,h⟩
theorem xn{i:Int}{k:Nat→aF}(h:fQ i (.err n) k= .ok v H'):∃m:Nat,i=(m:Int)∧k m= .ok v H':=by
 cases i with
 |ofNat m=>exact⟨m,rfl,h⟩
 |negSucc m=>cases h
theorem ny(l:List aw):gb l=l.length:=by
 induction l with
 |nil=>rfl
 |cons a r p=>show Nat.succ (gb r)=_;rw[p];rfl
theorem Ip{a:aw}{m:Nat}{k:Nat→aF}(h:idx a m (.err n) k= .ok v H'):∃p i,a= .int p (i:Nat)∧i<m∧k i= .ok v H':=by
 obtain⟨p,i,rfl,h⟩:=sL h
 obtain⟨j,rfl,h⟩:=xn h
 obtain⟨z,h⟩:=dR h
 exact⟨p,j,rfl,aX z,h⟩
theorem WO{E:Env}{x:Option aM}{d y:Nat}{k:Nat→aF}(h:dK E x d y (.err n) k= .ok v H'):
  (x=none∧k d= .ok v H')∨∃z p i,x=some z∧z.ev E=some (.int p (i:Nat))∧i≤y∧k i= .ok v H':=by
 cases x with
 |none=>exact .inl ⟨rfl,h⟩
 |some z=>
  obtain⟨a,A,h⟩:=gV h
  obtain⟨p,i,rfl,h⟩:=sL h
  obtain⟨j,rfl,h⟩:=xn h
  obtain⟨F,h⟩:=dR h
  exact .inr ⟨z,p,j,rfl,A,aX F,h⟩
theorem UH{o:Option cZ}{k:Nat→Nat→Nat→Nat→Nat→Nat→RT→aF}(h:iN o (.err n) k= .ok v H'):
  ∃elem es aL m lo fl cs,o=some (.row elem es aL m lo fl cs)∧k elem es aL m lo fl cs= .ok v H':=by
 cases o with
 |none=>cases h
 |some o=>cases o with
  |row=>exact⟨_,_,_,_,_,_,_,rfl,h⟩
  |map=>cases h
theorem Ma{agg:Bool}{l:List aw}{k:aw→aF}(h:fD agg l (.err n) k= .ok v H'):
  (agg=true∧k (.agg l)= .ok v H')∨∃x,agg=false∧l=[x]∧k x= .ok v H':=by
 cases agg with
 |true=>exact .inl ⟨rfl,h⟩
 |false=>
  cases l with
  |nil=>cases h
  |cons x r=>cases r with
   |nil=>exact .inr ⟨x,rfl,rfl,h⟩
   |cons y s=>cases h
theorem AA{H:aC}{o:cZ}{k:Nat→aC→aF}(h:H.alloc o k= .ok v H'):k H.next ⟨H.next+1,H.bb,H.ws,H.t.set H.next o⟩= .ok v H':=by
 cases H with
 |mk next bb ws t=>
  have h':cA next (fun f=>t.eX f o fun t=>k f ⟨Nat.succ f,bb,ws,t⟩)= .ok v H':=h
  rw[eP,GT.i9] at h'
  exact h'
end
theorem Iq(m n:Nat):so m n=(m:Int) -(n:Int):=by
 unfold so
 cases h:Nat.ble n m
 ·have:¬n≤m:=fun e=>by rw[gD e] at h;cases h
  show Int.negSucc (n-m-1)=_
  rw[ky];omega
 have:n≤m:=aX h
 show Int.ofNat (m-n)=_
 rw[hT];omega
theorem addI_eq(x y:Int):aaz x y=x+y:=by
 cases x with
 |ofNat m=>cases y with
  |ofNat n=>rfl
  |negSucc n=>show so m (n+1)=_;rw[Iq,ky,hT];omega
 |negSucc m=>cases y with
  |ofNat n=>show so n (m+1)=_;rw[Iq,ky,hT];omega
  |negSucc n=>show Int.negSucc (m+n+1)=_;rw[ky,ky,ky];omega
theorem subI_eq(x y:Int):aaA x y=x-y:=by
 cases x with
 |ofNat m=>cases y with
  |ofNat n=>show so m n=_;rw[Iq];rfl
  |negSucc n=>show Int.ofNat (m+(n+1))=_;rw[ky,hT,hT];omega
 |negSucc m=>cases y with
  |ofNat n=>show Int.negSucc (m+n)=_;rw[ky,ky,hT];omega
  |negSucc n=>show so n m=_;rw[Iq,ky,ky];omega
theorem Ir(x y:Int):Gy x y=fM x y:=by cases x<;>cases y<;>rfl
theorem WQ(x y:Int):RV x y=lA x y:=by cases x<;>cases y<;>rfl
theorem w64_eq(n:Int):w64 n=IntKind.wrap .i64 n:=by
 cases n with
 |ofNat m=>
  show Bool.rec (motive:=fun _=>Int) (IntKind.wrap .i64 (.ofNat m)) (.ofNat m) (Nat.ble m 9223372036854775807)=_
  cases h:Nat.ble m 9223372036854775807
  ·rfl
  have:=aX h
  exact(IntWalk.i64_in (Int.ofNat m) (by simp only[hT];omega)).symm
 |negSucc m=>
  show Bool.rec (motive:=fun _=>Int) (IntKind.wrap .i64 (.negSucc m)) (.negSucc m) (Nat.ble m 9223372036854775807)=_
  cases h:Nat.ble m 9223372036854775807
  ·rfl
  have:=aX h
  exact(IntWalk.i64_in (Int.negSucc m) (by rw[ky];omega)).symm
theorem Jk(mx:Nat)(k:IntKind)(p:∀n:Int,0≤n∧n≤mx→k.wrap n=n)(n:Int):wU mx k n=IntKind.wrap k n:=by
 cases n with
 |ofNat m=>
  show Bool.rec (motive:=fun _=>Int) (IntKind.wrap k (.ofNat m)) (.ofNat m) (Nat.ble m mx)=_
  cases h:Nat.ble m mx
  ·rfl
  have:=aX h
  exact(p (Int.ofNat m) (by simp only[hT];omega)).symm
 |negSucc m=>rfl
theorem wrapQ_eq(k:IntKind)(n:Int):O6 k n=k.wrap n:=by
 cases k with
 |i8=>rfl
 |i16=>rfl
 |i32=>rfl
 |i64=>exact w64_eq n
 |u8=>exact Jk _ _ IntWalk.u8_in n
 |u16=>exact Jk _ _ IntWalk.u16_in n
 |u32=>exact Jk _ _ IntWalk.u32_in n
 |u64=>exact Jk _ _ IntWalk.u64_in n
theorem n9(k:IntKind)(n:Int):mJ k n=k.wrap n:=by
 unfold mJ
 split
 ·rename_i m
  split
  ·rename_i h
   have h:=aX h
   exact(IntWalk.i64_in (Int.ofNat m) (by simp only[hT];omega)).symm
  rfl
 ·rename_i m
  split
  ·rename_i h
   have h:=aX h
   exact(IntWalk.i64_in (Int.negSucc m) (by rw[ky];omega)).symm
  rfl
 rfl
theorem T1{f:Int→Int→Int}{op:BinOp}(h:∀k a A b,gJ op k a A b=aI (Nat.beq (cI k) (cI A)) (some (.int k (mJ k (f a b)))) none)(a b:aw)(k:aw→aF):M1 f op a b k=mK op a b k:=by
 cases a<;>try rfl
 cases b<;>try rfl
 rename_i p x z y
 show aI (Nat.beq (cI p) (cI z)) (jM (O6 p (f x y)) fun r=>k (.int p r)) (.err 6)=ob (gJ op p x z y) (.err 6) fun v=>l8 v k
 rw[h,sI,wrapQ_eq,←n9]
 cases Nat.beq (cI p) (cI z)
 ·rfl
 exact(uO (.int p (mJ p (f x y))) k).symm
theorem AI{f:Int→Int→Bool}{op:BinOp}(h:∀k a A b,gJ op k a A b=aI (Nat.beq (cI k) (cI A)) (some (.bool (f a b))) none)(a b:aw)(k:aw→aF):ze f op a b k=mK op a b k:=by
 cases a<;>try rfl
 cases b<;>try rfl
 rename_i z x p y
 show aI (Nat.beq (cI z) (cI p)) (nx (f x y) fun r=>k (.bool r)) (.err 6)=ob (gJ op z x p y) (.err 6) fun v=>l8 v k
 rw[h]
 cases Nat.beq (cI z) (cI p)
 ·rfl
 refine Eq.trans ?_ (uO (.bool (f x y)) k).symm
 show nx (f x y) (fun r=>k (.bool r))=_
 cases f x y<;>rfl
theorem HR(op:BinOp)(a b:aw)(k:aw→aF):B8 op a b k=ob (zc op a b) (.err 6) fun v=>l8 v k:=by
 cases op with
 |add=>exact T1 (fun k a p b=>by rw[addI_eq];rfl) a b k
 |sub=>exact T1 (fun k a p b=>by rw[subI_eq];rfl) a b k
 |eql=>exact AI (fun k a p b=>by rw[WQ];rfl) a b k
 |neq=>exact AI (fun k a p b=>by unfold neI;rw[WQ];rfl) a b k
 |lss=>exact AI (fun k a p b=>by rw[Ir];rfl) a b k
 |leq=>exact AI (fun k a p b=>by unfold leI;rw[Ir];rfl) a b k
 |gtr=>exact AI (fun k a p b=>by unfold gtI;rw[Ir];rfl) a b k
 |geq=>exact AI (fun k a p b=>by unfold geI;rw[Ir];rfl) a b k
 |mul=>rfl
 |quo=>rfl
 |rem=>rfl
 |and=>rfl
 |or=>rfl
 |xor=>rfl
 |shl=>rfl
 |shr=>rfl
 |andNot=>rfl
structure QG(H:aC)(f g off n:Nat)(l:List aw):Prop where
 ex:∃elem es aL m lo fl cs x,H.t.get f=some (.row elem es aL m lo fl cs)∧lo≤g∧g≤m∧off % es+n≤es∧off/es<g∧cs.get (off/es)=some x∧
  ((l=x∧n=es)∨l=(x.drop (off % es)).take n)
theorem Pb{β:Type}{H:aC}{f g off n:Nat}{e:β}{k:List aw→β}{r:β}(h:rd H f g off n e k=r)(p:e≠r):∃l,QG H f g off n l∧k l=r:=by
 unfold rd at h
 cases ho:H.t.get f with
 |none=>rw[ho] at h;exact absurd h p
 |some o=>
  rw[ho] at h
  cases o with
  |map=>exact absurd h p
  |row elem es aL m lo fl cs=>
   simp only[iN,ri] at h
   split at h
   ·rename_i J
    split at h
    ·rename_i h2
     split at h
     ·rename_i K
      split at h
      ·rename_i L
       cases z:cs.get (Nat.div off es) with
       |none=>rw[z] at h;exact absurd h p
       |some x=>
        rw[z] at h
        simp only[ob] at h
        have A:=aX J
        have F:=aX h2
        have G:=aX K
        have I:=aX L
        split at h
        ·rename_i M
         exact⟨x,⟨_,_,_,_,_,_,_,x,ho,A,F,G,I,z,.inl ⟨rfl,cL M⟩⟩,h⟩
        exact⟨_,⟨_,_,_,_,_,_,_,x,ho,A,F,G,I,z,.inr rfl⟩,h⟩
      exact absurd h p
     exact absurd h p
    exact absurd h p
   exact absurd h p
theorem Hy(f:Nat)(l:List Nat):oA f l=true↔f∈l:=by
 induction l with
 |nil=>simp[oA]
 |cons x r p=>
  show aI (Nat.beq f x) true (oA f r)=true↔_
  rw[ri]
  by_cases h:f=x
  ·simp[h]
  have:¬(Nat.beq f x=true):=by simpa[sn] using h
  simp[h,this,p]
theorem uP(f bb:Nat)(ws:List Nat)(x:Nat):x∈wrote f bb ws↔x∈ws∨(x=f∧f<bb):=by
 unfold wrote
 rw[ri,ri]
 by_cases h:bb≤f
 ·rw[bE (gD h)]
  constructor
  ·exact .inl
  rintro(p|⟨_,p⟩)
  ·exact p
  omega
 have A:¬(Nat.ble bb f=true):=by simpa using h
 rw[bw A]
 by_cases z:oA f ws=true
 ·rw[bE z]
  rw[Hy] at z
  constructor
  ·exact .inl
  rintro(p|⟨rfl,_⟩)
  ·exact p
  exact z
 rw[bw z]
 simp only[qv]
 constructor
 ·rintro(rfl|p)
  ·exact .inr ⟨rfl,ax⟩
  exact .inl p
 rintro(p|⟨rfl,_⟩)
 ·exact .inr p
 exact .inl rfl
structure aaC(H:aC)(f g off n:Nat)(new:List aw)(H':aC):Prop where
 ex:∃elem es aL lo cs x,H.t.get f=some (.row elem es aL g lo 0 cs)∧lo≤g∧off % es+n≤es∧off/es<g∧new.length=n∧cs.get (off/es)=some x∧
  H'=⟨H.next,H.bb,wrote f H.bb H.ws,H.t.set f (.row elem es aL g g 0 (cs.set (off/es) (if n=es then new else dH x (off % es) new)))⟩
theorem Ey{H:aC}{f g off n m:Nat}{new:List aw}{k:aC→aF}{v:aw}{H':aC}(h:wr H f g off n new (.err m) k= .ok v H'):∃H1,aaC H f g off n new H1∧k H1= .ok v H':=by
 cases H with
 |mk next bb ws t=>
  have h:=UH h
  obtain⟨elem,es,aL,O,lo,fl,cs,ho,h⟩:=h
  obtain⟨p,h⟩:=dR h
  obtain⟨h2,h⟩:=dR h
  obtain⟨F,h⟩:=dR h
  obtain⟨G,h⟩:=dR h
  obtain⟨I,h⟩:=dR h
  obtain⟨J,h⟩:=dR h
  obtain⟨x,K,z⟩:=gV h
  rw[RT.i9,GT.i9] at z
  have L:=cL p
  have M:=cL h2
  have A:=cL J
  rw[ny] at A
  clear h p h2
  subst L M
  refine⟨_,⟨elem,es,aL,lo,cs,x,ho,aX F,aX G,aX I,A,K,?_⟩,z⟩
  rw[ri]
  simp only[sn]
  rfl
structure ey(H H':aC):Prop where
 next:H.next≤H'.next
 bb:H'.bb=H.bb
 ws:∀f,f∈H.ws→f∈H'.ws
 same:∀f,f<H.bb→f∉H'.ws→H'.t.get f=H.t.get f
 wf:(∀f,H.next≤f→H.t.get f=none)→∀f,H'.next≤f→H'.t.get f=none
 gl:∀f,H.t.get f≠none→H'.t.get f≠none
theorem ey.refl(H:aC):ey H H:=⟨bM _,rfl,fun _ h=>h,fun _ _ _=>rfl,fun h=>h,fun _ h=>h⟩
theorem ey.trans{A B C:aC}(h:ey A B)(k:ey B C):ey A C:=
 ⟨fY h.next k.next,k.bb.trans h.bb,fun f p=>k.ws f (h.ws f p),fun f p z=>(k.same f (h.bb▸p) z).trans (h.same f p fun e=>z (k.ws f e)),fun x=>k.wf (h.wf x),fun f x=>k.gl f (h.gl f x)⟩
theorem ey.alloc{H:aC}(o:cZ)(z:H.bb≤H.next):ey H ⟨H.next+1,H.bb,H.ws,H.t.set H.next o⟩:=
 ⟨yH _,rfl,fun _ h=>h,fun f p _=>by show(H.t.set H.next o).get f=_;rw[GT.c7,bw ax],
  fun h f p=>by
  have p:H.next+1≤f:=p
  show(H.t.set H.next o).get f=none
  rw[GT.c7,bw ax];exact h f ax,
  fun f p=>by
  show(H.t.set H.next o).get f≠none
  rw[GT.c7]
  split
  ·simp
  exact p⟩
theorem ey.write{H:aC}(f:Nat)(o:cZ){z:cZ}(h0:H.t.get f=some z):ey H ⟨H.next,H.bb,wrote f H.bb H.ws,H.t.set f o⟩:=
 ⟨bM _,rfl,fun x p=>(uP _ _ _ _).2 (.inl p),fun x p A=>by
  show(H.t.set f o).get x=_
  rw[GT.c7]
  split
  ·rename_i e;subst e;exact absurd ((uP _ _ _ _).2 (.inr ⟨rfl,p⟩)) A
  ·rfl,fun h x p=>by
  have p:H.next≤x:=p
  show(H.t.set f o).get x=none
  rw[GT.c7]
  split
  ·rename_i e;subst e;rw[h x p] at h0;cases h0
  ·exact h x p,fun x p=>by
  show(H.t.set f o).get x≠none
  rw[GT.c7]
  split
  ·simp
  exact p⟩
def TM(H:aC)(r:aF):Prop:=∀v H',r= .ok v H'→ey H H'
theorem TM.err{H:aC}{n:Nat}:TM H (.err n):=fun _ _ h=>by cases h
theorem TM.ok{H:aC}{v:aw}:TM H (.ok v H):=fun _ _ h=>by cases h;exact ey.refl _
theorem TM.aI{H:aC}{b:Bool}{k e:aF}(h:TM H k)(h':TM H e):TM H (aI b k e):=by cases b;exact h';exact h
theorem TM.ob{H:aC}{α:Type}{o:Option α}{e:aF}{k:α→aF}(h:∀x,TM H (k x))(h':TM H e):TM H (ob o e k):=by cases o;exact h';exact h _
theorem TM.bD{H:aC}{x:aM}{E:Env}{e:aF}{k:aw→aF}(h:∀x,TM H (k x))(h':TM H e):TM H (bD x E e k):=by
 cases x with
 |t i=>exact TM.ob (o:=E.get i) h h'
 |c a=>exact h a
theorem TM.sV{H:aC}{a:aw}{e:aF}{k:Bool→aF}(h:∀x,TM H (k x))(h':TM H e):TM H (sV a e k):=by cases a<;>first|exact h'|exact h _
theorem TM.ew{H:aC}{a:aw}{e:aF}{k:IntKind→Int→aF}(h:∀x y,TM H (k x y))(h':TM H e):TM H (ew a e k):=by cases a<;>first|exact h'|exact h _ _
theorem TM.iM{H:aC}{a:aw}{e:aF}{k:Nat→Nat→aF}(h:∀x y,TM H (k x y))(h':TM H e):TM H (iM a e k):=by cases a<;>first|exact h'|exact h _ _
theorem TM.gA{H:aC}{a:aw}{e:aF}{k:Nat→Nat→Nat→aF}(h:∀x y z,TM H (k x y z))(h':TM H e):TM H (gA a e k):=by cases a<;>first|exact h'|exact h _ _ _
theorem TM.eG{H:aC}{a:aw}{e p:aF}{k:Nat→Nat→Nat→Nat→Nat→aF}(h:∀x y z u w,TM H (k x y z u w))(h2:TM H p)(h':TM H e):TM H (eG a e p k):=by cases a<;>first|exact h'|exact h2|exact h _ _ _ _ _
theorem TM.mc{H:aC}{a:aw}{e:aF}{k:List aw→aF}(h:∀x,TM H (k x))(h':TM H e):TM H (mc a e k):=by cases a<;>first|exact h'|exact h _
theorem TM.sQ{H:aC}{a:aw}{e:aF}{k:List aw→aF}(h:∀x,TM H (k x))(h':TM H e):TM H (sQ a e k):=by cases a<;>first|exact h'|exact h _
theorem TM.vd{H:aC}{a:aw}{e:aF}{k:Nat→List aw→List aw→aF}(h:∀x y z,TM H (k x y z))(h':TM H e):TM H (vd a e k):=by cases a<;>first|exact h'|exact h _ _ _
theorem TM.fQ{H:aC}{i:Int}{e:aF}{k:Nat→aF}(h:∀x,TM H (k x))(h':TM H e):TM H (fQ i e k):=by cases i;exact h _;exact h'
theorem TM.idx{H:aC}{a:aw}{n:Nat}{e:aF}{k:Nat→aF}(h:∀x,TM H (k x))(h':TM H e):TM H (idx a n e k):=TM.ew (fun _ _=>TM.fQ (fun _=>TM.aI (h _) h') h') h'
theorem TM.dK{H:aC}{E:Env}{x:Option aM}{d y:Nat}{e:aF}{k:Nat→aF}(h:∀x,TM H (k x))(h':TM H e):TM H (dK E x d y e k):=by
 cases x with
 |none=>exact h _
 |some z=>exact TM.ob (fun _=>TM.ew (fun _ _=>TM.fQ (fun _=>TM.aI (h _) h') h') h') h'
theorem TM.iN{H:aC}{o:Option cZ}{e:aF}{k:Nat→Nat→Nat→Nat→Nat→Nat→RT→aF}(h:∀a b c d e f g,TM H (k a b c d e f g))(h':TM H e):TM H (iN o e k):=by
 cases o with
 |none=>exact h'
 |some o=>cases o with
  |row=>exact h _ _ _ _ _ _ _
  |map=>exact h'
theorem TM.fD{H:aC}{agg:Bool}{l:List aw}{e:aF}{k:aw→aF}(h:∀x,TM H (k x))(h':TM H e):TM H (fD agg l e k):=by
 refine TM.aI (h _) ?_
 cases l with
 |nil=>exact h'
 |cons x r=>cases r with
  |nil=>exact h _
  |cons=>exact h'
theorem TM.cA{H:aC}{n:Nat}{k:Nat→aF}(h:∀x,TM H (k x)):TM H (cA n k):=by rw[eP];exact h _
theorem TM.jM{H:aC}{n:Int}{k:Int→aF}(h:∀x,TM H (k x)):TM H (jM n k):=by rw[sI];exact h _
theorem TM.l8{H:aC}{n:aw}{k:aw→aF}(h:∀x,TM H (k x)):TM H (l8 n k):=by rw[uO];exact h _
theorem TM.nx{H:aC}{n:Bool}{k:Bool→aF}(h:∀x,TM H (k x)):TM H (nx n k):=by cases n<;>exact h _
theorem TM.B8{H:aC}{op:BinOp}{a b:aw}:TM H (B8 op a b fun v=>.ok v H):=by rw[HR];exact TM.ob (fun _=>TM.l8 fun _=>TM.ok) TM.err
theorem TM.zh{H:aC}{t:HT}{n:Nat}{o:cZ}{k:HT→aF}(h:TM H (k (t.set n o))):TM H (t.eX n o k):=by rw[GT.i9];exact h
theorem TM.fill{H:aC}{l:List (List aw)}{t:RT}{i:Nat}{k:RT→aF}(h:TM H (k (ia l t i))):TM H (s8 l t i k):=by rw[xl];exact h
theorem TM.rep{H:aC}{x:List aw}{n:Nat}{k:RT→aF}(h:TM H (k (nE x n))):TM H (zf x n k):=by rw[HL];exact h
theorem TM.alloc{H:aC}{o:cZ}{k:Nat→aC→aF}(A:H.bb≤H.next)(F:∀f p,∃v,k f p= .ok v p):TM H (H.alloc o k):=fun x H' h=>by
 have z:=AA h
 obtain⟨v,G⟩:=F H.next ⟨H.next+1,H.bb,H.ws,H.t.set H.next o⟩
 rw[G] at z;cases z;exact ey.alloc o A
theorem TM.rd{H:aC}{f g off n:Nat}{e:aF}{k:List aw→aF}(h:∀x,TM H (k x))(h':TM H e):TM H (rd H f g off n e k):=
 TM.iN (fun _ _ _ _ _ _ _=>TM.aI (TM.aI (TM.aI (TM.aI (TM.ob (fun _=>TM.aI (h _) (h _)) h') h') h') h') h') h'
theorem TM.iC{H:aC}{elem es aL n:Nat}{new:List (List aw)}{x:aw}(p:H.bb≤H.next):TM H (iC elem es aL n new H x):=by
 cases n with
 |zero=>exact TM.eG (fun _ _ _ _ _=>TM.ok) TM.ok TM.err
 |succ n=>
  refine TM.eG (fun f g off A dv=>?_) (TM.aI (TM.fill (TM.alloc p (fun _ _=>⟨_,rfl⟩))) TM.err) TM.err
  cases H with
  |mk next bb ws t=>
   show TM _ (Ev.iN (t.get f) _ _)
   cases z:t.get f with
   |none=>exact TM.err
   |some ob=>cases ob with
    |map=>exact TM.err
    |row F G I J K a6 L=>
   refine TM.aI (TM.aI (TM.aI (TM.aI (TM.aI (TM.aI (TM.aI TM.err (TM.aI (TM.aI (TM.cA fun _=>TM.fill (TM.zh ?_)) TM.err) TM.err)) TM.err) TM.err) TM.err) TM.err) TM.err) TM.err
   exact fun v H' h=>by cases h;exact ey.write (H:=⟨next,bb,ws,t⟩) f _ z
theorem TM.wr{H:aC}{f g off n:Nat}{new:List aw}{v:aw}:TM H (wr H f g off n new (.err 5) fun H=>.ok v H):=fun x H' h=>by
 obtain⟨H1,⟨_,_,_,_,_,_,p,_,_,_,_,_,e⟩,h⟩:=Ey h
 cases h
 subst e
 exact ey.write f _ p
theorem TM.clr{f g es:Nat}{z:List aw}:∀{n off:Nat}{H:aC},TM H (pr f g es z n off H)
 |0,_,_=>TM.ok
 |n+1,off,H=>fun x H' h=>by
  have h:Go.Ev.wr H f g off es z (aF.err 28) (fun H=>Go.Ev.cA (Nat.add off es) fun off=>pr f g es z n off H)=aF.ok x H':=h
  obtain⟨H1,⟨_,_,_,_,_,_,p,_,_,_,_,_,e⟩,h⟩:=Ey h
  rw[eP] at h
  have h2:=TM.clr (n:=n) x H' h
  subst e
  exact(ey.write f _ p).trans h2
theorem TM.oz{H:aC}{a b c:Nat}{d:List aw}{E:Env}(p:H.bb≤H.next):TM H (yd a b c d E H):=
 TM.alloc (o:=.row a b c 1 1 0 (.one d)) (k:=fun f H=>.ok (.ptr f 1 0) H) p (fun _ _=>⟨_,rfl⟩)
theorem TM.j'{H:aC}{f e:Nat}{v:aw}:TM H (j' f e H fun H=>.ok v H):=by
 cases H with
 |mk next bb ws t=>
  show TM _ (Ev.iN (t.get f) _ _)
  cases p:t.get f with
  |none=>exact TM.err
  |some ob=>cases ob with
   |map=>exact TM.err
   |row z A F G I a6 J=>
   refine TM.aI (TM.aI (TM.aI (TM.zh ?_) TM.err) TM.err) TM.err
   exact fun v H' h=>by cases h;exact ey.write (H:=⟨next,bb,ws,t⟩) f _ p
theorem TM.ins{call:dr}{H:aC}(p:H.bb≤H.next)(z:∀f a,TM H (call f a H))(E:Env)(o:bF):TM H (o.ev call E H):=by
 cases o with
 |cG x=>exact TM.bD (fun _=>TM.ok) TM.err
 |pick c a b=>exact TM.bD (fun _=>TM.sV (fun _=>TM.aI (TM.bD (fun _=>TM.ok) TM.err) (TM.bD (fun _=>TM.ok) TM.err)) TM.err) TM.err
 |oz a b c d=>exact TM.oz (E:=E) p
 |box a b c d=>exact TM.bD (fun _=>TM.ob (fun _=>TM.aI (TM.oz (E:=E) p) TM.err) TM.err) TM.err
 |load a b c=>exact TM.bD (fun _=>TM.gA (fun _ _ _=>TM.rd (fun _=>TM.fD (fun _=>TM.ok) TM.err) TM.err) TM.err) TM.err
 |store a b c=>exact TM.bD (fun _=>TM.gA (fun _ _ _=>TM.bD (fun _=>TM.ob (fun _=>TM.wr) TM.err) TM.err) TM.err) TM.err
 |bin op x y=>exact TM.bD (fun _=>TM.bD (fun _=>TM.B8) TM.err) TM.err
 |eqv c n x y=>exact TM.bD (fun _=>TM.bD (fun _=>TM.ob (fun _=>TM.nx fun _=>TM.ok) TM.err) TM.err) TM.err
 |un op x=>exact TM.bD (fun _=>TM.ob (fun _=>TM.l8 fun _=>TM.ok) TM.err) TM.err
 |dt x k=>exact TM.bD (fun _=>TM.gA (fun _ _ _=>TM.cA fun _=>TM.ok) TM.err) TM.err
 |sub x a b c=>exact TM.bD (fun _=>TM.mc (fun _=>TM.aI (TM.fD (fun _=>TM.ok) TM.err) TM.err) TM.err) TM.err
 |xF a b x i=>exact TM.bD (fun _=>TM.gA (fun _ _ _=>TM.bD (fun _=>TM.idx (fun _=>TM.cA fun _=>TM.ok) TM.err) TM.err) TM.err) TM.err
 |fP a x i=>exact TM.bD (fun _=>TM.eG (fun _ _ _ _ _=>TM.bD (fun _=>TM.idx (fun _=>TM.cA fun _=>TM.ok) TM.err) TM.err) TM.err TM.err) TM.err
 |AO a b c x i=>exact TM.bD (fun _=>TM.mc (fun _=>TM.bD (fun _=>TM.idx (fun _=>TM.aI (TM.fD (fun _=>TM.ok) TM.err) TM.err) TM.err) TM.err) TM.err) TM.err
 |AP x i=>exact TM.bD (fun _=>TM.iM (fun _ _=>TM.bD (fun _=>TM.idx (fun _=>TM.cA fun _=>TM.ok) TM.err) TM.err) TM.err) TM.err
 |Ed x a b=>exact TM.bD (fun _=>TM.iM (fun _ _=>TM.dK (fun _=>TM.dK (fun _=>TM.cA fun _=>TM.cA fun _=>TM.ok) TM.err) TM.err) TM.err) TM.err
 |rX n x a b=>exact TM.bD (fun _=>TM.eG (fun _ _ _ _ _=>TM.aI (TM.dK (fun _=>TM.dK (fun _=>TM.cA fun _=>TM.cA fun _=>TM.ok) TM.err) TM.err) TM.err) (TM.dK (fun _=>TM.dK (fun _=>TM.ok) TM.err) TM.err) TM.err) TM.err
 |Gw n x a b c=>exact TM.bD (fun _=>TM.eG (fun _ _ _ _ _=>TM.aI (TM.dK (fun _=>TM.aI (TM.dK (fun _=>TM.dK (fun _=>TM.cA fun _=>TM.cA fun _=>TM.ok) TM.err) TM.err) TM.err) TM.err) TM.err) TM.err TM.err) TM.err
 |tD x i=>exact TM.bD (fun _=>TM.sQ (fun _=>TM.ob (fun _=>TM.ok) TM.err) TM.err) TM.err
 |ql x=>exact TM.bD (fun _=>TM.aI TM.ok TM.err) TM.err
 |wa f fs l=>exact TM.ob (fun _=>TM.ob (fun _=>TM.ok) TM.err) TM.err
 |wb t x=>exact TM.bD (fun _=>TM.ok) TM.err
 |tE a b c d e f=>exact TM.bD (fun _=>TM.ew (fun _ _=>TM.fQ (fun _=>TM.bD (fun _=>TM.ew (fun _ _=>TM.fQ (fun _=>TM.aI (TM.aI (TM.aI (TM.rep (TM.alloc p (fun _ _=>⟨_,rfl⟩))) TM.err) TM.err) TM.err) TM.err) TM.err) TM.err) TM.err) TM.err) TM.err
 |build a b=>exact TM.ob (fun _=>TM.ok) TM.err
 |rf a b c d e f=>exact TM.ob (fun _=>TM.alloc p (fun _ _=>⟨_,rfl⟩)) TM.err
 |len x=>exact TM.bD (fun _=>TM.eG (fun _ _ _ _ _=>TM.ok) TM.ok TM.err) TM.err
 |FE n=>exact TM.ok
 |rY x=>exact TM.bD (fun _=>TM.iM (fun _ _=>TM.ok) TM.err) TM.err
 |app a b c x y=>exact TM.bD (fun _=>TM.bD (fun _=>TM.eG (fun _ _ _ _ _=>TM.ob (fun _=>TM.iC p) TM.err) (TM.iC p) TM.err) TM.err) TM.err
 |va a x y=>exact TM.bD (fun _=>TM.bD (fun _=>TM.iM (fun _ _=>TM.iC p) TM.err) TM.err) TM.err
 |copy a b c=>exact TM.bD (fun _=>TM.eG (fun _ _ _ _ _=>TM.bD (fun _=>TM.mc (fun _=>TM.aI (TM.aI TM.clr TM.err) TM.err) TM.err) TM.err) TM.ok TM.err) TM.err
 |vb a b c=>exact TM.bD (fun _=>TM.ew (fun _ _=>TM.ob (fun _=>TM.ob (fun _=>TM.ok) TM.err) TM.err) TM.err) TM.err
 |conv k x=>exact TM.bD (fun _=>TM.ew (fun _ _=>TM.jM fun _=>TM.ok) TM.err) TM.err
 |Ik x=>exact TM.bD (fun _=>TM.ok) TM.err
 |AQ e x=>exact TM.bD (fun _=>TM.iM (fun _ _=>TM.aI (TM.fill (TM.alloc p (fun _ _=>⟨_,rfl⟩))) TM.err) TM.err) TM.err
 |vc x=>exact TM.bD (fun _=>TM.eG (fun _ _ _ _ _=>TM.ob (fun _=>TM.ob (fun _=>TM.cA fun _=>TM.ok) TM.err) TM.err) TM.ok TM.err) TM.err
 |call f l=>exact TM.ob (fun _=>z _ _) TM.err
 |rA x l=>exact TM.bD (fun _=>TM.vd (fun _ _ _=>TM.ob (fun _=>z _ _) TM.err) TM.err) TM.err
 |vt t n x=>exact TM.bD (fun _=>TM.aI TM.ok (TM.gA (fun _ _ _=>TM.iN (fun _ _ _ _ _ _ _=>TM.aI (TM.aI (TM.aI (TM.aI (TM.aI (TM.aI (TM.aI TM.ok TM.err) TM.err) TM.err) TM.err) TM.err) TM.err) TM.err) TM.err) TM.err)) TM.err
 |Gx x=>exact TM.bD (fun _=>TM.eG (fun _ _ _ _ _=>TM.aI TM.err TM.ok) TM.ok TM.err) TM.err
 |wc e x n=>exact TM.bD (fun _=>TM.aI (TM.bD (fun _=>TM.ew (fun _ _=>TM.fQ (fun _=>TM.aI (TM.aI TM.ok TM.err) TM.err) TM.err) TM.err) TM.err) (TM.gA (fun _ _ _=>TM.bD (fun _=>TM.ew (fun _ _=>TM.fQ (fun _=>TM.aI (TM.aI (TM.aI (TM.aI (TM.ob (fun _=>TM.ob (fun _=>TM.cA fun _=>TM.j') TM.err) TM.err) TM.err) TM.err) TM.err) TM.err) TM.err) TM.err) TM.err) TM.err)) TM.err
mutual
theorem Hz(ρ:Ho):∀(v:Value)(a:aw),valOf v=some a→VR ρ a v
 |.bool b,a,h=>by simp only[valOf,eW] at h;subst h;simp[VR]
 |.int k n,a,h=>by simp only[valOf,eW] at h;subst h;simp[VR]
 |.float _ _,a,h=>by simp[valOf] at h
 |.complex _ _ _,a,h=>by simp[valOf] at h
 |.string s,a,h=>by simp only[valOf,eW] at h;subst h;simp only[VR];exact⟨s,rfl,rfl,rfl⟩
 |.pointer none,a,h=>by simp only[valOf,eW] at h;subst h;simp[VR]
 |.pointer (some _),a,h=>by simp[valOf] at h
 |.slice none l c,a,h=>by
  unfold valOf at h
  split at h<;>simp_all
  subst h
  simp[VR]
 |.slice (some _) _ _,a,h=>by simp[valOf] at h
 |.map none,a,h=>by simp only[valOf,eW] at h;subst h;simp[VR]
 |.map (some _),a,h=>by simp[valOf] at h
 |.chan _,a,h=>by simp[valOf] at h
 |.func _ _ _,a,h=>by simp[valOf] at h
 |.nilFunc,a,h=>by simp only[valOf,eW] at h;subst h;simp[VR]
 |.iface _ _,a,h=>by simp[valOf] at h
 |.nilIface,a,h=>by simp only[valOf,eW] at h;subst h;simp[VR]
 |.agg ⟨cs⟩,a,h=>by
  unfold valOf at h
  split at h
  ·rename_i l p
   split at h
   ·rename_i z
    cases h
    simp only[VR]
    exact⟨_,rfl,T2 ρ cs l p,z⟩
   cases h
  cases h
 |.tuple _,a,h=>by simp[valOf] at h
theorem T2(ρ:Ho):∀(l:List Value)(as:List aw),DH l=some as→cm ρ as l
 |[],as,h=>by simp only[DH,eW] at h;subst h;rfl
 |v::r,as,h=>by
  unfold DH at h
  split at h
  ·rename_i x l p h2
   cases h
   exact⟨v,r,rfl,Hz ρ v x p,T2 ρ r l h2⟩
  cases h
end
def Cc(P:Program)(g:Nat):Bool:=match P.globals[g]?with|some v=>v.name== "strconv.ErrRange"|none=>false
def vx(P:Program)(ρ:Ho):Prop:=∀g,g<P.globals.size→∃h,ρ g 1=some h∧h.bW=g∧h.off=0∧(Cc P g=true→h.ro=true∧h.ct=true)
def Bk(P:Program)(w:World):Prop:=∀g,g<P.globals.size→g<w.heap.size∧(Cc P g=true→∃p z,w.cell? ⟨g,0,none⟩=some (.iface p z))
structure AR(P:Program)(ρ:Ho)(nt:Nat)(E:Env)(a:Act):Prop where
 size:a.tmps.size=nt
 defers:a.defers=[]
 tmp:∀t v,E.get t=some v→∃cv,a.tmps[t.n]?=some cv∧VR ρ v cv
 sb:vx P ρ
theorem AR.mono{P:Program}{ρ ρ':Ho}{nt:Nat}{E:Env}{a:Act}(h:AR P ρ nt E a)(z:ρ.le ρ'):AR P ρ' nt E a:=
 ⟨h.size,h.defers,fun t v e=>let⟨cv,p,h2⟩:=h.tmp t v e;⟨cv,p,h2.mono z⟩,fun g A=>let⟨x,p,h2⟩:=h.sb g A;⟨x,z _ _ _ p,h2⟩⟩
theorem AR.put{P:Program}{ρ:Ho}{nt:Nat}{E:Env}{a:Act}(h:AR P ρ nt E a){d:Key}(z:d.n<nt){v:aw}{cv:Value}(A:VR ρ v cv):AR P ρ nt (E.set d v) (a.put (some d.n) cv):=by
 refine⟨by simp[Act.put,h.size],by simp[Act.put,h.defers],fun t x e=>?_,h.sb⟩
 rw[T4.c7] at e
 split at e
 ·rename_i p
  subst p
  cases e
  exact⟨cv,by simp[Act.put,h.size,z],A⟩
 rename_i p
 obtain⟨y,F,k⟩:=h.tmp t x e
 exact⟨y,by simp only[Act.put];rw[Array.getElem?_setIfInBounds_ne (fun e=>p (Key.inj e.symm))];exact F,k⟩
section
variable{P:Program}{ρ:Ho}{nt:Nat}{E:Env}{a:Act}
theorem AR.bU(h:AR P ρ nt E a){x:Operand}{y:aM}{v:aw}(ho:cB P x=some y)(p:y.ev E=some v):VR ρ v (a.eval x):=by
 cases x with
 |tmp t=>
  simp only[cB] at ho
  split at ho
  ·rename_i A
   cases ho
   obtain⟨cv,z,h2⟩:=h.tmp (pk t) v p
   rw[yO A] at z
   simp only[Act.eval]
   rw[vW,z]
   exact h2
  cases ho
 |const c=>
  simp only[cB] at ho
  split at ho
  ·rename_i w F
   cases ho
   cases p
   exact Hz ρ _ _ F
  cases ho
 |global g=>
  simp only[cB] at ho
  split at ho
  ·rename_i G
   cases ho
   cases p
   obtain⟨x,I,rfl,h2,_⟩:=h.sb g G
   simp only[VR,Act.eval]
   exact⟨x,I,by simp[h2]⟩
  cases ho
 |func f=>
  simp only[cB,eW] at ho
  subst ho
  cases p
  simp only[VR,Act.eval]
  exact⟨#[],#[],rfl,by simp only[cm],by simp only[cm]⟩
theorem AR.cR(h:AR P ρ nt E a):∀{xs:List Operand}{ys:List aM}{vs:List aw},jN P xs=some ys→im E ys=some vs→cm ρ vs (xs.map a.eval)
 |[],ys,vs,ho,z=>by
  simp only[jN,eW] at ho
  subst ho
  cases z
  rfl
 |x::r,ys,vs,ho,z=>by
  simp only[jN] at ho
  split at ho
  ·rename_i y l F G
   cases ho
   have p:ob (y.ev E) none (fun v=>ob (im E l) none fun vs=>some (v::vs))=some vs:=z
   cases A:y.ev E with
   |none=>rw[A] at p;cases p
   |some v=>
    rw[A] at p
    cases h2:im E l with
    |none=>rw[h2] at p;cases p
    |some I=>
     rw[h2] at p
     cases p
     exact⟨_,_,rfl,h.bU F A,AR.cR h G h2⟩
  cases ho
end
def dI(P:Program)(o:Oper)(a:Act)(w:World)(Φ:Value→World→Prop):Prop:=
 (∃cv w',(execOp a.eval o).run P w= .ok (.value cv) w'∧Φ cv w')∨
 (∃w',(execOp a.eval o).run P w= .ok .skip w'∧Φ undef w')∨
 (∃f args,(execOp a.eval o).run P w= .ok (.enter f args) w∧Calls P f args w fun e w'=>∃cv,e= .returned cv∧Φ cv w')
theorem TB{P:Program}{o:Oper}{a:Act}{w:World}{Φ:Value→World→Prop}{K:Act→World→Prop}{Q:Exit→Act→World→Prop}
  (h:dI P o a w Φ) (z:∀cv w',Φ cv w'→K (a.put o.dst cv) w'):o.wp P a w K Q:=by
 unfold Oper.wp
 rcases h with⟨cv,w',e,p⟩|⟨w',e,p⟩|⟨f,args,e,p⟩
 ·rw[e];exact z _ _ p
 ·rw[e];exact z _ _ p
 rw[e]
 refine Calls.mono p fun e w' A=>?_
 obtain⟨cv,rfl,p⟩:=A
 exact z _ _ p
def dZ(C:Nat→Option cZ)(H H':aC)(f:Nat):Option cZ:=
 open Classical in
 if H.next≤f∧f<H'.next then H'.t.get f else if H'.t.get f=H.t.get f then C f else H'.t.get f
def Wr(H':aC)(f:Nat):Prop:=f∈H'.ws∨H'.bb≤f
def c6(ρ:Ho)(C:Nat→Option cZ)(w:World)(H:aC)(v:aw)(H':aC)(cv:Value)(w':World):Prop:=
 ∃ρ',VR ρ' v cv∧Ext (Wr H') H.next H'.next ρ ρ' w w'∧R ρ' (dZ C H H') w'
theorem mD(C:Nat→Option cZ)(H:aC):dZ C H H=C:=by
 funext f
 unfold dZ
 rw[bw ax,bE rfl]
theorem c6.pure{ρ:Ho}{C:Nat→Option cZ}{w:World}{H:aC}{v:aw}{cv:Value}(p:R ρ C w)(z:VR ρ v cv):c6 ρ C w H v H cv w:=
 ⟨ρ,z,Ext.refl _ _ _ _,by rw[mD];exact p⟩
theorem HS{a b:IntKind}(h:Nat.beq (cI a) (cI b)=true):a=b:=by cases a<;>cases b<;>first|rfl|cases h
theorem nC(a b:Int):fM a b=decide (a<b):=by
 rw[vX,decide_eq_true_iff]
 cases a with
 |ofNat a=>cases b with
  |ofNat b=>simp only[fM,Nat.ble_eq,hT];omega
  |negSucc b=>simp only[fM,hT,ky,ju,false_iff];omega
 |negSucc a=>cases b with
  |ofNat b=>simp only[fM,hT,ky,true_iff];omega
  |negSucc b=>simp only[fM,Nat.ble_eq,ky];omega
theorem rj(a b:Int):lA a b=decide (a=b):=by
 rw[vX,decide_eq_true_iff]
 cases a with
 |ofNat a=>cases b with
  |ofNat b=>simp only[lA,sn,hT];omega
  |negSucc b=>simp only[lA,hT,ky,ju,false_iff];omega
 |negSucc a=>cases b with
  |ofNat b=>simp only[lA,hT,ky,ju,false_iff];omega
  |negSucc b=>simp only[lA,sn,ky];omega
theorem Ti(a b:List UInt8):pack (a++b)=pack a+256^a.length*pack b:=by
 induction a with
 |nil=>simp[pack]
 |cons x r p=>
  simp only[yF,pack,p,kZ,Qn]
  rw[Nat.mul_add,←kz,←Nat.mul_assoc,pj 256 (256^r.length)]
theorem Vf(a:List UInt8):pack a<256^a.length:=by
 induction a with
 |nil=>simp[pack]
 |cons x r p=>
  simp only[pack,kZ,Qn]
  have:x.toNat<256:=x.toNat_lt
  omega
theorem Hi(l:List UInt8)(i:Nat):pack l/256^i=pack (l.drop i):=by
 induction i generalizing l with
 |zero=>simp
 |succ i p=>
  cases l with
  |nil=>simp[pack]
  |cons x r=>
   simp only[pack,List.drop_succ_cons]
   have z:x.toNat<256:=x.toNat_lt
   have e:(x.toNat+256*pack r)/256=pack r:=by omega
   rw[Qn,pj (256^i) 256,←Nat.div_div_eq_div_mul,e,p]
theorem Hj(l:List UInt8)(n:Nat):pack l % 256^n=pack (l.take n):=by
 by_cases h:n≤l.length
 ·have p:pack l=pack (l.take n)+256^n*pack (l.drop n):=by
   have:=Ti (l.take n) (l.drop n)
   rw[Fo,jf,Nat.min_eq_left h] at this
   exact this
  have h2:=Vf (l.take n)
  rw[jf,Nat.min_eq_left h] at h2
  rw[p,Nat.add_mul_mod_self_left,BR h2]
 have h':l.length≤n:=by omega
 rw[rN h']
 refine BR (lH (Vf l) ?_)
 exact Nat.pow_le_pow_right ax h'
theorem QH(i:Nat):2^(8*i)=256^i:=by rw[Nat.pow_mul]
theorem aaD(v i:Nat):Nat.shiftRight v (Nat.mul 8 i)=v/256^i:=by
 show v>>>(8*i)=_
 rw[Nat.shiftRight_eq_div_pow,QH]
theorem Tj(l:List UInt8)(i:Nat)(h:i<l.length):xG (pack l) i=(l[i]).toNat:=by
 unfold xG
 rw[aaD,Hi]
 show pack (l.drop i) % 256=_
 have p:=Hj (l.drop i) 1
 rw[Fq] at p
 have e:(l.drop i).take 1=[l[i]]:=by rw[yI h];rfl
 rw[e] at p
 rw[p]
 show l[i].toNat+256*0=_
 omega
theorem strSub_pack(l:List UInt8)(lo hi:Nat):MY (pack l) lo hi=pack ((l.drop lo).take (hi-lo)):=by
 unfold MY
 rw[aaD,Hi,←Hj]
 show _ % (1<<<(8*(hi-lo)))=_
 rw[Nat.shiftLeft_eq,yJ,QH]
theorem strCat_pack(a b:List UInt8):MZ a.length (pack a) (pack b)=pack (a++b):=by
 unfold MZ
 rw[Ti]
 show pack a+(pack b)<<<(8*a.length)=_
 rw[Nat.shiftLeft_eq,QH,pj]
theorem UI:∀{a b:List UInt8},a.length=b.length→pack a=pack b→a=b
 |[],[],_,_=>rfl
 |[],_::_,h,_=>by simp at h
 |_::_,[],h,_=>by simp at h
 |x::r,y::s,h,k=>by
  simp only[pack] at k
  have A:x.toNat<256:=x.toNat_lt
  have F:y.toNat<256:=y.toNat_lt
  have p:x.toNat=y.toNat:=by omega
  have z:pack r=pack s:=by omega
  rw[UI (by simpa using h) z,UInt8.toNat_inj.1 p]
theorem He(a b:List UInt8):rB a.length (pack a) b.length (pack b)=decide (a=b):=by
 unfold rB
 rw[vX,decide_eq_true_iff]
 constructor
 ·intro h
  split at h
  ·rename_i p
   exact UI (cL p) (cL h)
  cases h
 rintro rfl
 simp
theorem Lo:∀(a b:List UInt8),strLt a.length (pack a) b.length (pack b)=Op.bytesLess a b
 |[],[]=>rfl
 |[],_::_=>rfl
 |x::r,[]=>rfl
 |x::r,y::s=>by
  have J:x.toNat<256:=x.toNat_lt
  have K:y.toNat<256:=y.toNat_lt
  have p:Nat.mod (pack (x::r)) 256=x.toNat:=by show(x.toNat+256*pack r) % 256=_;omega
  have z:Nat.mod (pack (y::s)) 256=y.toNat:=by show(y.toNat+256*pack s) % 256=_;omega
  have A:Nat.div (pack (x::r)) 256=pack r:=by show(x.toNat+256*pack r)/256=_;omega
  have F:Nat.div (pack (y::s)) 256=pack s:=by show(y.toNat+256*pack s)/256=_;omega
  have step:strLt (x::r).length (pack (x::r)) (y::s).length (pack (y::s))=
    match Nat.beq (Nat.mod (pack (x::r)) 256) (Nat.mod (pack (y::s)) 256) with
    |true=>strLt r.length (Nat.div (pack (x::r)) 256) s.length (Nat.div (pack (y::s)) 256)
    |false=>Nat.ble (Nat.succ (Nat.mod (pack (x::r)) 256)) (Nat.mod (pack (y::s)) 256):=rfl
  rw[step,p,z,A,F,Lo r s]
  simp only[Op.bytesLess]
  by_cases h:x=y
  ·subst h
   have:¬(x<x):=by rw[Fs];omega
   simp[this]
  have G:Nat.beq x.toNat y.toNat=false:=by
   rw[←KR,sn]
   exact fun e=>h (UInt8.toNat_inj.1 e)
  rw[G]
  have I:(x==y)=false:=by simpa using h
  simp only[I,Bool.false_and,Bool.or_false]
  rw[vX,Nat.ble_eq,decide_eq_true_iff,Fs]
  exact gY
end Go.Ev
