/- Part 2 of rules for walks through the code of a program, and of such walks; what each part proves is said by its theorems. -/
import Derived.Test.YtijnechfhdlgiaaGreatDoorS1
import GoSem.Core.Layout
import GoSem.ClaimKeys
import Derived.IntWalk
import Derived.Deep.AppendSrc
import Derived.RowKit3
set_option linter.unusedVariables false
set_option linter.unusedSimpArgs false
noncomputable section
set_option maxRecDepth 100000
set_option maxHeartbeats 4000000
namespace Go.Ev
mutual
def ld:Value→Option ax
 |.bool b=>some (.bool b)
 |.int k n=>some (.int k n)
 |.string s=>some (.str s.size (pack s.data.toList))
 |.pointer none=>some .iN
 |.slice none 0 0=>some .cB
 |.nilIface=>some .il
 |.nilFunc=>some .oq
 |.map none=>some .vb
 |.agg cs=>match BJ cs.toList with
  |some l=>if l.all iB then some (.agg l) else none
  |none=>none
 |_=>none
def BJ:List Value→Option (List ax)
 |[]=>some []
 |v::r=>match ld v,BJ r with
  |some a,some l=>some (a::l)
  |_,_=>none
end
def cellsOf:ax→Option (List ax)
 |.agg cs=>some cs
 |.tuple _=>none
 |.undef=>none
 |v=>some [v]
def dH(P:Program):Operand→Option aI
 |.tmp t=>if t<1296 then some (.t (pk t)) else none
 |.const v=>match ld v with|some a=>some (.c a)|none=>none
 |.global g=>if g<P.globals.size then some (.c (.ptr g 1 0)) else none
 |.func f=>some (.c (.func f [] []))
def lS(P:Program):List Operand→Option (List aI)
 |[]=>some []
 |x::r=>match dH P x,lS P r with
  |some a,some l=>some (a::l)
  |_,_=>none
def zeroOf(P:Program)(t:TypeId):Option (List ax):=
 match P.info? t with
 |some i=>match i.zero with
  |some z=>match ld z with
   |some v=>match cellsOf v with
    |some l=>if l.length=i.size∧0<i.size then some l else none
    |none=>none
   |none=>none
  |none=>none
 |none=>none
def qu(P:Program)(t:TypeId):Bool:=match P.underlying t with|some (.struct _)=>true|some (.array _ _)=>true|_=>false
def bad:bP:=.ns (.c .iN) []
def IW(P:Program):TypeDesc→Option At
 |.bool=>some .bool
 |.pointer e=>match P.info? e with|some _=>some .ptr|none=>none
 |.slice _=>some .slice
 |.interface _=>some .iface
 |.func _ _ _=>some .func
 |.map _ _=>some .map
 |_=>none
def x9:Operand→Bool
 |.const _=>true
 |_=>false
def EF(x y:Operand):TypeDesc→Bool
 |.interface ms=>ms.isEmpty||x9 x||x9 y
 |_=>true
def Ea(P:Program)(g:TypeId→Option (List Nat)):Nat→List Field→Option (List Nat)
 |_,[]=>some []
 |off,f::r=>match g f.type with
  |some k=>if f.offset=off∧k.length=P.cellsOf f.type then
    match Ea P g (off+k.length) r with
    |some l=>some (k++l)
    |none=>none
   else none
  |none=>none
def uU(P:Program):Nat→TypeId→Option (List Nat)
 |0,_=>none
 |d+1,t=>match P.underlying t with
  |some .bool=>some [100]
  |some (.int k)=>some [dO k]
  |some .string=>some [101]
  |some (.struct z)=>match Ea P (uU P d) 0 z.toList with
   |some ks=>if ks.length=P.cellsOf t∧z.all (·.name != "_")=true then some ks else none
   |none=>none
  |_=>none
def IX(P:Program)(op:BinOp)(t:TypeId)(x y:aI):Option bP:=
 match uU P 12 t with
 |some ks=>if P.keyTypeAt 12 t=true∧P.eqGuardType P.depth t=false then
   match op with
   |.eql=>some (.eqv (.agg ks) false x y)
   |.neq=>some (.eqv (.agg ks) true x y)
   |_=>none
  else none
 |none=>none
def Jo(P:Program)(op:BinOp)(d:TypeDesc)(z A:Operand)(x y:aI):Option bP:=
 match IW P d with
 |some c=>if EF z A d=true then
   match op with
   |.eql=>some (.eqv c false x y)
   |.neq=>some (.eqv c true x y)
   |_=>none
  else none
 |none=>none
def PH(P:Program)(op:BinOp)(t:TypeId)(z A:Operand)(x y:aI):Option bP:=
 match P.underlying t with
 |some (.int _)=>some (.bin op x y)
 |some .string=>some (.bin op x y)
 |some (.struct _)=>IX P op t x y
 |some d=>Jo P op d z A x y
 |none=>none
def j8(P:Program)(t:TypeId):Option Nat:=match P.info? t,P.underlying t with|some i,some _=>if i.size≠0 then some i.size else none|_,_=>none
def Eb(P:Program)(t:TypeId)(x:aI):Option bP:=
 match P.info? t with
 |some j=>if j.size≠0 then some (.rl t (P.cellsOf t) x) else none
 |none=>none
def HP(P:Program)(src dst:TypeId)(x:aI):Option bP:=
 match P.underlying src,P.underlying dst with
 |some .string,some (.slice e)=>match P.underlying e with
  |some (.int .u8)=>some (.yB e x)
  |_=>none
 |some (.slice e),some .string=>match P.underlying e with
  |some (.int .u8)=>some (.nN x)
  |_=>none
 |some (.pointer t),some .unsafePointer=>Eb P t x
 |some .unsafePointer,some (.pointer t)=>Eb P t x
 |_,_=>none
def N3(P:Program)(src dst:TypeId)(x:aI):Option bP:=
 match P.underlying src,P.underlying dst with
 |some (.int _),some (.int k)=>some (.conv k x)
 |_,_=>HP P src dst x
def yF(P:Program)(place:Nat→Option (Nat×Nat)):List (Nat×Operand)→Option (List (Nat×Nat×aI))
 |[]=>some []
 |(i,x)::r=>match place i,dH P x,yF P place r with
  |some q,some y,some l=>some ((q.1,q.2,y)::l)
  |_,_,_=>none
def Ec(P:Program):List (Nat×Operand)→Option (List (Nat×aI))
 |[]=>some []
 |(i,x)::r=>match dH P x,Ec P r with
  |some y,some l=>some ((i,y)::l)
  |_,_=>none
def qv(P:Program):Option Operand→Option (Option aI)
 |none=>some none
 |some x=>match dH P x with|some y=>some (some y)|none=>none
def Ed(z:List ax):Option (List (Nat×Nat×aI))→Option bP
 |some l=>if(l.all fun p=>decide (p.1+p.2.1≤z.length))=true then some (.build z l) else none
 |none=>none
def HQ(P:Program)(t:TypeId)(parts:List (Nat×Operand)):Option bP:=
 match zeroOf P t with
 |some z=>match P.underlying t with
  |some (.struct I)=>match I.toList.mapM (fun f=>(P.info? f.type).map fun i=>(f.offset,i.size)) with
   |some A=>Ed z (yF P (fun i=>A.toArray[i]?) parts)
   |none=>none
  |some (.array _ e)=>match P.info? e with
   |some G=>Ed z (yF P (fun i=>some (i*G.size,G.size)) parts)
   |none=>none
  |_=>none
 |none=>none
def Hi(P:Program)(t:TypeId)(A:Nat)(parts:List (Nat×Operand)):Option bP:=
 match P.underlying t with
 |some (.slice e)=>match P.info? e,zeroOf P e with
  |some i,some z=>match Ec P parts with
   |some l=>if A*i.size≤16777216 then some (.cG e i.size i.bytes A z l) else none
   |none=>none
  |_,_=>none
 |_=>none
def Ik(P:Program)(t:TypeId)(a b:aI):Option bP:=
 match P.underlying t with
 |some (.slice e)=>match P.info? e,zeroOf P e with
  |some i,some z=>if i.bytes≠0 then some (.tZ e i.size i.bytes z a b) else none
  |_,_=>none
 |_=>none
def Vz(_:Program)(_:TypeId)(_:aI)(_ _:Option aI):Option bP:=none
def Mm(mx:Bool):List aI→Option bP
 |x::r=>some (.BB mx x r)
 |[]=>none
def VA(_:Program)(_:Op):Option bP:=none
def Il(P:Program)(c:Call):Option bP:=
 match c.callee,lS P c.args.toList with
 |.value f,some args=>match f with
  |.func f=>some (.call f args)
  |f=>match dH P f with|some y=>some (.ns y args)|none=>none
 |.builtin .len,some [x]=>match c.argTypes[0]?with
  |some t=>match P.underlying t with
   |some .string=>some (.pT x)
   |some (.slice _)=>some (.len x)
   |some (.array n _)=>some (.Cx n)
   |_=>none
  |none=>none
 |.builtin .append,some [x,y]=>match c.argTypes[0]?,c.argTypes[1]?with
  |some t,some u=>match P.underlying t,P.underlying u with
   |some (.slice e),some (.slice _)=>match P.info? e,zeroOf P e with
    |some i,some _=>if i.bytes≠0 then some (.app e i.size i.bytes x y) else none
    |_,_=>none
   |some (.slice e),some .string=>match P.info? e,zeroOf P e with
    |some i,some _=>if i.size=1∧i.bytes=1 then some (.rY e x y) else none
    |_,_=>none
   |_,_=>none
  |_,_=>none
 |.builtin .unsafeSliceData,some [x]=>some (.wa x)
 |.builtin .unsafeString,some [x,y]=>match c.argTypes.toList with
  |[z,_]=>match P.underlying z with
   |some (.pointer e)=>if P.cellsOf e=1 then some (.rA e x y) else none
   |_=>none
  |_=>none
 |.builtin .min,some l=>Mm false l
 |.builtin .max,some l=>Mm true l
 |_,_=>none
def CG(P:Program)(o:Op):Option bP:=
 match o with
 |.move x=>match dH P x with|some y=>some (.o4 y)|none=>none
 |.assign x=>match dH P x with|some y=>some (.o4 y)|none=>none
 |.pick c a b=>match dH P c,dH P a,dH P b with|some c,some a,some b=>some (.pick c a b)|_,_,_=>none
 |.alloc t=>match zeroOf P t,P.info? t with|some z,some i=>some (.cw t i.size i.bytes z)|_,_=>none
 |.box t x=>match j8 P t,P.info? t,dH P x with|some n,some i,some y=>some (.box t n i.bytes y)|_,_,_=>none
 |.build t parts=>HQ P t parts.toList
 |.buildSlice t I parts=>Hi P t I parts.toList
 |.load t a=>match j8 P t,dH P a with|some n,some y=>some (.load n (qu P t) y)|_,_=>none
 |.store t a x=>match j8 P t,dH P a,dH P x with|some n,some y,some z=>some (.store n y z)|_,_,_=>none
 |.nilCheck x=>match dH P x with|some y=>some (.pM y)|none=>none
 |.binOp op t x y _=>match dH P x,dH P y with|some a,some b=>PH P op t x y a b|_,_=>none
 |.unOp op _ x=>match dH P x with|some y=>some (.un op y)|none=>none
 |.convert src dst x=>match dH P x with|some y=>N3 P src dst y|none=>none
 |.makeInterface t x=>match P.underlying t,dH P x with
  |some (.interface _),_=>none
  |some _,some y=>some (.vT t y)
  |_,_=>none
 |.makeFunc (.func f) first ff=>match lS P first.toList,lS P ff.toList with|some G,some l=>some (.oU f G l)|_,_=>none
 |.makeSlice t I J=>match dH P I,dH P J with|some a,some b=>Ik P t a b|_,_=>none
 |.slice t x lo hi none=>match P.underlying t,dH P x,qv P lo,qv P hi with
  |some .string,some x,some lo,some hi=>some (.js x lo hi)
  |some (.slice e),some x,some lo,some hi=>match j8 P e with|some n=>some (.pS n x lo hi)|none=>none
  |some _,some x,some lo,some hi=>Vz P t x lo hi
  |_,_,_,_=>none
 |.fieldAddr s x f=>match P.underlying s,dH P x with
  |some (.struct G),some y=>match G[f]?with
   |some A=>match j8 P A.type with|some _=>some (.oT y A.offset)|none=>none
   |none=>none
  |_,_=>none
 |.field s x f=>match P.underlying s,dH P x with
  |some (.struct G),some y=>match G[f]?with
   |some A=>match j8 P A.type with|some n=>some (.sub y A.offset n (qu P A.type))|none=>none
   |none=>none
  |_,_=>none
 |.indexAddr t x i=>match P.underlying t,dH P x,dH P i with
  |some (.array k e),some x,some i=>match j8 P e with|some n=>if 1<k then some (.eb k n x i) else none|none=>none
  |some (.slice e),some x,some i=>match j8 P e with|some n=>some (.dV n x i)|none=>none
  |_,_,_=>none
 |.index t x i=>match P.underlying t,dH P x,dH P i with
  |some (.array k e),some x,some i=>match j8 P e with|some n=>some (.BA k n (qu P e) x i)|none=>none
  |some .string,some x,some i=>some (.tu x i)
  |_,_,_=>none
 |.extract x i=>match dH P x with|some y=>some (.sF y i)|none=>none
 |.call c=>Il P c
 |o=>VA P o
def nk:bP→Bool
 |.cw ..|.box ..|.load ..|.store ..|.tZ ..|.cG ..|.app ..|.rY ..|.copy ..|.yB ..|.nN ..|.xe ..|.call ..|.ns ..|.rl ..|.rA ..=>false
 |_=>true
structure Hm where
 ct:Nat
 off:Nat
 room:Nat
 ro:Bool
 nf:Bool:=false
abbrev Ho:=Nat→Nat→Option Hm
def Jp(h:Hm)(a:Addr)(l cap o es:Nat):Prop:=
 (a=⟨h.ct,h.off+o,none⟩∧o+cap*es≤h.room)∨(l=0∧cap=0∧0<o)
mutual
def VR(ρ:Ho):ax→Value→Prop
 |.bool b,v=>v= .bool b
 |.int k n,v=>v= .int k n
 |.str l s,v=>∃b:ByteArray,v= .string b∧l=b.size∧s=pack b.data.toList
 |.ptr f g o,v=>∃h,ρ f g=some h∧v= .pointer (some ⟨h.ct,h.off+o,none⟩)
 |.iN,v=>v= .pointer none
 |.slice f g o l es,v=>∃h a cap,ρ f g=some h∧v= .slice (some a) l cap∧l≤cap∧Jp h a l cap o es
 |.cB,v=>v= .slice none 0 0
 |.agg cs,v=>∃vs,v= .agg vs∧cP ρ cs vs.toList∧cs.all iB=true
 |.tuple cs,v=>∃vs,v= .tuple vs∧cP ρ cs vs.toList
 |.func f first ff,v=>∃z vs,v= .func (.func f) z vs∧cP ρ first z.toList∧cP ρ ff vs.toList
 |.oq,v=>v= .nilFunc
 |.iface t a,v=>∃x,v= .iface t x∧VR ρ a x
 |.il,v=>v= .nilIface
 |.map _,v=>∃a:Addr,v= .pointer (some a)
 |.vb,v=>v= .map none
 |.undef,v=>v=undef
def cP(ρ:Ho):List ax→List Value→Prop
 |[],vs=>vs=[]
 |a::r,vs=>∃v t,vs=v::t∧VR ρ a v∧cP ρ r t
end
def Ho.le(ρ ρ':Ho):Prop:=∀f g h,ρ f g=some h→ρ' f g=some h
theorem Ho.le_refl(ρ:Ho):ρ.le ρ:=fun _ _ _ h=>h
theorem Ho.le_trans{a b c:Ho}(h:a.le b)(k:b.le c):a.le c:=fun f g x z=>k f g x (h f g x z)
mutual
theorem VR.mono{ρ ρ':Ho}(z:ρ.le ρ'):∀{a:ax}{v:Value},VR ρ a v→VR ρ' a v
 |.bool _,_,h=>by simpa[VR] using h
 |.int _ _,_,h=>by simpa[VR] using h
 |.str _ _,_,h=>by simpa[VR] using h
 |.ptr _ _ _,_,h=>by
  simp only[VR] at h⊢
  obtain⟨x,G,e⟩:=h
  exact⟨x,z _ _ _ G,e⟩
 |.iN,_,h=>by simpa[VR] using h
 |.slice _ _ _ _ _,_,h=>by
  simp only[VR] at h⊢
  obtain⟨x,a,c,G,e⟩:=h
  exact⟨x,a,c,z _ _ _ G,e⟩
 |.cB,_,h=>by simpa[VR] using h
 |.agg cs,_,h=>by
  simp only[VR] at h⊢
  obtain⟨vs,e,A,ho⟩:=h
  exact⟨vs,e,cP.mono z A,ho⟩
 |.tuple cs,_,h=>by
  simp only[VR] at h⊢
  obtain⟨vs,e,A⟩:=h
  exact⟨vs,e,cP.mono z A⟩
 |.func _ _ cs,_,h=>by
  simp only[VR] at h⊢
  obtain⟨I,vs,e,J,A⟩:=h
  exact⟨I,vs,e,cP.mono z J,cP.mono z A⟩
 |.oq,_,h=>by simpa[VR] using h
 |.iface _ a,_,h=>by
  simp only[VR] at h⊢
  obtain⟨x,e,A⟩:=h
  exact⟨x,e,VR.mono z A⟩
 |.il,_,h=>by simpa[VR] using h
 |.map _,_,h=>by simp only[VR] at h⊢;exact h
 |.vb,_,h=>by simpa[VR] using h
 |.undef,_,h=>by simpa[VR] using h
theorem cP.mono{ρ ρ':Ho}(z:ρ.le ρ'):∀{a:List ax}{v:List Value},cP ρ a v→cP ρ' a v
 |[],_,h=>by simpa[cP] using h
 |a::r,_,h=>by
  simp only[cP] at h⊢
  obtain⟨v,t,e,A,h2⟩:=h
  exact⟨v,t,e,VR.mono z A,cP.mono z h2⟩
end
theorem cP.length{ρ:Ho}:∀{a:List ax}{v:List Value},cP ρ a v→v.length=a.length
 |[],_,h=>by simp only[cP] at h;subst h;rfl
 |a::r,_,h=>by
  simp only[cP] at h
  obtain⟨v,t,rfl,_,h2⟩:=h
  simp[cP.length h2]
theorem cP.get{ρ:Ho}:∀{a:List ax}{v:List Value},cP ρ a v→∀(i:Nat)(x:ax),a[i]?=some x→∃y,v[i]?=some y∧VR ρ x y
 |[],_,_,i,x,z=>by simp at z
 |a::r,_,h,i,x,z=>by
  simp only[cP] at h
  obtain⟨v,t,rfl,A,h2⟩:=h
  cases i with
  |zero=>simp at z;subst z;exact⟨v,rfl,A⟩
  |succ i=>simp at z;obtain⟨y,G,k⟩:=cP.get h2 i x z;exact⟨y,by simpa using G,k⟩
theorem cP.rZ{ρ:Ho}:∀{a:List ax}{v:List Value},v.length=a.length→(∀(i:Nat)(x:ax),a[i]?=some x→∃y,v[i]?=some y∧VR ρ x y)→cP ρ a v
 |[],v,z,_=>by simp only[cP];exact um (by simpa using z)
 |a::r,[],z,_=>by simp at z
 |a::r,v::t,z,h=>by
  simp only[cP]
  refine⟨v,t,rfl,?_,cP.rZ (by simpa using z) fun i x G=>?_⟩
  ·obtain⟨y,A,k⟩:=h 0 a rfl;simp at A;subst A;exact k
  obtain⟨y,A,k⟩:=h (i+1) x (by simpa using G);exact⟨y,by simpa using A,k⟩
theorem cP.append{ρ:Ho}{a b:List ax}{v u:List Value}(h:cP ρ a v)(k:cP ρ b u):cP ρ (a++b) (v++u):=by
 induction a generalizing v with
 |nil=>simp only[cP] at h;subst h;exact k
 |cons x r z=>
  simp only[cP] at h
  obtain⟨y,t,rfl,A,h2⟩:=h
  simp only[As,cP]
  exact⟨y,t++u,rfl,A,z h2⟩
theorem cP.take{ρ:Ho}{a:List ax}{v:List Value}(h:cP ρ a v)(n:Nat):cP ρ (a.take n) (v.take n):=by
 refine cP.rZ (by simp[h.length]) fun i x z=>?_
 rw[CS] at z
 split at z
 ·obtain⟨y,A,k⟩:=h.get i x z
  exact⟨y,by rw[CS,az (by assumption)];exact A,k⟩
 cases z
theorem cP.drop{ρ:Ho}{a:List ax}{v:List Value}(h:cP ρ a v)(n:Nat):cP ρ (a.drop n) (v.drop n):=by
 refine cP.rZ (by simp[h.length]) fun i x z=>?_
 rw[tR] at z
 obtain⟨y,A,k⟩:=h.get _ x z
 exact⟨y,by rw[tR];exact A,k⟩
theorem VR.cells{ρ:Ho}{a:ax}{v:Value}{l:List ax}(h:VR ρ a v)(z:kq a=some l):cP ρ l v.cells.toList∧l.all iB=true:=by
 have one:∀{x:ax}{y:Value},VR ρ x y→y.cells=#[y]→iB x=true→l=[x]→cP ρ l y.cells.toList∧l.all iB=true:=by
  intro x y A G hk I
  subst I
  rw[G]
  exact⟨⟨y,[],rfl,A,rfl⟩,by simp[hk]⟩
 cases a<;>simp only[kq,ia,reduceCtorEq] at z
 case agg cs=>
  simp only[VR] at h
  obtain⟨vs,rfl,J,ho⟩:=h
  subst z
  exact⟨J,ho⟩
 case bool b=>exact one h (by simp only[VR] at h;subst h;rfl) rfl z.symm
 case int k n=>exact one h (by simp only[VR] at h;subst h;rfl) rfl z.symm
 case str k n=>exact one h (by simp only[VR] at h;obtain⟨b,rfl,_⟩:=h;rfl) rfl z.symm
 case ptr f g o=>exact one h (by simp only[VR] at h;obtain⟨b,_,rfl⟩:=h;rfl) rfl z.symm
 case iN=>exact one h (by simp only[VR] at h;subst h;rfl) rfl z.symm
 case slice f g o l es=>exact one h (by simp only[VR] at h;obtain⟨_,_,_,_,rfl,_⟩:=h;rfl) rfl z.symm
 case cB=>exact one h (by simp only[VR] at h;subst h;rfl) rfl z.symm
 case func f K c=>exact one h (by simp only[VR] at h;obtain⟨_,_,rfl,_⟩:=h;rfl) rfl z.symm
 case oq=>exact one h (by simp only[VR] at h;subst h;rfl) rfl z.symm
 case iface t x=>exact one h (by simp only[VR] at h;obtain⟨_,rfl,_⟩:=h;rfl) rfl z.symm
 case il=>exact one h (by simp only[VR] at h;subst h;rfl) rfl z.symm
 case map f=>exact one h (by simp only[VR] at h;obtain⟨a,rfl⟩:=h;rfl) rfl z.symm
 case vb=>exact one h (by simp only[VR] at h;subst h;rfl) rfl z.symm
theorem VR.XZ{ρ:Ho}{a:ax}{v:Value}(h:VR ρ a v)(hk:iB a=true):(∀cs,v≠.agg cs)∧(∀cs,v≠.tuple cs):=by
 cases a<;>simp only[VR,iB,qN] at h hk
 all_goals first
  |(subst h;exact⟨fun _=>by simp,fun _=>by simp⟩)
  |(obtain⟨_,rfl⟩:=h;exact⟨fun _=>by simp,fun _=>by simp⟩)
  |(obtain⟨_,rfl,_⟩:=h;exact⟨fun _=>by simp,fun _=>by simp⟩)
  |(obtain⟨_,_,rfl⟩:=h;exact⟨fun _=>by simp,fun _=>by simp⟩)
  |(obtain⟨_,_,rfl,_⟩:=h;exact⟨fun _=>by simp,fun _=>by simp⟩)
  |(obtain⟨_,_,_,_,rfl,_⟩:=h;exact⟨fun _=>by simp,fun _=>by simp⟩)
structure Fu(ρ:Ho)(w:World)(h:Hm)(g elem es n fl:Nat)(cs:RT):Prop where
 row:∃c fz,w.heap[h.ct]?=some (.cells c elem fz)∧h.off+h.room≤c.size
 fits:g*es≤h.room
 cell:∀i,i<g→∃l,cs.get i=some l∧l.length=es∧∀j x,l[j]?=some x→iB x=true∧∃cv,w.cell? ⟨h.ct,h.off+i*es+j,none⟩=some cv∧VR ρ x cv
 Cc:fl=0→∀i,i<h.room→w.frozen? ⟨h.ct,h.off+i,none⟩=false
 zN:fl≠1→∀i,n*es≤i→i<h.room→w.frozen? ⟨h.ct,h.off+i,none⟩=false
 t8:fl=0∨fl=2→h.off=0
 Aw:fl=0∨fl=2→∀c e fz,w.heap[h.ct]?=some (.cells c e fz)→fz.1=fz.2∨fz.2≤n*es
def Cd(ρ:Ho)(w:World)(h:Hm)(g:Nat):et→Prop
 |.row elem es _ n lo fl cs=>0<es∧(h.ro=true→fl=1)∧g≤n∧(lo≤g→g≤n→Fu ρ w h g elem es n fl cs)
 |.map _=>False
def Ax(ρ:Ho)(w:World)(f:Nat)(h:Hm):Prop:=(∀g' h',ρ f g'=some h'→h'.ro=true)∧∃z A,w.cell? ⟨h.ct,h.off,none⟩=some (.iface z A)
structure R(ρ:Ho)(C:Nat→Option et)(w:World):Prop where
 obj:∀f o,C f=some o→∀g h,ρ f g=some h→Cd ρ w h g o
 oV:∀f g h f' g' h',ρ f g=some h→ρ f' g'=some h'→f≠f'→h.ct=h'.ct→h.ro=true∧h'.ro=true
 kB:∀f g h,ρ f g=some h→h.ct<w.heap.size
 uniq:∀f g h g' h',ρ f g=some h→ρ f g'=some h'→h.ct=h'.ct→h.off=h'.off
 nf:∀f g h,ρ f g=some h→h.ro=true→h.nf=true→Ax ρ w f h
structure Ext(W:Nat→Prop)(n0 n1:Nat)(ρ ρ':Ho)(w w':World):Prop where
 le:ρ.le ρ'
 jL:∀f g h,ρ' f g=some h→(∃g0 h0,ρ f g0=some h0)∨(n0≤f∧f<n1)
 ct:∀f g h,ρ' f g=some h→ρ f g=some h∨(w.heap.size≤h.ct∧h.ro=false)∨(∃g0 h0,ρ f g0=some h0∧h0.ct=h.ct∧h0.ro=h.ro)
 frame:∀b,b<w.heap.size→(∀f g h,ρ f g=some h→h.ro=false→W f→h.ct≠b)→w'.heap[b]?=w.heap[b]?
 size:w.heap.size≤w'.heap.size
 nn:n0≤n1
 os:w'.os=w.os
 tape:w'.tape=w.tape
 output:w'.output=w.output
theorem Ext.refl(W:Nat→Prop)(n:Nat)(ρ:Ho)(w:World):Ext W n n ρ ρ w w:=
 ⟨Ho.le_refl _,fun f g h e=>.inl ⟨g,h,e⟩,fun _ _ _ e=>.inl e,fun _ _ _=>rfl,bR _,bR _,rfl,rfl,rfl⟩
theorem Ext.mono{W z:Nat→Prop}{n0 n1:Nat}{ρ ρ':Ho}{w w':World}(h:Ext W n0 n1 ρ ρ' w w')(A:∀f,W f→z f):Ext z n0 n1 ρ ρ' w w':=
 ⟨h.le,h.jL,h.ct,fun b G k=>h.frame b G fun f g x I J K=>k f g x I J (A f K),h.size,h.nn,h.os,h.tape,h.output⟩
theorem Ext.trans{W:Nat→Prop}{n0 n1 K:Nat}{ρ z A:Ho}{w O U:World}(h:Ext W n0 n1 ρ z w O)(k:Ext W n1 K z A O U):Ext W n0 K ρ A w U:=by
 refine⟨Ho.le_trans h.le k.le,?_,?_,?_,kx h.size k.size,kx h.nn k.nn,k.os.trans h.os,k.tape.trans h.tape,k.output.trans h.output⟩
 ·intro f g x G
  have Y:=h.nn
  have h2:=k.nn
  rcases k.jL f g x G with⟨g0,h0,e⟩|⟨a,b⟩
  ·rcases h.jL f g0 h0 e with e|⟨a,b⟩
   ·exact .inl e
   exact .inr ⟨a,ah⟩
  exact .inr ⟨ah,b⟩
 ·intro f g x G
  rcases k.ct f g x G with e|⟨a,b⟩|⟨g0,h0,e,e1,e2⟩
  ·exact h.ct f g x e
  ·exact .inr (.inl ⟨kx h.size a,b⟩)
  rcases h.ct f g0 h0 e with I|⟨a,b⟩|⟨g1,Y,I,e3,e4⟩
  ·exact .inr (.inr ⟨g0,h0,I,e1,e2⟩)
  ·exact .inr (.inl ⟨e1▸a,e2▸b⟩)
  exact .inr (.inr ⟨g1,Y,I,e3.trans e1,e4.trans e2⟩)
 intro b Z J
 rw[k.frame b (m9 Z h.size) ?_,h.frame b Z J]
 intro f g x G hr hw
 rcases h.ct f g x G with e|⟨a,_⟩|⟨g0,h0,e,e1,e2⟩
 ·exact J f g x e hr hw
 ·intro hh;omega
 exact e1▸J f g0 h0 e (e2.trans hr) hw
theorem cell_of_heap{w w':World}{a:Addr}(h:w'.heap[a.block]?=w.heap[a.block]?):w'.cell? a=w.cell? a:=by simp only[World.cell?,h]
theorem Ax.jo{ρ:Ho}{w w':World}{f:Nat}{h:Hm}(k:Ax ρ w f h)(z:w'.cell? ⟨h.ct,h.off,none⟩=w.cell? ⟨h.ct,h.off,none⟩):Ax ρ w' f h:=⟨k.1,by obtain⟨A,G,e⟩:=k.2;exact⟨A,G,z.trans e⟩⟩
theorem frozen_of_heap{w w':World}{a:Addr}(h:w'.heap[a.block]?=w.heap[a.block]?):w'.frozen? a=w.frozen? a:=by simp only[World.frozen?,h]
theorem Fu.jo{ρ ρ':Ho}{w w':World}{h:Hm}{g elem es n fl:Nat}{cs:RT}(k:Fu ρ w h g elem es n fl cs)(G:ρ.le ρ')(z:w'.heap[h.ct]?=w.heap[h.ct]?):
  Fu ρ' w' h g elem es n fl cs:=by
 refine⟨by rw[z];exact k.row,k.fits,fun i hi=>?_,fun h0 i hi=>?_,fun h0 i hi I=>?_,k.t8,fun e c t fz A=>k.Aw e c t fz (by rw[←z];exact A)⟩
 ·obtain⟨l,e,e1,e2⟩:=k.cell i hi
  refine⟨l,e,e1,fun j x J=>?_⟩
  obtain⟨o,cv,A,K⟩:=e2 j x J
  exact⟨o,cv,by rw[cell_of_heap (w:=w) z];exact A,K.mono G⟩
 ·rw[frozen_of_heap (w:=w) z];exact k.Cc h0 i hi
 rw[frozen_of_heap (w:=w) z];exact k.zN h0 i hi I
theorem Cd.jo{ρ ρ':Ho}{w w':World}{h:Hm}{g:Nat}{o:et}(k:Cd ρ w h g o)(z:ρ.le ρ')(A:w'.heap[h.ct]?=w.heap[h.ct]?):Cd ρ' w' h g o:=by
 cases o with
 |row elem es aV n lo fl cs=>exact⟨k.1,k.2.1,k.2.2.1,fun a b=>(k.2.2.2 a b).jo z A⟩
 |map es=>exact k
theorem R.weaken{ρ:Ho}{C z:Nat→Option et}{w:World}(h:R ρ C w)(hC:∀f o,z f=some o→(∃g x,ρ f g=some x)→C f=some o):R ρ z w:=
 ⟨fun f o e g x A=>h.obj f o (hC f o e ⟨g,x,A⟩) g x A,h.oV,h.kB,h.uniq,h.nf⟩
theorem gi{β:Type}(k e:β):aJ true k e=k:=rfl
theorem TG{β:Type}(k e:β):aJ false k e=e:=rfl
theorem r4{β:Type}(b:Bool)(k e:β):aJ b k e=if b=true then k else e:=by cases b<;>rfl
section
variable{v:ax}{H':aE}{n:Nat}
theorem gp{b:Bool}{k:aH}(h:aJ b k (.err n)= .ok v H'):b=true∧k= .ok v H':=by
 cases b
 ·cases h
 exact⟨rfl,h⟩
theorem jP{α:Type}{o:Option α}{k:α→aH}(h:ob o (.err n) k= .ok v H'):∃x,o=some x∧k x= .ok v H':=by
 cases o with
 |none=>cases h
 |some x=>exact⟨x,rfl,h⟩
theorem fS{x:aI}{E:Env}{k:ax→aH}(h:bI x E (.err n) k= .ok v H'):∃a,x.ev E=some a∧k a= .ok v H':=by
 cases x with
 |t i=>exact jP h
 |c a=>exact⟨a,rfl,h⟩
theorem TH{a:ax}{k:Bool→aH}(h:tv a (.err n) k= .ok v H'):∃b,a= .bool b∧k b= .ok v H':=by
 cases a<;>first|cases h;done|exact⟨_,rfl,h⟩
theorem ta{a:ax}{k:IntKind→Int→aH}(h:gU a (.err n) k= .ok v H'):∃b i,a= .int b i∧k b i= .ok v H':=by
 cases a<;>first|cases h;done|exact⟨_,_,rfl,h⟩
theorem yb{a:ax}{k:Nat→Nat→aH}(h:j7 a (.err n) k= .ok v H'):∃l s,a= .str l s∧k l s= .ok v H':=by
 cases a<;>first|cases h;done|exact⟨_,_,rfl,h⟩
theorem wH{a:ax}{k:Nat→Nat→Nat→aH}(h:iW a (.err n) k= .ok v H'):∃f g o,a= .ptr f g o∧k f g o= .ok v H':=by
 cases a<;>first|cases h;done|exact⟨_,_,_,rfl,h⟩
theorem xT{a:ax}{e:aH}{k:Nat→Nat→Nat→Nat→Nat→aH}(h:hO a (.err n) e k= .ok v H'):
  (a= .cB∧e= .ok v H')∨∃f g o l es,a= .slice f g o l es∧k f g o l es= .ok v H':=by
 cases a<;>first|cases h;done|exact .inr ⟨_,_,_,_,_,rfl,h⟩|exact .inl ⟨rfl,h⟩
theorem Mn{a:ax}{k:List ax→aH}(h:pN a (.err n) k= .ok v H'):∃l,a= .agg l∧k l= .ok v H':=by
 cases a<;>first|cases h;done|exact⟨_,rfl,h⟩
theorem S1{a:ax}{k:List ax→aH}(h:th a (.err n) k= .ok v H'):∃l,a= .tuple l∧k l= .ok v H':=by
 cases a<;>first|cases h;done|exact⟨_,rfl,h⟩
theorem TI{a:ax}{k:Nat→List ax→List ax→aH}(h:vc a (.err n) k= .ok v H'):∃f z l,a= .func f z l∧k f z l= .ok v H':=by
 cases a<;>first|cases h;done|exact⟨_,_,_,rfl,h⟩
theorem wI{i:Int}{k:Nat→aH}(h:jc i (.err n) k= .ok v H'):∃m:Nat,i=(m:Int)∧k m= .ok v H':=by
 cases i with
 |ofNat m=>exact⟨m,rfl,h⟩
 |negSucc m=>cases h
theorem pA(l:List ax):jI l=l.length:=by
 induction l with
 |nil=>rfl
 |cons a r z=>show Nat.succ (jI r)=_;rw[z];rfl
theorem EH{a:ax}{m:Nat}{k:Nat→aH}(h:idx a m (.err n) k= .ok v H'):∃z i,a= .int z (i:Nat)∧i<m∧k i= .ok v H':=by
 obtain⟨z,i,rfl,h⟩:=ta h
 obtain⟨j,rfl,h⟩:=wI h
 obtain⟨A,h⟩:=gp h
 exact⟨z,j,rfl,b0 A,h⟩
theorem WZ{E:Env}{x:Option aI}{d y:Nat}{k:Nat→aH}(h:gH E x d y (.err n) k= .ok v H'):
  (x=none∧k d= .ok v H')∨∃z A i,x=some z∧z.ev E=some (.int A (i:Nat))∧i≤y∧k i= .ok v H':=by
 cases x with
 |none=>exact .inl ⟨rfl,h⟩
 |some z=>
  obtain⟨a,G,h⟩:=jP h
  obtain⟨A,i,rfl,h⟩:=ta h
  obtain⟨j,rfl,h⟩:=wI h
  obtain⟨I,h⟩:=gp h
  exact .inr ⟨z,A,j,rfl,G,b0 I,h⟩
theorem Mo{o:Option et}{k:Nat→Nat→Nat→Nat→Nat→Nat→RT→aH}(h:jt o (.err n) k= .ok v H'):
  ∃elem es aV m lo fl cs,o=some (.row elem es aV m lo fl cs)∧k elem es aV m lo fl cs= .ok v H':=by
 cases o with
 |none=>cases h
 |some o=>cases o with
  |row=>exact⟨_,_,_,_,_,_,_,rfl,h⟩
  |map=>cases h
theorem HR{agg:Bool}{l:List ax}{k:ax→aH}(h:jf agg l (.err n) k= .ok v H'):
  (agg=true∧k (.agg l)= .ok v H')∨∃x,agg=false∧l=[x]∧k x= .ok v H':=by
 cases agg with
 |true=>exact .inl ⟨rfl,h⟩
 |false=>
  cases l with
  |nil=>cases h
  |cons x r=>cases r with
   |nil=>exact .inr ⟨x,rfl,rfl,h⟩
   |cons y s=>cases h
theorem yd{H:aE}{o:et}{k:Nat→aE→aH}(h:H.alloc o k= .ok v H'):k H.next ⟨H.next+1,H.bj,H.ws,H.t.set H.next o⟩= .ok v H':=by
 cases H with
 |mk next bj ws t=>
  have h':dz next (fun f=>t.gV f o fun t=>k f ⟨Nat.succ f,bj,ws,t⟩)= .ok v H':=h
  rw[iG,GT.kG] at h'
  exact h'
end
theorem EI(m n:Nat):sL m n=(m:Int) -(n:Int):=by
 unfold sL
 cases h:Nat.ble n m
 ·have:¬n≤m:=fun e=>by rw[jy e] at h;cases h
  show Int.negSucc (n-m-1)=_
  rw[mj];omega
 have:n≤m:=b0 h
 show Int.ofNat (m-n)=_
 rw[bN];omega
theorem VB(x y:Int):Qe x y=x+y:=by
 cases x with
 |ofNat m=>cases y with
  |ofNat n=>rfl
  |negSucc n=>show sL m (n+1)=_;rw[EI,mj,bN];omega
 |negSucc m=>cases y with
  |ofNat n=>show sL n (m+1)=_;rw[EI,mj,bN];omega
  |negSucc n=>show Int.negSucc (m+n+1)=_;rw[mj,mj,mj];omega
theorem VD(x y:Int):Qf x y=x-y:=by
 cases x with
 |ofNat m=>cases y with
  |ofNat n=>show sL m n=_;rw[EI];rfl
  |negSucc n=>show Int.ofNat (m+(n+1))=_;rw[mj,bN,bN];omega
 |negSucc m=>cases y with
  |ofNat n=>show Int.negSucc (m+n)=_;rw[mj,mj,bN];omega
  |negSucc n=>show sL n m=_;rw[EI,mj,mj];omega
theorem EJ(x y:Int):CU x y=lN x y:=by cases x<;>cases y<;>rfl
theorem N4(x y:Int):JP x y=mK x y:=by cases x<;>cases y<;>rfl
theorem W0(n:Int):QZ n=IntKind.wrap .i64 n:=by
 cases n with
 |ofNat m=>
  show Bool.rec (motive:=fun _=>Int) (IntKind.wrap .i64 (.ofNat m)) (.ofNat m) (Nat.ble m 9223372036854775807)=_
  cases h:Nat.ble m 9223372036854775807
  ·rfl
  have:=b0 h
  exact(IntWalk.i64_in (Int.ofNat m) (by simp only[bN];omega)).symm
 |negSucc m=>
  show Bool.rec (motive:=fun _=>Int) (IntKind.wrap .i64 (.negSucc m)) (.negSucc m) (Nat.ble m 9223372036854775807)=_
  cases h:Nat.ble m 9223372036854775807
  ·rfl
  have:=b0 h
  exact(IntWalk.i64_in (Int.negSucc m) (by rw[mj];omega)).symm
theorem Fv(mx:Nat)(k:IntKind)(hk:∀n:Int,0≤n∧n≤mx→k.wrap n=n)(n:Int):wU mx k n=IntKind.wrap k n:=by
 cases n with
 |ofNat m=>
  show Bool.rec (motive:=fun _=>Int) (IntKind.wrap k (.ofNat m)) (.ofNat m) (Nat.ble m mx)=_
  cases h:Nat.ble m mx
  ·rfl
  have:=b0 h
  exact(hk (Int.ofNat m) (by simp only[bN];omega)).symm
 |negSucc m=>rfl
theorem Uw(k:IntKind)(n:Int):IS k n=k.wrap n:=by
 cases k with
 |i8=>rfl
 |i16=>rfl
 |i32=>rfl
 |i64=>exact W0 n
 |u8=>exact Fv _ _ IntWalk.u8_in n
 |u16=>exact Fv _ _ IntWalk.u16_in n
 |u32=>exact Fv _ _ IntWalk.u32_in n
 |u64=>exact Fv _ _ IntWalk.u64_in n
theorem nJ(k:IntKind)(n:Int):mB k n=k.wrap n:=by
 unfold mB
 split
 ·rename_i m
  split
  ·rename_i h
   have h:=b0 h
   exact(IntWalk.i64_in (Int.ofNat m) (by simp only[bN];omega)).symm
  rfl
 ·rename_i m
  split
  ·rename_i h
   have h:=b0 h
   exact(IntWalk.i64_in (Int.negSucc m) (by rw[mj];omega)).symm
  rfl
 rfl
theorem Lz{f:Int→Int→Int}{op:BinOp}(h:∀k a G b,jr op k a G b=aJ (Nat.beq (dO k) (dO G)) (some (.int k (mB k (f a b)))) none)(a b:ax)(k:ax→aH):Ij f op a b k=nS op a b k:=by
 cases a<;>try rfl
 cases b<;>try rfl
 rename_i z x A y
 show aJ (Nat.beq (dO z) (dO A)) (lR (IS z (f x y)) fun r=>k (.int z r)) (.err 6)=ob (jr op z x A y) (.err 6) fun v=>nj v k
 rw[h,sZ,Uw,←nJ]
 cases Nat.beq (dO z) (dO A)
 ·rfl
 exact(uJ (.int z (mB z (f x y))) k).symm
theorem ym{f:Int→Int→Bool}{op:BinOp}(h:∀k a G b,jr op k a G b=aJ (Nat.beq (dO k) (dO G)) (some (.bool (f a b))) none)(a b:ax)(k:ax→aH):xr f op a b k=nS op a b k:=by
 cases a<;>try rfl
 cases b<;>try rfl
 rename_i A x z y
 show aJ (Nat.beq (dO A) (dO z)) (nM (f x y) fun r=>k (.bool r)) (.err 6)=ob (jr op A x z y) (.err 6) fun v=>nj v k
 rw[h]
 cases Nat.beq (dO A) (dO z)
 ·rfl
 refine Eq.trans ?_ (uJ (.bool (f x y)) k).symm
 show nM (f x y) (fun r=>k (.bool r))=_
 cases f x y<;>rfl
theorem Ee(op:BinOp)(a b:ax)(k:ax→aH):Ac op a b k=ob (Cy op a b) (.err 6) fun v=>nj v k:=by
 cases op with
 |add=>exact Lz (fun k a z b=>by rw[VB];rfl) a b k
 |sub=>exact Lz (fun k a z b=>by rw[VD];rfl) a b k
 |eql=>exact ym (fun k a z b=>by rw[N4];rfl) a b k
 |neq=>exact ym (fun k a z b=>by unfold Q0;rw[N4];rfl) a b k
 |lss=>exact ym (fun k a z b=>by rw[EJ];rfl) a b k
 |leq=>exact ym (fun k a z b=>by unfold Q2;rw[EJ];rfl) a b k
 |gtr=>exact ym (fun k a z b=>by unfold Q3;rw[EJ];rfl) a b k
 |geq=>exact ym (fun k a z b=>by unfold Q4;rw[EJ];rfl) a b k
 |mul=>rfl
 |quo=>rfl
 |rem=>rfl
 |and=>rfl
 |or=>rfl
 |xor=>rfl
 |shl=>rfl
 |shr=>rfl
 |andNot=>rfl
structure Jq(H:aE)(f g off n:Nat)(l:List ax):Prop where
 ex:∃elem es aV m lo fl cs x,H.t.get f=some (.row elem es aV m lo fl cs)∧lo≤g∧g≤m∧off % es+n≤es∧off/es<g∧cs.get (off/es)=some x∧
  ((l=x∧n=es)∨l=(x.drop (off % es)).take n)
theorem IY{β:Type}{H:aE}{f g off n:Nat}{e:β}{k:List ax→β}{r:β}(h:rd H f g off n e k=r)(he:e≠r):∃l,Jq H f g off n l∧k l=r:=by
 unfold rd at h
 cases ho:H.t.get f with
 |none=>rw[ho] at h;exact absurd h he
 |some o=>
  rw[ho] at h
  cases o with
  |map=>exact absurd h he
  |row elem es aV m lo fl cs=>
   simp only[jt,r4] at h
   split at h
   ·rename_i K
    split at h
    ·rename_i h2
     split at h
     ·rename_i O
      split at h
      ·rename_i U
       cases z:cs.get (Nat.div off es) with
       |none=>rw[z] at h;exact absurd h he
       |some x=>
        rw[z] at h
        simp only[ob] at h
        have A:=b0 K
        have G:=b0 h2
        have I:=b0 O
        have J:=b0 U
        split at h
        ·rename_i Y
         exact⟨x,⟨_,_,_,_,_,_,_,x,ho,A,G,I,J,z,.inl ⟨rfl,eH Y⟩⟩,h⟩
        exact⟨_,⟨_,_,_,_,_,_,_,x,ho,A,G,I,J,z,.inr rfl⟩,h⟩
      exact absurd h he
     exact absurd h he
    exact absurd h he
   exact absurd h he
theorem Hz(f:Nat)(l:List Nat):qP f l=true↔f∈l:=by
 induction l with
 |nil=>simp[qP]
 |cons x r z=>
  show aJ (Nat.beq f x) true (qP f r)=true↔_
  rw[r4]
  by_cases h:f=x
  ·simp[h]
  have:¬(Nat.beq f x=true):=by simpa[sK] using h
  simp[h,this,z]
theorem AZ(f bj:Nat)(ws:List Nat)(x:Nat):x∈wrote f bj ws↔x∈ws∨(x=f∧f<bj):=by
 unfold wrote
 rw[r4,r4]
 by_cases h:bj≤f
 ·rw[az (jy h)]
  constructor
  ·exact .inl
  rintro(z|⟨_,z⟩)
  ·exact z
  omega
 have G:¬(Nat.ble bj f=true):=by simpa using h
 rw[al G]
 by_cases A:qP f ws=true
 ·rw[az A]
  rw[Hz] at A
  constructor
  ·exact .inl
  rintro(z|⟨rfl,_⟩)
  ·exact z
  exact A
 rw[al A]
 simp only[qO]
 constructor
 ·rintro(rfl|z)
  ·exact .inr ⟨rfl,ah⟩
  exact .inl z
 rintro(z|⟨rfl,_⟩)
 ·exact .inr z
 exact .inl rfl
structure Qh(H:aE)(f g off n:Nat)(new:List ax)(H':aE):Prop where
 ex:∃elem es aV lo cs x,H.t.get f=some (.row elem es aV g lo 0 cs)∧lo≤g∧off % es+n≤es∧off/es<g∧new.length=n∧cs.get (off/es)=some x∧
  H'=⟨H.next,H.bj,wrote f H.bj H.ws,H.t.set f (.row elem es aV g g 0 (cs.set (off/es) (if n=es then new else gR x (off % es) new)))⟩
theorem PI{H:aE}{f g off n m:Nat}{new:List ax}{k:aE→aH}{v:ax}{H':aE}(h:wr H f g off n new (.err m) k= .ok v H'):∃H1,Qh H f g off n new H1∧k H1= .ok v H':=by
 cases H with
 |mk next bj ws t=>
  have h:=Mo h
  obtain⟨elem,es,aV,Y,lo,fl,cs,ho,h⟩:=h
  obtain⟨z,h⟩:=gp h
  obtain⟨h2,h⟩:=gp h
  obtain⟨I,h⟩:=gp h
  obtain⟨J,h⟩:=gp h
  obtain⟨K,h⟩:=gp h
  obtain⟨O,h⟩:=gp h
  obtain⟨x,U,A⟩:=jP h
  rw[RT.kG,GT.kG] at A
  have e1:=eH z
  have e2:=eH h2
  have G:=eH O
  rw[pA] at G
  clear h z h2
  subst e1 e2
  refine⟨_,⟨elem,es,aV,lo,cs,x,ho,b0 I,b0 J,b0 K,G,U,?_⟩,A⟩
  rw[r4]
  simp only[sK]
  rfl
structure gO(H H':aE):Prop where
 next:H.next≤H'.next
 bj:H'.bj=H.bj
 ws:∀f,f∈H.ws→f∈H'.ws
 same:∀f,f<H.bj→f∉H'.ws→H'.t.get f=H.t.get f
 wf:(∀f,H.next≤f→H.t.get f=none)→∀f,H'.next≤f→H'.t.get f=none
 jo:∀f,H.t.get f≠none→H'.t.get f≠none
theorem gO.refl(H:aE):gO H H:=⟨bR _,rfl,fun _ h=>h,fun _ _ _=>rfl,fun h=>h,fun _ h=>h⟩
theorem gO.trans{A B C:aE}(h:gO A B)(k:gO B C):gO A C:=
 ⟨kx h.next k.next,k.bj.trans h.bj,fun f z=>k.ws f (h.ws f z),fun f z G=>(k.same f (h.bj▸z) G).trans (h.same f z fun e=>G (k.ws f e)),fun x=>k.wf (h.wf x),fun f x=>k.jo f (h.jo f x)⟩
theorem gO.alloc{H:aE}(o:et)(A:H.bj≤H.next):gO H ⟨H.next+1,H.bj,H.ws,H.t.set H.next o⟩:=
 ⟨tS _,rfl,fun _ h=>h,fun f z _=>by show(H.t.set H.next o).get f=_;rw[GT.eY,al ah],
  fun h f z=>by
  have z:H.next+1≤f:=z
  show(H.t.set H.next o).get f=none
  rw[GT.eY,al ah];exact h f ah,
  fun f z=>by
  show(H.t.set H.next o).get f≠none
  rw[GT.eY]
  split
  ·simp
  exact z⟩
theorem gO.write{H:aE}(f:Nat)(o:et){A:et}(h0:H.t.get f=some A):gO H ⟨H.next,H.bj,wrote f H.bj H.ws,H.t.set f o⟩:=
 ⟨bR _,rfl,fun x z=>(AZ _ _ _ _).2 (.inl z),fun x z G=>by
  show(H.t.set f o).get x=_
  rw[GT.eY]
  split
  ·rename_i e;subst e;exact absurd ((AZ _ _ _ _).2 (.inr ⟨rfl,z⟩)) G
  ·rfl,fun h x z=>by
  have z:H.next≤x:=z
  show(H.t.set f o).get x=none
  rw[GT.eY]
  split
  ·rename_i e;subst e;rw[h x z] at h0;cases h0
  ·exact h x z,fun x z=>by
  show(H.t.set f o).get x≠none
  rw[GT.eY]
  split
  ·simp
  exact z⟩
def TM(H:aE)(r:aH):Prop:=∀v H',r= .ok v H'→gO H H'
theorem TM.err{H:aE}{n:Nat}:TM H (.err n):=fun _ _ h=>by cases h
theorem TM.ok{H:aE}{v:ax}:TM H (.ok v H):=fun _ _ h=>by cases h;exact gO.refl _
theorem TM.aJ{H:aE}{b:Bool}{k e:aH}(h:TM H k)(h':TM H e):TM H (aJ b k e):=by cases b;exact h';exact h
theorem TM.ob{H:aE}{α:Type}{o:Option α}{e:aH}{k:α→aH}(h:∀x,TM H (k x))(h':TM H e):TM H (ob o e k):=by cases o;exact h';exact h _
theorem TM.bI{H:aE}{x:aI}{E:Env}{e:aH}{k:ax→aH}(h:∀x,TM H (k x))(h':TM H e):TM H (bI x E e k):=by
 cases x with
 |t i=>exact TM.ob (o:=E.get i) h h'
 |c a=>exact h a
theorem TM.tv{H:aE}{a:ax}{e:aH}{k:Bool→aH}(h:∀x,TM H (k x))(h':TM H e):TM H (tv a e k):=by cases a<;>first|exact h'|exact h _
theorem TM.gU{H:aE}{a:ax}{e:aH}{k:IntKind→Int→aH}(h:∀x y,TM H (k x y))(h':TM H e):TM H (gU a e k):=by cases a<;>first|exact h'|exact h _ _
theorem TM.j7{H:aE}{a:ax}{e:aH}{k:Nat→Nat→aH}(h:∀x y,TM H (k x y))(h':TM H e):TM H (j7 a e k):=by cases a<;>first|exact h'|exact h _ _
theorem TM.iW{H:aE}{a:ax}{e:aH}{k:Nat→Nat→Nat→aH}(h:∀x y z,TM H (k x y z))(h':TM H e):TM H (iW a e k):=by cases a<;>first|exact h'|exact h _ _ _
theorem TM.hO{H:aE}{a:ax}{e e2:aH}{k:Nat→Nat→Nat→Nat→Nat→aH}(h:∀x y z u w,TM H (k x y z u w))(h2:TM H e2)(h':TM H e):TM H (hO a e e2 k):=by cases a<;>first|exact h'|exact h2|exact h _ _ _ _ _
theorem TM.pN{H:aE}{a:ax}{e:aH}{k:List ax→aH}(h:∀x,TM H (k x))(h':TM H e):TM H (pN a e k):=by cases a<;>first|exact h'|exact h _
theorem TM.th{H:aE}{a:ax}{e:aH}{k:List ax→aH}(h:∀x,TM H (k x))(h':TM H e):TM H (th a e k):=by cases a<;>first|exact h'|exact h _
theorem TM.vc{H:aE}{a:ax}{e:aH}{k:Nat→List ax→List ax→aH}(h:∀x y z,TM H (k x y z))(h':TM H e):TM H (vc a e k):=by cases a<;>first|exact h'|exact h _ _ _
theorem TM.jc{H:aE}{i:Int}{e:aH}{k:Nat→aH}(h:∀x,TM H (k x))(h':TM H e):TM H (jc i e k):=by cases i;exact h _;exact h'
theorem TM.idx{H:aE}{a:ax}{n:Nat}{e:aH}{k:Nat→aH}(h:∀x,TM H (k x))(h':TM H e):TM H (idx a n e k):=TM.gU (fun _ _=>TM.jc (fun _=>TM.aJ (h _) h') h') h'
theorem TM.gH{H:aE}{E:Env}{x:Option aI}{d y:Nat}{e:aH}{k:Nat→aH}(h:∀x,TM H (k x))(h':TM H e):TM H (gH E x d y e k):=by
 cases x with
 |none=>exact h _
 |some z=>exact TM.ob (fun _=>TM.gU (fun _ _=>TM.jc (fun _=>TM.aJ (h _) h') h') h') h'
theorem TM.jt{H:aE}{o:Option et}{e:aH}{k:Nat→Nat→Nat→Nat→Nat→Nat→RT→aH}(h:∀a b c d e f g,TM H (k a b c d e f g))(h':TM H e):TM H (jt o e k):=by
 cases o with
 |none=>exact h'
 |some o=>cases o with
  |row=>exact h _ _ _ _ _ _ _
  |map=>exact h'
theorem TM.jf{H:aE}{agg:Bool}{l:List ax}{e:aH}{k:ax→aH}(h:∀x,TM H (k x))(h':TM H e):TM H (jf agg l e k):=by
 refine TM.aJ (h _) ?_
 cases l with
 |nil=>exact h'
 |cons x r=>cases r with
  |nil=>exact h _
  |cons=>exact h'
theorem TM.dz{H:aE}{n:Nat}{k:Nat→aH}(h:∀x,TM H (k x)):TM H (dz n k):=by rw[iG];exact h _
theorem TM.lR{H:aE}{n:Int}{k:Int→aH}(h:∀x,TM H (k x)):TM H (lR n k):=by rw[sZ];exact h _
theorem TM.nj{H:aE}{n:ax}{k:ax→aH}(h:∀x,TM H (k x)):TM H (nj n k):=by rw[uJ];exact h _
theorem TM.nM{H:aE}{n:Bool}{k:Bool→aH}(h:∀x,TM H (k x)):TM H (nM n k):=by cases n<;>exact h _
theorem TM.Ac{H:aE}{op:BinOp}{a b:ax}:TM H (Ac op a b fun v=>.ok v H):=by rw[Ee];exact TM.ob (fun _=>TM.nj fun _=>TM.ok) TM.err
theorem TM.xv{H:aE}{t:HT}{n:Nat}{o:et}{k:HT→aH}(h:TM H (k (t.set n o))):TM H (t.gV n o k):=by rw[GT.kG];exact h
theorem TM.fill{H:aE}{l:List (List ax)}{t:RT}{i:Nat}{k:RT→aH}(h:TM H (k (jZ l t i))):TM H (tJ l t i k):=by rw[wG];exact h
theorem TM.rep{H:aE}{x:List ax}{n:Nat}{k:RT→aH}(h:TM H (k (oA x n))):TM H (xu x n k):=by rw[D'];exact h
theorem TM.alloc{H:aE}{o:et}{k:Nat→aE→aH}(G:H.bj≤H.next)(hk:∀f z,∃v,k f z= .ok v z):TM H (H.alloc o k):=fun x H' h=>by
 have A:=yd h
 obtain⟨v,I⟩:=hk H.next ⟨H.next+1,H.bj,H.ws,H.t.set H.next o⟩
 rw[I] at A;cases A;exact gO.alloc o G
theorem TM.rd{H:aE}{f g off n:Nat}{e:aH}{k:List ax→aH}(h:∀x,TM H (k x))(h':TM H e):TM H (rd H f g off n e k):=
 TM.jt (fun _ _ _ _ _ _ _=>TM.aJ (TM.aJ (TM.aJ (TM.aJ (TM.ob (fun _=>TM.aJ (h _) (h _)) h') h') h') h') h') h'
theorem TM.ka{H:aE}{elem es aV n:Nat}{new:List (List ax)}{x:ax}(z:H.bj≤H.next):TM H (ka elem es aV n new H x):=by
 cases n with
 |zero=>exact TM.hO (fun _ _ _ _ _=>TM.ok) TM.ok TM.err
 |succ n=>
  refine TM.hO (fun f g off G fA=>?_) (TM.aJ (TM.fill (TM.alloc z (fun _ _=>⟨_,rfl⟩))) TM.err) TM.err
  cases H with
  |mk next bj ws t=>
   show TM _ (Ev.jt (t.get f) _ _)
   cases A:t.get f with
   |none=>exact TM.err
   |some ob=>cases ob with
    |map=>exact TM.err
    |row I J K O U Y Z=>
   refine TM.aJ (TM.aJ (TM.aJ (TM.aJ (TM.aJ (TM.aJ (TM.aJ TM.err (TM.aJ (TM.aJ (TM.dz fun _=>TM.fill (TM.xv ?_)) TM.err) TM.err)) TM.err) TM.err) TM.err) TM.err) TM.err) TM.err
   exact fun v H' h=>by cases h;exact gO.write (H:=⟨next,bj,ws,t⟩) f _ A
theorem TM.wr{H:aE}{f g off n:Nat}{new:List ax}{v:ax}:TM H (wr H f g off n new (.err 5) fun H=>.ok v H):=fun x H' h=>by
 obtain⟨H1,⟨_,_,_,_,_,_,z,_,_,_,_,_,e⟩,h⟩:=PI h
 cases h
 subst e
 exact gO.write f _ z
theorem TM.cw{H:aE}{a b c:Nat}{d:List ax}{E:Env}(z:H.bj≤H.next):TM H (xf a b c d E H):=
 TM.alloc (o:=.row a b c 1 1 0 (.one d)) (k:=fun f H=>.ok (.ptr f 1 0) H) z (fun _ _=>⟨_,rfl⟩)
theorem TM.nd{H:aE}{f e:Nat}{v:ax}:TM H (nd f e H fun H=>.ok v H):=by
 cases H with
 |mk next bj ws t=>
  show TM _ (Ev.jt (t.get f) _ _)
  cases z:t.get f with
  |none=>exact TM.err
  |some ob=>cases ob with
   |map=>exact TM.err
   |row A G I J K O U=>
   refine TM.aJ (TM.aJ (TM.aJ (TM.xv ?_) TM.err) TM.err) TM.err
   exact fun v H' h=>by cases h;exact gO.write (H:=⟨next,bj,ws,t⟩) f _ z
theorem TM.ins{call:fc}{H:aE}(z:H.bj≤H.next)(A:∀f a,TM H (call f a H))(E:Env)(o:bP):TM H (o.ev call E H):=by
 cases o with
 |o4 x=>exact TM.bI (fun _=>TM.ok) TM.err
 |pick c a b=>exact TM.bI (fun _=>TM.tv (fun _=>TM.aJ (TM.bI (fun _=>TM.ok) TM.err) (TM.bI (fun _=>TM.ok) TM.err)) TM.err) TM.err
 |cw a b c d=>exact TM.cw (E:=E) z
 |box a b c d=>exact TM.bI (fun _=>TM.ob (fun _=>TM.aJ (TM.cw (E:=E) z) TM.err) TM.err) TM.err
 |load a b c=>exact TM.bI (fun _=>TM.iW (fun _ _ _=>TM.rd (fun _=>TM.jf (fun _=>TM.ok) TM.err) TM.err) TM.err) TM.err
 |store a b c=>exact TM.bI (fun _=>TM.iW (fun _ _ _=>TM.bI (fun _=>TM.ob (fun _=>TM.wr) TM.err) TM.err) TM.err) TM.err
 |bin op x y=>exact TM.bI (fun _=>TM.bI (fun _=>TM.Ac) TM.err) TM.err
 |eqv c n x y=>exact TM.bI (fun _=>TM.bI (fun _=>TM.ob (fun _=>TM.nM fun _=>TM.ok) TM.err) TM.err) TM.err
 |un op x=>exact TM.bI (fun _=>TM.ob (fun _=>TM.nj fun _=>TM.ok) TM.err) TM.err
 |oT x k=>exact TM.bI (fun _=>TM.iW (fun _ _ _=>TM.dz fun _=>TM.ok) TM.err) TM.err
 |sub x a b c=>exact TM.bI (fun _=>TM.pN (fun _=>TM.aJ (TM.jf (fun _=>TM.ok) TM.err) TM.err) TM.err) TM.err
 |eb a b x i=>exact TM.bI (fun _=>TM.iW (fun _ _ _=>TM.bI (fun _=>TM.idx (fun _=>TM.dz fun _=>TM.ok) TM.err) TM.err) TM.err) TM.err
 |dV a x i=>exact TM.bI (fun _=>TM.hO (fun _ _ _ _ _=>TM.bI (fun _=>TM.idx (fun _=>TM.dz fun _=>TM.ok) TM.err) TM.err) TM.err TM.err) TM.err
 |BA a b c x i=>exact TM.bI (fun _=>TM.pN (fun _=>TM.bI (fun _=>TM.idx (fun _=>TM.aJ (TM.jf (fun _=>TM.ok) TM.err) TM.err) TM.err) TM.err) TM.err) TM.err
 |tu x i=>exact TM.bI (fun _=>TM.j7 (fun _ _=>TM.bI (fun _=>TM.idx (fun _=>TM.dz fun _=>TM.ok) TM.err) TM.err) TM.err) TM.err
 |js x a b=>exact TM.bI (fun _=>TM.j7 (fun _ _=>TM.gH (fun _=>TM.gH (fun _=>TM.dz fun _=>TM.dz fun _=>TM.ok) TM.err) TM.err) TM.err) TM.err
 |pS n x a b=>exact TM.bI (fun _=>TM.hO (fun _ _ _ _ _=>TM.aJ (TM.gH (fun _=>TM.gH (fun _=>TM.dz fun _=>TM.dz fun _=>TM.ok) TM.err) TM.err) TM.err) (TM.gH (fun _=>TM.gH (fun _=>TM.ok) TM.err) TM.err) TM.err) TM.err
 |xe k n x a b=>exact TM.bI (fun _=>TM.iW (fun _ _ _=>TM.jt (fun _ _ _ _ _ _ _=>TM.aJ (TM.aJ (TM.aJ (TM.gH (fun _=>TM.gH (fun _=>TM.dz fun _=>TM.dz fun _=>TM.ok) TM.err) TM.err) TM.err) TM.err) TM.err) TM.err) TM.err) TM.err
 |sF x i=>exact TM.bI (fun _=>TM.th (fun _=>TM.ob (fun _=>TM.ok) TM.err) TM.err) TM.err
 |pM x=>exact TM.bI (fun _=>TM.aJ TM.ok TM.err) TM.err
 |oU f G l=>exact TM.ob (fun _=>TM.ob (fun _=>TM.ok) TM.err) TM.err
 |vT t x=>exact TM.bI (fun _=>TM.ok) TM.err
 |tZ a b c d e f=>exact TM.bI (fun _=>TM.gU (fun _ _=>TM.jc (fun _=>TM.bI (fun _=>TM.gU (fun _ _=>TM.jc (fun _=>TM.aJ (TM.aJ (TM.aJ (TM.rep (TM.alloc z (fun _ _=>⟨_,rfl⟩))) TM.err) TM.err) TM.err) TM.err) TM.err) TM.err) TM.err) TM.err) TM.err
 |build a b=>exact TM.ob (fun _=>TM.ok) TM.err
 |cG a b c d e f=>exact TM.ob (fun _=>TM.alloc z (fun _ _=>⟨_,rfl⟩)) TM.err
 |len x=>exact TM.bI (fun _=>TM.hO (fun _ _ _ _ _=>TM.ok) TM.ok TM.err) TM.err
 |Cx n=>exact TM.ok
 |pT x=>exact TM.bI (fun _=>TM.j7 (fun _ _=>TM.ok) TM.err) TM.err
 |app a b c x y=>exact TM.bI (fun _=>TM.bI (fun _=>TM.hO (fun _ _ _ _ _=>TM.ob (fun _=>TM.ka z) TM.err) (TM.ka z) TM.err) TM.err) TM.err
 |rY a x y=>exact TM.bI (fun _=>TM.bI (fun _=>TM.j7 (fun _ _=>TM.ka z) TM.err) TM.err) TM.err
 |copy a b c=>exact TM.err
 |BB a b c=>exact TM.bI (fun _=>TM.gU (fun _ _=>TM.ob (fun _=>TM.ob (fun _=>TM.ok) TM.err) TM.err) TM.err) TM.err
 |conv k x=>exact TM.bI (fun _=>TM.gU (fun _ _=>TM.lR fun _=>TM.ok) TM.err) TM.err
 |EC x=>exact TM.bI (fun _=>TM.ok) TM.err
 |yB e x=>exact TM.bI (fun _=>TM.j7 (fun _ _=>TM.aJ (TM.fill (TM.alloc z (fun _ _=>⟨_,rfl⟩))) TM.err) TM.err) TM.err
 |nN x=>exact TM.bI (fun _=>TM.hO (fun _ _ _ _ _=>TM.ob (fun _=>TM.ob (fun _=>TM.dz fun _=>TM.ok) TM.err) TM.err) TM.ok TM.err) TM.err
 |call f l=>exact TM.ob (fun _=>A _ _) TM.err
 |ns x l=>exact TM.bI (fun _=>TM.vc (fun _ _ _=>TM.ob (fun _=>A _ _) TM.err) TM.err) TM.err
 |rl t n x=>exact TM.bI (fun _=>TM.aJ TM.ok (TM.iW (fun _ _ _=>TM.jt (fun _ _ _ _ _ _ _=>TM.aJ (TM.aJ (TM.aJ (TM.aJ (TM.aJ (TM.aJ (TM.aJ TM.ok TM.err) TM.err) TM.err) TM.err) TM.err) TM.err) TM.err) TM.err) TM.err)) TM.err
 |wa x=>exact TM.bI (fun _=>TM.hO (fun _ _ _ _ _=>TM.aJ TM.err TM.ok) TM.ok TM.err) TM.err
 |rA e x n=>exact TM.bI (fun _=>TM.aJ (TM.bI (fun _=>TM.gU (fun _ _=>TM.jc (fun _=>TM.aJ (TM.aJ TM.ok TM.err) TM.err) TM.err) TM.err) TM.err) (TM.iW (fun _ _ _=>TM.bI (fun _=>TM.gU (fun _ _=>TM.jc (fun _=>TM.aJ (TM.aJ (TM.aJ (TM.aJ (TM.ob (fun _=>TM.ob (fun _=>TM.dz fun _=>TM.nd) TM.err) TM.err) TM.err) TM.err) TM.err) TM.err) TM.err) TM.err) TM.err) TM.err)) TM.err
mutual
theorem DX(ρ:Ho):∀(v:Value)(a:ax),ld v=some a→VR ρ a v
 |.bool b,a,h=>by simp only[ld,ia] at h;subst h;simp[VR]
 |.int k n,a,h=>by simp only[ld,ia] at h;subst h;simp[VR]
 |.float _ _,a,h=>by simp[ld] at h
 |.complex _ _ _,a,h=>by simp[ld] at h
 |.string s,a,h=>by simp only[ld,ia] at h;subst h;simp only[VR];exact⟨s,rfl,rfl,rfl⟩
 |.pointer none,a,h=>by simp only[ld,ia] at h;subst h;simp[VR]
 |.pointer (some _),a,h=>by simp[ld] at h
 |.slice none l c,a,h=>by
  unfold ld at h
  split at h<;>simp_all
  subst h
  simp[VR]
 |.slice (some _) _ _,a,h=>by simp[ld] at h
 |.map none,a,h=>by simp only[ld,ia] at h;subst h;simp[VR]
 |.map (some _),a,h=>by simp[ld] at h
 |.chan _,a,h=>by simp[ld] at h
 |.func _ _ _,a,h=>by simp[ld] at h
 |.nilFunc,a,h=>by simp only[ld,ia] at h;subst h;simp[VR]
 |.iface _ _,a,h=>by simp[ld] at h
 |.nilIface,a,h=>by simp only[ld,ia] at h;subst h;simp[VR]
 |.agg ⟨cs⟩,a,h=>by
  unfold ld at h
  split at h
  ·rename_i l z
   split at h
   ·rename_i hk
    cases h
    simp only[VR]
    exact⟨_,rfl,LA ρ cs l z,hk⟩
   cases h
  cases h
 |.tuple _,a,h=>by simp[ld] at h
theorem LA(ρ:Ho):∀(l:List Value)(z:List ax),BJ l=some z→cP ρ z l
 |[],z,h=>by simp only[BJ,ia] at h;subst h;rfl
 |v::r,z,h=>by
  unfold BJ at h
  split at h
  ·rename_i x l A h2
   cases h
   exact⟨v,r,rfl,DX ρ v x A,LA ρ r l h2⟩
  cases h
end
def Af(P:Program)(g:Nat):Bool:=match P.globals[g]?with|some v=>v.name== "strconv.ErrRange"|none=>false
def vE(P:Program)(ρ:Ho):Prop:=∀g,g<P.globals.size→∃h,ρ g 1=some h∧h.ct=g∧h.off=0∧(Af P g=true→h.ro=true∧h.nf=true)
def zO(P:Program)(w:World):Prop:=∀g,g<P.globals.size→g<w.heap.size∧(Af P g=true→∃z A,w.cell? ⟨g,0,none⟩=some (.iface z A))
structure AR(P:Program)(ρ:Ho)(nt:Nat)(E:Env)(a:Act):Prop where
 size:a.tmps.size=nt
 defers:a.defers=[]
 tmp:∀t v,E.get t=some v→∃cv,a.tmps[t.n]?=some cv∧VR ρ v cv
 sG:vE P ρ
theorem AR.mono{P:Program}{ρ ρ':Ho}{nt:Nat}{E:Env}{a:Act}(h:AR P ρ nt E a)(A:ρ.le ρ'):AR P ρ' nt E a:=
 ⟨h.size,h.defers,fun t v e=>let⟨cv,z,h2⟩:=h.tmp t v e;⟨cv,z,h2.mono A⟩,fun g G=>let⟨x,z,h2⟩:=h.sG g G;⟨x,A _ _ _ z,h2⟩⟩
theorem AR.put{P:Program}{ρ:Ho}{nt:Nat}{E:Env}{a:Act}(h:AR P ρ nt E a){d:Key}(z:d.n<nt){v:ax}{cv:Value}(A:VR ρ v cv):AR P ρ nt (E.set d v) (a.put (some d.n) cv):=by
 refine⟨by simp[Act.put,h.size],by simp[Act.put,h.defers],fun t x e=>?_,h.sG⟩
 rw[T4.eY] at e
 split at e
 ·rename_i he
  subst he
  cases e
  exact⟨cv,by simp[Act.put,h.size,z],A⟩
 rename_i he
 obtain⟨y,G,k⟩:=h.tmp t x e
 exact⟨y,by simp only[Act.put];rw[Array.getElem?_setIfInBounds_ne (fun e=>he (Key.inj e.symm))];exact G,k⟩
section
variable{P:Program}{ρ:Ho}{nt:Nat}{E:Env}{a:Act}
theorem AR.ch(h:AR P ρ nt E a){x:Operand}{y:aI}{v:ax}(ho:dH P x=some y)(z:y.ev E=some v):VR ρ v (a.eval x):=by
 cases x with
 |tmp t=>
  simp only[dH] at ho
  split at ho
  ·rename_i G
   cases ho
   obtain⟨cv,A,h2⟩:=h.tmp (pk t) v z
   rw[xp G] at A
   simp only[Act.eval]
   rw[vR,A]
   exact h2
  cases ho
 |const c=>
  simp only[dH] at ho
  split at ho
  ·rename_i w I
   cases ho
   cases z
   exact DX ρ _ _ I
  cases ho
 |global g=>
  simp only[dH] at ho
  split at ho
  ·rename_i J
   cases ho
   cases z
   obtain⟨x,K,rfl,h2,_⟩:=h.sG g J
   simp only[VR,Act.eval]
   exact⟨x,K,by simp[h2]⟩
  cases ho
 |func f=>
  simp only[dH,ia] at ho
  subst ho
  cases z
  simp only[VR,Act.eval]
  exact⟨#[],#[],rfl,by simp only[cP],by simp only[cP]⟩
theorem AR.dX(h:AR P ρ nt E a):∀{xs:List Operand}{ys:List aI}{vs:List ax},lS P xs=some ys→ki E ys=some vs→cP ρ vs (xs.map a.eval)
 |[],ys,vs,ho,A=>by
  simp only[lS,ia] at ho
  subst ho
  cases A
  rfl
 |x::r,ys,vs,ho,A=>by
  simp only[lS] at ho
  split at ho
  ·rename_i y l I J
   cases ho
   have z:ob (y.ev E) none (fun v=>ob (ki E l) none fun vs=>some (v::vs))=some vs:=A
   cases G:y.ev E with
   |none=>rw[G] at z;cases z
   |some v=>
    rw[G] at z
    cases h2:ki E l with
    |none=>rw[h2] at z;cases z
    |some K=>
     rw[h2] at z
     cases z
     exact⟨_,_,rfl,h.ch I G,AR.dX h J h2⟩
  cases ho
end
def fP(P:Program)(o:Oper)(a:Act)(w:World)(Φ:Value→World→Prop):Prop:=
 (∃cv w',(execOp a.eval o).run P w= .ok (.value cv) w'∧Φ cv w')∨
 (∃w',(execOp a.eval o).run P w= .ok .skip w'∧Φ undef w')∨
 (∃f args,(execOp a.eval o).run P w= .ok (.enter f args) w∧Calls P f args w fun e w'=>∃cv,e= .returned cv∧Φ cv w')
theorem Lb{P:Program}{o:Oper}{a:Act}{w:World}{Φ:Value→World→Prop}{K:Act→World→Prop}{Q:Exit→Act→World→Prop}
  (h:fP P o a w Φ) (hk:∀cv w',Φ cv w'→K (a.put o.dst cv) w'):o.wp P a w K Q:=by
 unfold Oper.wp
 rcases h with⟨cv,w',e,hp⟩|⟨w',e,hp⟩|⟨f,args,e,hp⟩
 ·rw[e];exact hk _ _ hp
 ·rw[e];exact hk _ _ hp
 rw[e]
 refine Calls.mono hp fun e w' he=>?_
 obtain⟨cv,rfl,hp⟩:=he
 exact hk _ _ hp
def gY(C:Nat→Option et)(H H':aE)(f:Nat):Option et:=
 open Classical in
 if H.next≤f∧f<H'.next then H'.t.get f else if H'.t.get f=H.t.get f then C f else H'.t.get f
def Wr(H':aE)(f:Nat):Prop:=f∈H'.ws∨H'.bj≤f
def ez(ρ:Ho)(C:Nat→Option et)(w:World)(H:aE)(v:ax)(H':aE)(cv:Value)(w':World):Prop:=
 ∃ρ',VR ρ' v cv∧Ext (Wr H') H.next H'.next ρ ρ' w w'∧R ρ' (gY C H H') w'
theorem qe(C:Nat→Option et)(H:aE):gY C H H=C:=by
 funext f
 unfold gY
 rw[al ah,az rfl]
theorem ez.pure{ρ:Ho}{C:Nat→Option et}{w:World}{H:aE}{v:ax}{cv:Value}(z:R ρ C w)(A:VR ρ v cv):ez ρ C w H v H cv w:=
 ⟨ρ,A,Ext.refl _ _ _ _,by rw[qe];exact z⟩
theorem Ef{a b:IntKind}(h:Nat.beq (dO a) (dO b)=true):a=b:=by cases a<;>cases b<;>first|rfl|cases h
theorem pG(a b:Int):lN a b=decide (a<b):=by
 rw[gE,decide_eq_true_iff]
 cases a with
 |ofNat a=>cases b with
  |ofNat b=>simp only[lN,Nat.ble_eq,bN];omega
  |negSucc b=>simp only[lN,bN,mj,qN,false_iff];omega
 |negSucc a=>cases b with
  |ofNat b=>simp only[lN,bN,mj,true_iff];omega
  |negSucc b=>simp only[lN,Nat.ble_eq,mj];omega
theorem ve(a b:Int):mK a b=decide (a=b):=by
 rw[gE,decide_eq_true_iff]
 cases a with
 |ofNat a=>cases b with
  |ofNat b=>simp only[mK,sK,bN];omega
  |negSucc b=>simp only[mK,bN,mj,qN,false_iff];omega
 |negSucc a=>cases b with
  |ofNat b=>simp only[mK,bN,mj,qN,false_iff];omega
  |negSucc b=>simp only[mK,sK,mj];omega
theorem KS(a b:List UInt8):pack (a++b)=pack a+256^a.length*pack b:=by
 induction a with
 |nil=>simp[pack]
 |cons x r z=>
  simp only[As,pack,z,cV,z7]
  rw[Nat.mul_add,←nx,←Co,ny 256 (256^r.length)]
theorem M7(a:List UInt8):pack a<256^a.length:=by
 induction a with
 |nil=>simp[pack]
 |cons x r z=>
  simp only[pack,cV,z7]
  have:x.toNat<256:=x.toNat_lt
  omega
theorem DI(l:List UInt8)(i:Nat):pack l/256^i=pack (l.drop i):=by
 induction i generalizing l with
 |zero=>simp
 |succ i z=>
  cases l with
  |nil=>simp[pack]
  |cons x r=>
   simp only[pack,List.drop_succ_cons]
   have A:x.toNat<256:=x.toNat_lt
   have e:(x.toNat+256*pack r)/256=pack r:=by omega
   rw[z7,ny (256^i) 256,←Nat.div_div_eq_div_mul,e,z]
theorem DJ(l:List UInt8)(n:Nat):pack l % 256^n=pack (l.take n):=by
 by_cases h:n≤l.length
 ·have z:pack l=pack (l.take n)+256^n*pack (l.drop n):=by
   have:=KS (l.take n) (l.drop n)
   rw[FQ,jH,Nat.min_eq_left h] at this
   exact this
  have h2:=M7 (l.take n)
  rw[jH,Nat.min_eq_left h] at h2
  rw[z,Nat.add_mul_mod_self_left,Cp h2]
 have h':l.length≤n:=by omega
 rw[pR h']
 refine Cp (m9 (M7 l) ?_)
 exact Cq ah h'
theorem Jr(i:Nat):2^(8*i)=256^i:=by rw[Nat.pow_mul]
theorem Qi(v i:Nat):Nat.shiftRight v (Nat.mul 8 i)=v/256^i:=by
 show v>>>(8*i)=_
 rw[Nat.shiftRight_eq_div_pow,Jr]
theorem KT(l:List UInt8)(i:Nat)(h:i<l.length):wZ (pack l) i=(l[i]).toNat:=by
 unfold wZ
 rw[Qi,DI]
 show pack (l.drop i) % 256=_
 have z:=DJ (l.drop i) 1
 rw[Cr] at z
 have e:(l.drop i).take 1=[l[i]]:=by rw[Cs h];rfl
 rw[e] at z
 rw[z]
 show l[i].toNat+256*0=_
 omega
theorem KU(l:List UInt8)(lo hi:Nat):yC (pack l) lo hi=pack ((l.drop lo).take (hi-lo)):=by
 unfold yC
 rw[Qi,DI,←DJ]
 show _ % (1<<<(8*(hi-lo)))=_
 rw[Nat.shiftLeft_eq,tT,Jr]
theorem Dx(a b:List UInt8):vd a.length (pack a) (pack b)=pack (a++b):=by
 unfold vd
 rw[KS]
 show pack a+(pack b)<<<(8*a.length)=_
 rw[Nat.shiftLeft_eq,Jr,ny]
theorem Mp:∀{a b:List UInt8},a.length=b.length→pack a=pack b→a=b
 |[],[],_,_=>rfl
 |[],_::_,h,_=>by simp at h
 |_::_,[],h,_=>by simp at h
 |x::r,y::s,h,k=>by
  simp only[pack] at k
  have z:x.toNat<256:=x.toNat_lt
  have A:y.toNat<256:=y.toNat_lt
  have e1:x.toNat=y.toNat:=by omega
  have e2:pack r=pack s:=by omega
  rw[Mp (by simpa using h) e2,UInt8.toNat_inj.1 e1]
theorem DD(a b:List UInt8):sr a.length (pack a) b.length (pack b)=decide (a=b):=by
 unfold sr
 rw[gE,decide_eq_true_iff]
 constructor
 ·intro h
  split at h
  ·rename_i z
   exact Mp (eH z) (eH h)
  cases h
 rintro rfl
 simp
theorem Lc:∀(a b:List UInt8),strLt a.length (pack a) b.length (pack b)=Op.bytesLess a b
 |[],[]=>rfl
 |[],_::_=>rfl
 |x::r,[]=>rfl
 |x::r,y::s=>by
  have J:x.toNat<256:=x.toNat_lt
  have K:y.toNat<256:=y.toNat_lt
  have e1:Nat.mod (pack (x::r)) 256=x.toNat:=by show(x.toNat+256*pack r) % 256=_;omega
  have e2:Nat.mod (pack (y::s)) 256=y.toNat:=by show(y.toNat+256*pack s) % 256=_;omega
  have z:Nat.div (pack (x::r)) 256=pack r:=by show(x.toNat+256*pack r)/256=_;omega
  have A:Nat.div (pack (y::s)) 256=pack s:=by show(y.toNat+256*pack s)/256=_;omega
  have step:strLt (x::r).length (pack (x::r)) (y::s).length (pack (y::s))=
    match Nat.beq (Nat.mod (pack (x::r)) 256) (Nat.mod (pack (y::s)) 256) with
    |true=>strLt r.length (Nat.div (pack (x::r)) 256) s.length (Nat.div (pack (y::s)) 256)
    |false=>Nat.ble (Nat.succ (Nat.mod (pack (x::r)) 256)) (Nat.mod (pack (y::s)) 256):=rfl
  rw[step,e1,e2,z,A,Lc r s]
  simp only[Op.bytesLess]
  by_cases h:x=y
  ·subst h
   have:¬(x<x):=by rw[Ct];omega
   simp[this]
  have G:Nat.beq x.toNat y.toNat=false:=by
   rw[←Gs,sK]
   exact fun e=>h (UInt8.toNat_inj.1 e)
  rw[G]
  have I:(x==y)=false:=by simpa using h
  simp only[I,Bool.false_and,Bool.or_false]
  rw[gE,Nat.ble_eq,decide_eq_true_iff,Ct]
  exact Iff.rfl
end Go.Ev
