/- Part 2 of rules for walks through the code of a program, and of such walks; what each part proves is said by its theorems. -/
import Derived.Test.YtijnechfhdlgiaaGreatDoorS1
import GoSem.Core.Layout
import GoSem.ClaimKeys
import Derived.IntWalk
import Derived.Deep.AppendSrc
import Derived.RowKit3
set_option linter.unusedVariables false
set_option linter.unusedSimpArgs false
namespace Go.Ev
mutual
def kD:Value→Option an
 |.bool b=>some (.bool b)
 |.int k n=>some (.int k n)
 |.string s=>some (.str s.size (pack s.data.toList))
 |.pointer none=>some .ik
 |.slice none 0 0=>some .cg
 |.nilIface=>some .gS
 |.nilFunc=>some .nQ
 |.map none=>some .ud
 |.agg cs=>match Ah cs.toList with
  |some l=>if l.all hD then some (.agg l) else none
  |none=>none
 |_=>none
def Ah:List Value→Option (List an)
 |[]=>some []
 |v::r=>match kD v,Ah r with
  |some a,some l=>some (a::l)
  |_,_=>none
end
def cellsOf:an→Option (List an)
 |.agg cs=>some cs
 |.tuple _=>none
 |.undef=>none
 |v=>some [v]
def dm(P:Program):Operand→Option aF
 |.tmp t=>if t<1296 then some (.t (pk t)) else none
 |.const v=>match kD v with|some a=>some (.c a)|none=>none
 |.global g=>if g<P.globals.size then some (.c (.ptr g 1 0)) else none
 |.func f=>some (.c (.func f [] []))
def lp(P:Program):List Operand→Option (List aF)
 |[]=>some []
 |x::r=>match dm P x,lp P r with
  |some a,some l=>some (a::l)
  |_,_=>none
def zeroOf(P:Program)(t:TypeId):Option (List an):=
 match P.info? t with
 |some i=>match i.zero with
  |some z=>match kD z with
   |some v=>match cellsOf v with
    |some l=>if l.length=i.size∧0<i.size then some l else none
    |none=>none
   |none=>none
  |none=>none
 |none=>none
def pS(P:Program)(t:TypeId):Bool:=match P.underlying t with|some (.struct _)=>true|some (.array _ _)=>true|_=>false
def bad:bG:=.mU (.c .ik) []
def Ib(P:Program):TypeDesc→Option yW
 |.bool=>some .bool
 |.pointer e=>match P.info? e with|some _=>some .ptr|none=>none
 |.slice _=>some .slice
 |.interface _=>some .iface
 |.func _ _ _=>some .func
 |.map _ _=>some .map
 |_=>none
def xf:Operand→Bool
 |.const _=>true
 |_=>false
def Dc(x y:Operand):TypeDesc→Bool
 |.interface ms=>ms.isEmpty||xf x||xf y
 |_=>true
def CE(P:Program)(g:TypeId→Option (List Nat)):Nat→List Field→Option (List Nat)
 |_,[]=>some []
 |off,f::r=>match g f.type with
  |some k=>if f.offset=off∧k.length=P.cellsOf f.type then
    match CE P g (off+k.length) r with
    |some l=>some (k++l)
    |none=>none
   else none
  |none=>none
def tV(P:Program):Nat→TypeId→Option (List Nat)
 |0,_=>none
 |d+1,t=>match P.underlying t with
  |some .bool=>some [100]
  |some (.int k)=>some [dw k]
  |some .string=>some [101]
  |some (.struct z)=>match CE P (tV P d) 0 z.toList with
   |some ks=>if ks.length=P.cellsOf t∧z.all (·.name != "_")=true then some ks else none
   |none=>none
  |_=>none
def Ic(P:Program)(op:BinOp)(t:TypeId)(x y:aF):Option bG:=
 match tV P 12 t with
 |some ks=>if P.keyTypeAt 12 t=true∧P.eqGuardType P.depth t=false then
   match op with
   |.eql=>some (.eqv (.agg ks) false x y)
   |.neq=>some (.eqv (.agg ks) true x y)
   |_=>none
  else none
 |none=>none
def II(P:Program)(op:BinOp)(d:TypeDesc)(z A:Operand)(x y:aF):Option bG:=
 match Ib P d with
 |some c=>if Dc z A d=true then
   match op with
   |.eql=>some (.eqv c false x y)
   |.neq=>some (.eqv c true x y)
   |_=>none
  else none
 |none=>none
def OO(P:Program)(op:BinOp)(t:TypeId)(z A:Operand)(x y:aF):Option bG:=
 match P.underlying t with
 |some (.int _)=>some (.bin op x y)
 |some .string=>some (.bin op x y)
 |some (.struct _)=>Ic P op t x y
 |some d=>II P op d z A x y
 |none=>none
def jK(P:Program)(t:TypeId):Option Nat:=match P.info? t,P.underlying t with|some i,some _=>if i.size≠0 then some i.size else none|_,_=>none
def CF(P:Program)(t:TypeId)(x:aF):Option bG:=
 match P.info? t with
 |some j=>if j.size≠0 then some (.qC t (P.cellsOf t) x) else none
 |none=>none
def G'(P:Program)(src dst:TypeId)(x:aF):Option bG:=
 match P.underlying src,P.underlying dst with
 |some .string,some (.slice e)=>match P.underlying e with
  |some (.int .u8)=>some (.xF e x)
  |_=>none
 |some (.slice e),some .string=>match P.underlying e with
  |some (.int .u8)=>some (.qv x)
  |_=>none
 |some (.pointer t),some .unsafePointer=>CF P t x
 |some .unsafePointer,some (.pointer t)=>CF P t x
 |_,_=>none
def M'(P:Program)(src dst:TypeId)(x:aF):Option bG:=
 match P.underlying src,P.underlying dst with
 |some (.int _),some (.int k)=>some (.conv k x)
 |_,_=>G' P src dst x
def xJ(P:Program)(place:Nat→Option (Nat×Nat)):List (Nat×Operand)→Option (List (Nat×Nat×aF))
 |[]=>some []
 |(i,x)::r=>match place i,dm P x,xJ P place r with
  |some q,some y,some l=>some ((q.1,q.2,y)::l)
  |_,_,_=>none
def CG(P:Program):List (Nat×Operand)→Option (List (Nat×aF))
 |[]=>some []
 |(i,x)::r=>match dm P x,CG P r with
  |some y,some l=>some ((i,y)::l)
  |_,_=>none
def pT(P:Program):Option Operand→Option (Option aF)
 |none=>some none
 |some x=>match dm P x with|some y=>some (some y)|none=>none
def CH(z:List an):Option (List (Nat×Nat×aF))→Option bG
 |some l=>if(l.all fun p=>decide (p.1+p.2.1≤z.length))=true then some (.build z l) else none
 |none=>none
def Ha(P:Program)(t:TypeId)(parts:List (Nat×Operand)):Option bG:=
 match zeroOf P t with
 |some z=>match P.underlying t with
  |some (.struct I)=>match I.toList.mapM (fun f=>(P.info? f.type).map fun i=>(f.offset,i.size)) with
   |some A=>CH z (xJ P (fun i=>A.toArray[i]?) parts)
   |none=>none
  |some (.array _ e)=>match P.info? e with
   |some G=>CH z (xJ P (fun i=>some (i*G.size,G.size)) parts)
   |none=>none
  |_=>none
 |none=>none
def GD(P:Program)(t:TypeId)(A:Nat)(parts:List (Nat×Operand)):Option bG:=
 match P.underlying t with
 |some (.slice e)=>match P.info? e,zeroOf P e with
  |some i,some z=>match CG P parts with
   |some l=>if A*i.size≤16777216 then some (.cK e i.size i.bytes A z l) else none
   |none=>none
  |_,_=>none
 |_=>none
def HA(P:Program)(t:TypeId)(a b:aF):Option bG:=
 match P.underlying t with
 |some (.slice e)=>match P.info? e,zeroOf P e with
  |some i,some z=>if i.bytes≠0 then some (.yC e i.size i.bytes z a b) else none
  |_,_=>none
 |_=>none
def Uk(_:Program)(_:TypeId)(_:aF)(_ _:Option aF):Option bG:=none
def Lv(mx:Bool):List aF→Option bG
 |x::r=>some (.z7 mx x r)
 |[]=>none
def Ul(_:Program)(_:Op):Option bG:=none
def HB(P:Program)(c:Call):Option bG:=
 match c.callee,lp P c.args.toList with
 |.value f,some args=>match f with
  |.func f=>some (.call f args)
  |f=>match dm P f with|some y=>some (.mU y args)|none=>none
 |.builtin .len,some [x]=>match c.argTypes[0]?with
  |some t=>match P.underlying t with
   |some .string=>some (.ph x)
   |some (.slice _)=>some (.len x)
   |some (.array n _)=>some (.A1 n)
   |_=>none
  |none=>none
 |.builtin .append,some [x,y]=>match c.argTypes[0]?,c.argTypes[1]?with
  |some t,some u=>match P.underlying t,P.underlying u with
   |some (.slice e),some (.slice _)=>match P.info? e,zeroOf P e with
    |some i,some _=>if i.bytes≠0 then some (.app e i.size i.bytes x y) else none
    |_,_=>none
   |some (.slice e),some .string=>match P.info? e,zeroOf P e with
    |some i,some _=>if i.size=1∧i.bytes=1 then some (.re e x y) else none
    |_,_=>none
   |_,_=>none
  |_,_=>none
 |.builtin .unsafeSliceData,some [x]=>some (.ve x)
 |.builtin .unsafeString,some [x,y]=>match c.argTypes.toList with
  |[z,_]=>match P.underlying z with
   |some (.pointer e)=>if P.cellsOf e=1 then some (.qJ e x y) else none
   |_=>none
  |_=>none
 |.builtin .min,some l=>Lv false l
 |.builtin .max,some l=>Lv true l
 |_,_=>none
def A'(P:Program)(o:Op):Option bG:=
 match o with
 |.move x=>match dm P x with|some y=>some (.oc y)|none=>none
 |.assign x=>match dm P x with|some y=>some (.oc y)|none=>none
 |.pick c a b=>match dm P c,dm P a,dm P b with|some c,some a,some b=>some (.pick c a b)|_,_,_=>none
 |.alloc t=>match zeroOf P t,P.info? t with|some z,some i=>some (.cm t i.size i.bytes z)|_,_=>none
 |.box t x=>match jK P t,P.info? t,dm P x with|some n,some i,some y=>some (.box t n i.bytes y)|_,_,_=>none
 |.build t parts=>Ha P t parts.toList
 |.buildSlice t I parts=>GD P t I parts.toList
 |.load t a=>match jK P t,dm P a with|some n,some y=>some (.load n (pS P t) y)|_,_=>none
 |.store t a x=>match jK P t,dm P a,dm P x with|some n,some y,some z=>some (.store n y z)|_,_,_=>none
 |.nilCheck x=>match dm P x with|some y=>some (.o8 y)|none=>none
 |.binOp op t x y _=>match dm P x,dm P y with|some a,some b=>OO P op t x y a b|_,_=>none
 |.unOp op _ x=>match dm P x with|some y=>some (.un op y)|none=>none
 |.convert src dst x=>match dm P x with|some y=>M' P src dst y|none=>none
 |.makeInterface t x=>match P.underlying t,dm P x with
  |some (.interface _),_=>none
  |some _,some y=>some (.uY t y)
  |_,_=>none
 |.makeFunc (.func f) first eJ=>match lp P first.toList,lp P eJ.toList with|some G,some l=>some (.n6 f G l)|_,_=>none
 |.makeSlice t I J=>match dm P I,dm P J with|some a,some b=>HA P t a b|_,_=>none
 |.slice t x lo hi none=>match P.underlying t,dm P x,pT P lo,pT P hi with
  |some .string,some x,some lo,some hi=>some (.ji x lo hi)
  |some (.slice e),some x,some lo,some hi=>match jK P e with|some n=>some (.pg n x lo hi)|none=>none
  |some _,some x,some lo,some hi=>Uk P t x lo hi
  |_,_,_,_=>none
 |.fieldAddr s x f=>match P.underlying s,dm P x with
  |some (.struct G),some y=>match G[f]?with
   |some A=>match jK P A.type with|some _=>some (.n5 y A.offset)|none=>none
   |none=>none
  |_,_=>none
 |.field s x f=>match P.underlying s,dm P x with
  |some (.struct G),some y=>match G[f]?with
   |some A=>match jK P A.type with|some n=>some (.sub y A.offset n (pS P A.type))|none=>none
   |none=>none
  |_,_=>none
 |.indexAddr t x i=>match P.underlying t,dm P x,dm P i with
  |some (.array k e),some x,some i=>match jK P e with|some n=>if 1<k then some (.iW k n x i) else none|none=>none
  |some (.slice e),some x,some i=>match jK P e with|some n=>some (.dV n x i)|none=>none
  |_,_,_=>none
 |.index t x i=>match P.underlying t,dm P x,dm P i with
  |some (.array k e),some x,some i=>match jK P e with|some n=>some (.z6 k n (pS P e) x i)|none=>none
  |some .string,some x,some i=>some (.sv x i)
  |_,_,_=>none
 |.extract x i=>match dm P x with|some y=>some (.rL y i)|none=>none
 |.call c=>HB P c
 |o=>Ul P o
def mQ:bG→Bool
 |.cm ..|.box ..|.load ..|.store ..|.yC ..|.cK ..|.app ..|.re ..|.copy ..|.xF ..|.qv ..|.wg ..|.call ..|.mU ..|.qC ..|.qJ ..=>false
 |_=>true
structure Hm where
 ca:Nat
 off:Nat
 room:Nat
 ro:Bool
 mM:Bool:=false
abbrev Ho:=Nat→Nat→Option Hm
def IJ(h:Hm)(a:Addr)(l cap o es:Nat):Prop:=
 (a=⟨h.ca,h.off+o,none⟩∧o+cap*es≤h.room)∨(l=0∧cap=0∧0<o)
mutual
def VR(ρ:Ho):an→Value→Prop
 |.bool b,v=>v= .bool b
 |.int k n,v=>v= .int k n
 |.str l s,v=>∃b:ByteArray,v= .string b∧l=b.size∧s=pack b.data.toList
 |.ptr f g o,v=>∃h,ρ f g=some h∧v= .pointer (some ⟨h.ca,h.off+o,none⟩)
 |.ik,v=>v= .pointer none
 |.slice f g o l es,v=>∃h a cap,ρ f g=some h∧v= .slice (some a) l cap∧l≤cap∧IJ h a l cap o es
 |.cg,v=>v= .slice none 0 0
 |.agg cs,v=>∃vs,v= .agg vs∧cF ρ cs vs.toList∧cs.all hD=true
 |.tuple cs,v=>∃vs,v= .tuple vs∧cF ρ cs vs.toList
 |.func f first eJ,v=>∃z vs,v= .func (.func f) z vs∧cF ρ first z.toList∧cF ρ eJ vs.toList
 |.nQ,v=>v= .nilFunc
 |.iface t a,v=>∃x,v= .iface t x∧VR ρ a x
 |.gS,v=>v= .nilIface
 |.map _,v=>∃a:Addr,v= .pointer (some a)
 |.ud,v=>v= .map none
 |.undef,v=>v=undef
def cF(ρ:Ho):List an→List Value→Prop
 |[],vs=>vs=[]
 |a::r,vs=>∃v t,vs=v::t∧VR ρ a v∧cF ρ r t
end
def Ho.le(ρ ρ':Ho):Prop:=∀f g h,ρ f g=some h→ρ' f g=some h
theorem Ho.le_refl(ρ:Ho):ρ.le ρ:=fun _ _ _ h=>h
theorem Ho.le_trans{a b c:Ho}(h:a.le b)(k:b.le c):a.le c:=fun f g x z=>k f g x (h f g x z)
mutual
theorem VR.mono{ρ ρ':Ho}(z:ρ.le ρ'):∀{a:an}{v:Value},VR ρ a v→VR ρ' a v
 |.bool _,_,h=>by simpa[VR] using h
 |.int _ _,_,h=>by simpa[VR] using h
 |.str _ _,_,h=>by simpa[VR] using h
 |.ptr _ _ _,_,h=>by
  simp only[VR] at h⊢
  obtain⟨x,G,e⟩:=h
  exact⟨x,z _ _ _ G,e⟩
 |.ik,_,h=>by simpa[VR] using h
 |.slice _ _ _ _ _,_,h=>by
  simp only[VR] at h⊢
  obtain⟨x,a,c,G,e⟩:=h
  exact⟨x,a,c,z _ _ _ G,e⟩
 |.cg,_,h=>by simpa[VR] using h
 |.agg cs,_,h=>by
  simp only[VR] at h⊢
  obtain⟨vs,e,A,ho⟩:=h
  exact⟨vs,e,cF.mono z A,ho⟩
 |.tuple cs,_,h=>by
  simp only[VR] at h⊢
  obtain⟨vs,e,A⟩:=h
  exact⟨vs,e,cF.mono z A⟩
 |.func _ _ cs,_,h=>by
  simp only[VR] at h⊢
  obtain⟨I,vs,e,J,A⟩:=h
  exact⟨I,vs,e,cF.mono z J,cF.mono z A⟩
 |.nQ,_,h=>by simpa[VR] using h
 |.iface _ a,_,h=>by
  simp only[VR] at h⊢
  obtain⟨x,e,A⟩:=h
  exact⟨x,e,VR.mono z A⟩
 |.gS,_,h=>by simpa[VR] using h
 |.map _,_,h=>by simp only[VR] at h⊢;exact h
 |.ud,_,h=>by simpa[VR] using h
 |.undef,_,h=>by simpa[VR] using h
theorem cF.mono{ρ ρ':Ho}(z:ρ.le ρ'):∀{a:List an}{v:List Value},cF ρ a v→cF ρ' a v
 |[],_,h=>by simpa[cF] using h
 |a::r,_,h=>by
  simp only[cF] at h⊢
  obtain⟨v,t,e,A,h2⟩:=h
  exact⟨v,t,e,VR.mono z A,cF.mono z h2⟩
end
theorem cF.length{ρ:Ho}:∀{a:List an}{v:List Value},cF ρ a v→v.length=a.length
 |[],_,h=>by simp only[cF] at h;subst h;rfl
 |a::r,_,h=>by
  simp only[cF] at h
  obtain⟨v,t,rfl,_,h2⟩:=h
  simp[cF.length h2]
theorem cF.get{ρ:Ho}:∀{a:List an}{v:List Value},cF ρ a v→∀(i:Nat)(x:an),a[i]?=some x→∃y,v[i]?=some y∧VR ρ x y
 |[],_,_,i,x,z=>by simp at z
 |a::r,_,h,i,x,z=>by
  simp only[cF] at h
  obtain⟨v,t,rfl,A,h2⟩:=h
  cases i with
  |zero=>simp at z;subst z;exact⟨v,rfl,A⟩
  |succ i=>simp at z;obtain⟨y,G,k⟩:=cF.get h2 i x z;exact⟨y,by simpa using G,k⟩
theorem cF.rf{ρ:Ho}:∀{a:List an}{v:List Value},v.length=a.length→(∀(i:Nat)(x:an),a[i]?=some x→∃y,v[i]?=some y∧VR ρ x y)→cF ρ a v
 |[],v,z,_=>by simp only[cF];exact tc (by simpa using z)
 |a::r,[],z,_=>by simp at z
 |a::r,v::t,z,h=>by
  simp only[cF]
  refine⟨v,t,rfl,?_,cF.rf (by simpa using z) fun i x G=>?_⟩
  ·obtain⟨y,A,k⟩:=h 0 a rfl;simp at A;subst A;exact k
  obtain⟨y,A,k⟩:=h (i+1) x (by simpa using G);exact⟨y,by simpa using A,k⟩
theorem cF.append{ρ:Ho}{a b:List an}{v u:List Value}(h:cF ρ a v)(k:cF ρ b u):cF ρ (a++b) (v++u):=by
 induction a generalizing v with
 |nil=>simp only[cF] at h;subst h;exact k
 |cons x r z=>
  simp only[cF] at h
  obtain⟨y,t,rfl,A,h2⟩:=h
  simp only[yV,cF]
  exact⟨y,t++u,rfl,A,z h2⟩
theorem cF.take{ρ:Ho}{a:List an}{v:List Value}(h:cF ρ a v)(n:Nat):cF ρ (a.take n) (v.take n):=by
 refine cF.rf (by simp[h.length]) fun i x z=>?_
 rw[Bm] at z
 split at z
 ·obtain⟨y,A,k⟩:=h.get i x z
  exact⟨y,by rw[Bm,aw (by assumption)];exact A,k⟩
 cases z
theorem cF.drop{ρ:Ho}{a:List an}{v:List Value}(h:cF ρ a v)(n:Nat):cF ρ (a.drop n) (v.drop n):=by
 refine cF.rf (by simp[h.length]) fun i x z=>?_
 rw[td] at z
 obtain⟨y,A,k⟩:=h.get _ x z
 exact⟨y,by rw[td];exact A,k⟩
theorem VR.cells{ρ:Ho}{a:an}{v:Value}{l:List an}(h:VR ρ a v)(z:jW a=some l):cF ρ l v.cells.toList∧l.all hD=true:=by
 have one:∀{x:an}{y:Value},VR ρ x y→y.cells=#[y]→hD x=true→l=[x]→cF ρ l y.cells.toList∧l.all hD=true:=by
  intro x y A G hk I
  subst I
  rw[G]
  exact⟨⟨y,[],rfl,A,rfl⟩,by simp[hk]⟩
 cases a<;>simp only[jW,gP,reduceCtorEq] at z
 case agg cs=>
  simp only[VR] at h
  obtain⟨vs,rfl,J,ho⟩:=h
  subst z
  exact⟨J,ho⟩
 case bool b=>exact one h (by simp only[VR] at h;subst h;rfl) rfl z.symm
 case int k n=>exact one h (by simp only[VR] at h;subst h;rfl) rfl z.symm
 case str k n=>exact one h (by simp only[VR] at h;obtain⟨b,rfl,_⟩:=h;rfl) rfl z.symm
 case ptr f g o=>exact one h (by simp only[VR] at h;obtain⟨b,_,rfl⟩:=h;rfl) rfl z.symm
 case ik=>exact one h (by simp only[VR] at h;subst h;rfl) rfl z.symm
 case slice f g o l es=>exact one h (by simp only[VR] at h;obtain⟨_,_,_,_,rfl,_⟩:=h;rfl) rfl z.symm
 case cg=>exact one h (by simp only[VR] at h;subst h;rfl) rfl z.symm
 case func f K c=>exact one h (by simp only[VR] at h;obtain⟨_,_,rfl,_⟩:=h;rfl) rfl z.symm
 case nQ=>exact one h (by simp only[VR] at h;subst h;rfl) rfl z.symm
 case iface t x=>exact one h (by simp only[VR] at h;obtain⟨_,rfl,_⟩:=h;rfl) rfl z.symm
 case gS=>exact one h (by simp only[VR] at h;subst h;rfl) rfl z.symm
 case map f=>exact one h (by simp only[VR] at h;obtain⟨a,rfl⟩:=h;rfl) rfl z.symm
 case ud=>exact one h (by simp only[VR] at h;subst h;rfl) rfl z.symm
theorem VR.WI{ρ:Ho}{a:an}{v:Value}(h:VR ρ a v)(hk:hD a=true):(∀cs,v≠.agg cs)∧(∀cs,v≠.tuple cs):=by
 cases a<;>simp only[VR,hD,p9] at h hk
 all_goals first
  |(subst h;exact⟨fun _=>by simp,fun _=>by simp⟩)
  |(obtain⟨_,rfl⟩:=h;exact⟨fun _=>by simp,fun _=>by simp⟩)
  |(obtain⟨_,rfl,_⟩:=h;exact⟨fun _=>by simp,fun _=>by simp⟩)
  |(obtain⟨_,_,rfl⟩:=h;exact⟨fun _=>by simp,fun _=>by simp⟩)
  |(obtain⟨_,_,rfl,_⟩:=h;exact⟨fun _=>by simp,fun _=>by simp⟩)
  |(obtain⟨_,_,_,_,rfl,_⟩:=h;exact⟨fun _=>by simp,fun _=>by simp⟩)
structure EJ(ρ:Ho)(w:World)(h:Hm)(g elem es n fl:Nat)(cs:RT):Prop where
 row:∃c fz,w.heap[h.ca]?=some (.cells c elem fz)∧h.off+h.room≤c.size
 fits:g*es≤h.room
 cell:∀i,i<g→∃l,cs.get i=some l∧l.length=es∧∀j x,l[j]?=some x→hD x=true∧∃cv,w.cell? ⟨h.ca,h.off+i*es+j,none⟩=some cv∧VR ρ x cv
 AH:fl=0→∀i,i<h.room→w.frozen? ⟨h.ca,h.off+i,none⟩=false
 yi:fl≠1→∀i,n*es≤i→i<h.room→w.frozen? ⟨h.ca,h.off+i,none⟩=false
 sT:fl=0∨fl=2→h.off=0
 yZ:fl=0∨fl=2→∀c e fz,w.heap[h.ca]?=some (.cells c e fz)→fz.1=fz.2∨fz.2≤n*es
def AI(ρ:Ho)(w:World)(h:Hm)(g:Nat):dQ→Prop
 |.row elem es _ n lo fl cs=>0<es∧(h.ro=true→fl=1)∧g≤n∧(lo≤g→g≤n→EJ ρ w h g elem es n fl cs)
 |.map _=>False
def y1(ρ:Ho)(w:World)(f:Nat)(h:Hm):Prop:=(∀g' h',ρ f g'=some h'→h'.ro=true)∧∃z A,w.cell? ⟨h.ca,h.off,none⟩=some (.iface z A)
structure R(ρ:Ho)(C:Nat→Option dQ)(w:World):Prop where
 obj:∀f o,C f=some o→∀g h,ρ f g=some h→AI ρ w h g o
 n7:∀f g h f' g' h',ρ f g=some h→ρ f' g'=some h'→f≠f'→h.ca=h'.ca→h.ro=true∧h'.ro=true
 kb:∀f g h,ρ f g=some h→h.ca<w.heap.size
 uniq:∀f g h g' h',ρ f g=some h→ρ f g'=some h'→h.ca=h'.ca→h.off=h'.off
 mM:∀f g h,ρ f g=some h→h.ro=true→h.mM=true→y1 ρ w f h
structure Ext(W:Nat→Prop)(n0 n1:Nat)(ρ ρ':Ho)(w w':World):Prop where
 le:ρ.le ρ'
 jr:∀f g h,ρ' f g=some h→(∃g0 h0,ρ f g0=some h0)∨(n0≤f∧f<n1)
 ca:∀f g h,ρ' f g=some h→ρ f g=some h∨(w.heap.size≤h.ca∧h.ro=false)∨(∃g0 h0,ρ f g0=some h0∧h0.ca=h.ca∧h0.ro=h.ro)
 frame:∀b,b<w.heap.size→(∀f g h,ρ f g=some h→h.ro=false→W f→h.ca≠b)→w'.heap[b]?=w.heap[b]?
 size:w.heap.size≤w'.heap.size
 nn:n0≤n1
 os:w'.os=w.os
 tape:w'.tape=w.tape
 output:w'.output=w.output
theorem Ext.refl(W:Nat→Prop)(n:Nat)(ρ:Ho)(w:World):Ext W n n ρ ρ w w:=
 ⟨Ho.le_refl _,fun f g h e=>.inl ⟨g,h,e⟩,fun _ _ _ e=>.inl e,fun _ _ _=>rfl,bV _,bV _,rfl,rfl,rfl⟩
theorem Ext.mono{W z:Nat→Prop}{n0 n1:Nat}{ρ ρ':Ho}{w w':World}(h:Ext W n0 n1 ρ ρ' w w')(A:∀f,W f→z f):Ext z n0 n1 ρ ρ' w w':=
 ⟨h.le,h.jr,h.ca,fun b G k=>h.frame b G fun f g x I J K=>k f g x I J (A f K),h.size,h.nn,h.os,h.tape,h.output⟩
theorem Ext.trans{W:Nat→Prop}{n0 n1 K:Nat}{ρ z A:Ho}{w O U:World}(h:Ext W n0 n1 ρ z w O)(k:Ext W n1 K z A O U):Ext W n0 K ρ A w U:=by
 refine⟨Ho.le_trans h.le k.le,?_,?_,?_,j7 h.size k.size,j7 h.nn k.nn,k.os.trans h.os,k.tape.trans h.tape,k.output.trans h.output⟩
 ·intro f g x G
  have Y:=h.nn
  have h2:=k.nn
  rcases k.jr f g x G with⟨g0,h0,e⟩|⟨a,b⟩
  ·rcases h.jr f g0 h0 e with e|⟨a,b⟩
   ·exact .inl e
   exact .inr ⟨a,by omega⟩
  exact .inr ⟨by omega,b⟩
 ·intro f g x G
  rcases k.ca f g x G with e|⟨a,b⟩|⟨g0,h0,e,e1,e2⟩
  ·exact h.ca f g x e
  ·exact .inr (.inl ⟨j7 h.size a,b⟩)
  rcases h.ca f g0 h0 e with I|⟨a,b⟩|⟨g1,Y,I,e3,e4⟩
  ·exact .inr (.inr ⟨g0,h0,I,e1,e2⟩)
  ·exact .inr (.inl ⟨e1▸a,e2▸b⟩)
  exact .inr (.inr ⟨g1,Y,I,e3.trans e1,e4.trans e2⟩)
 intro b Z J
 rw[k.frame b (mI Z h.size) ?_,h.frame b Z J]
 intro f g x G hr hw
 rcases h.ca f g x G with e|⟨a,_⟩|⟨g0,h0,e,e1,e2⟩
 ·exact J f g x e hr hw
 ·intro hh;omega
 exact e1▸J f g0 h0 e (e2.trans hr) hw
theorem cell_of_heap{w w':World}{a:Addr}(h:w'.heap[a.block]?=w.heap[a.block]?):w'.cell? a=w.cell? a:=by simp only[World.cell?,h]
theorem y1.iU{ρ:Ho}{w w':World}{f:Nat}{h:Hm}(k:y1 ρ w f h)(z:w'.cell? ⟨h.ca,h.off,none⟩=w.cell? ⟨h.ca,h.off,none⟩):y1 ρ w' f h:=⟨k.1,by obtain⟨A,G,e⟩:=k.2;exact⟨A,G,z.trans e⟩⟩
theorem frozen_of_heap{w w':World}{a:Addr}(h:w'.heap[a.block]?=w.heap[a.block]?):w'.frozen? a=w.frozen? a:=by simp only[World.frozen?,h]
theorem EJ.iU{ρ ρ':Ho}{w w':World}{h:Hm}{g elem es n fl:Nat}{cs:RT}(k:EJ ρ w h g elem es n fl cs)(G:ρ.le ρ')(z:w'.heap[h.ca]?=w.heap[h.ca]?):
  EJ ρ' w' h g elem es n fl cs:=by
 refine⟨by rw[z];exact k.row,k.fits,fun i hi=>?_,fun h0 i hi=>?_,fun h0 i hi I=>?_,k.sT,fun e c t fz A=>k.yZ e c t fz (by rw[←z];exact A)⟩
 ·obtain⟨l,e,e1,e2⟩:=k.cell i hi
  refine⟨l,e,e1,fun j x J=>?_⟩
  obtain⟨o,cv,A,K⟩:=e2 j x J
  exact⟨o,cv,by rw[cell_of_heap (w:=w) z];exact A,K.mono G⟩
 ·rw[frozen_of_heap (w:=w) z];exact k.AH h0 i hi
 rw[frozen_of_heap (w:=w) z];exact k.yi h0 i hi I
theorem AI.iU{ρ ρ':Ho}{w w':World}{h:Hm}{g:Nat}{o:dQ}(k:AI ρ w h g o)(z:ρ.le ρ')(A:w'.heap[h.ca]?=w.heap[h.ca]?):AI ρ' w' h g o:=by
 cases o with
 |row elem es aP n lo fl cs=>exact⟨k.1,k.2.1,k.2.2.1,fun a b=>(k.2.2.2 a b).iU z A⟩
 |map es=>exact k
theorem R.weaken{ρ:Ho}{C z:Nat→Option dQ}{w:World}(h:R ρ C w)(hC:∀f o,z f=some o→(∃g x,ρ f g=some x)→C f=some o):R ρ z w:=
 ⟨fun f o e g x A=>h.obj f o (hC f o e ⟨g,x,A⟩) g x A,h.n7,h.kb,h.uniq,h.mM⟩
theorem f6{β:Type}(k e:β):aG true k e=k:=rfl
theorem Sn{β:Type}(k e:β):aG false k e=e:=rfl
theorem rh{β:Type}(b:Bool)(k e:β):aG b k e=if b=true then k else e:=by cases b<;>rfl
section
variable{v:an}{H':az}{n:Nat}
theorem fO{b:Bool}{k:aE}(h:aG b k (.err n)= .ok v H'):b=true∧k= .ok v H':=by
 cases b
 ·cases h
 exact⟨rfl,h⟩
theorem ju{α:Type}{o:Option α}{k:α→aE}(h:ob o (.err n) k= .ok v H'):∃x,o=some x∧k x= .ok v H':=by
 cases o with
 |none=>cases h
 |some x=>exact⟨x,rfl,h⟩
theorem fu{x:aF}{E:Env}{k:an→aE}(h:bB x E (.err n) k= .ok v H'):∃a,x.ev E=some a∧k a= .ok v H':=by
 cases x with
 |t i=>exact ju h
 |c a=>exact⟨a,rfl,h⟩
theorem So{a:an}{k:Bool→aE}(h:sw a (.err n) k= .ok v H'):∃b,a= .bool b∧k b= .ok v H':=by
 cases a<;>first|cases h;done|exact⟨_,rfl,h⟩
theorem sc{a:an}{k:IntKind→Int→aE}(h:gO a (.err n) k= .ok v H'):∃b i,a= .int b i∧k b i= .ok v H':=by
 cases a<;>first|cases h;done|exact⟨_,_,rfl,h⟩
theorem xg{a:an}{k:Nat→Nat→aE}(h:jJ a (.err n) k= .ok v H'):∃l s,a= .str l s∧k l s= .ok v H':=by
 cases a<;>first|cases h;done|exact⟨_,_,rfl,h⟩
theorem vF{a:an}{k:Nat→Nat→Nat→aE}(h:iE a (.err n) k= .ok v H'):∃f g o,a= .ptr f g o∧k f g o= .ok v H':=by
 cases a<;>first|cases h;done|exact⟨_,_,_,rfl,h⟩
theorem wZ{a:an}{e:aE}{k:Nat→Nat→Nat→Nat→Nat→aE}(h:gL a (.err n) e k= .ok v H'):
  (a= .cg∧e= .ok v H')∨∃f g o l es,a= .slice f g o l es∧k f g o l es= .ok v H':=by
 cases a<;>first|cases h;done|exact .inr ⟨_,_,_,_,_,rfl,h⟩|exact .inl ⟨rfl,h⟩
theorem Lw{a:an}{k:List an→aE}(h:o9 a (.err n) k= .ok v H'):∃l,a= .agg l∧k l= .ok v H':=by
 cases a<;>first|cases h;done|exact⟨_,rfl,h⟩
theorem RJ{a:an}{k:List an→aE}(h:si a (.err n) k= .ok v H'):∃l,a= .tuple l∧k l= .ok v H':=by
 cases a<;>first|cases h;done|exact⟨_,rfl,h⟩
theorem Sp{a:an}{k:Nat→List an→List an→aE}(h:ue a (.err n) k= .ok v H'):∃f z l,a= .func f z l∧k f z l= .ok v H':=by
 cases a<;>first|cases h;done|exact⟨_,_,_,rfl,h⟩
theorem vG{i:Int}{k:Nat→aE}(h:jj i (.err n) k= .ok v H'):∃m:Nat,i=(m:Int)∧k m= .ok v H':=by
 cases i with
 |ofNat m=>exact⟨m,rfl,h⟩
 |negSucc m=>cases h
theorem oO(l:List an):jn l=l.length:=by
 induction l with
 |nil=>rfl
 |cons a r z=>show Nat.succ (jn r)=_;rw[z];rfl
theorem Dd{a:an}{m:Nat}{k:Nat→aE}(h:idx a m (.err n) k= .ok v H'):∃z i,a= .int z (i:Nat)∧i<m∧k i= .ok v H':=by
 obtain⟨z,i,rfl,h⟩:=sc h
 obtain⟨j,rfl,h⟩:=vG h
 obtain⟨A,h⟩:=fO h
 exact⟨z,j,rfl,bO A,h⟩
theorem VD{E:Env}{x:Option aF}{d y:Nat}{k:Nat→aE}(h:gi E x d y (.err n) k= .ok v H'):
  (x=none∧k d= .ok v H')∨∃z A i,x=some z∧z.ev E=some (.int A (i:Nat))∧i≤y∧k i= .ok v H':=by
 cases x with
 |none=>exact .inl ⟨rfl,h⟩
 |some z=>
  obtain⟨a,G,h⟩:=ju h
  obtain⟨A,i,rfl,h⟩:=sc h
  obtain⟨j,rfl,h⟩:=vG h
  obtain⟨I,h⟩:=fO h
  exact .inr ⟨z,A,j,rfl,G,bO I,h⟩
theorem Lx{o:Option dQ}{k:Nat→Nat→Nat→Nat→Nat→Nat→RT→aE}(h:iY o (.err n) k= .ok v H'):
  ∃elem es aP m lo fl cs,o=some (.row elem es aP m lo fl cs)∧k elem es aP m lo fl cs= .ok v H':=by
 cases o with
 |none=>cases h
 |some o=>cases o with
  |row=>exact⟨_,_,_,_,_,_,_,rfl,h⟩
  |map=>cases h
theorem Hb{agg:Bool}{l:List an}{k:an→aE}(h:iL agg l (.err n) k= .ok v H'):
  (agg=true∧k (.agg l)= .ok v H')∨∃x,agg=false∧l=[x]∧k x= .ok v H':=by
 cases agg with
 |true=>exact .inl ⟨rfl,h⟩
 |false=>
  cases l with
  |nil=>cases h
  |cons x r=>cases r with
   |nil=>exact .inr ⟨x,rfl,rfl,h⟩
   |cons y s=>cases h
theorem xh{H:az}{o:dQ}{k:Nat→az→aE}(h:H.alloc o k= .ok v H'):k H.next ⟨H.next+1,H.bc,H.ws,H.t.set H.next o⟩= .ok v H':=by
 cases H with
 |mk next bc ws t=>
  have h':dk next (fun f=>t.gA f o fun t=>k f ⟨Nat.succ f,bc,ws,t⟩)= .ok v H':=h
  rw[ij,GT.ki] at h'
  exact h'
end
theorem De(m n:Nat):rQ m n=(m:Int) -(n:Int):=by
 unfold rQ
 cases h:Nat.ble n m
 ·have:¬n≤m:=fun e=>by rw[jN e] at h;cases h
  show Int.negSucc (n-m-1)=_
  rw[lV];omega
 have:n≤m:=bO h
 show Int.ofNat (m-n)=_
 rw[bb];omega
theorem Um(x y:Int):Pg x y=x+y:=by
 cases x with
 |ofNat m=>cases y with
  |ofNat n=>rfl
  |negSucc n=>show rQ m (n+1)=_;rw[De,lV,bb];omega
 |negSucc m=>cases y with
  |ofNat n=>show rQ n (m+1)=_;rw[De,lV,bb];omega
  |negSucc n=>show Int.negSucc (m+n+1)=_;rw[lV,lV,lV];omega
theorem Un(x y:Int):Ph x y=x-y:=by
 cases x with
 |ofNat m=>cases y with
  |ofNat n=>show rQ m n=_;rw[De];rfl
  |negSucc n=>show Int.ofNat (m+(n+1))=_;rw[lV,bb,bb];omega
 |negSucc m=>cases y with
  |ofNat n=>show Int.negSucc (m+n)=_;rw[lV,lV,bb];omega
  |negSucc n=>show rQ n m=_;rw[De,lV,lV];omega
theorem Df(x y:Int):Bo x y=lh x y:=by cases x<;>cases y<;>rfl
theorem Na(x y:Int):I' x y=mr x y:=by cases x<;>cases y<;>rfl
theorem VF(n:Int):P1 n=IntKind.wrap .i64 n:=by
 cases n with
 |ofNat m=>
  show Bool.rec (motive:=fun _=>Int) (IntKind.wrap .i64 (.ofNat m)) (.ofNat m) (Nat.ble m 9223372036854775807)=_
  cases h:Nat.ble m 9223372036854775807
  ·rfl
  have:=bO h
  exact(IntWalk.i64_in (Int.ofNat m) (by simp only[bb];omega)).symm
 |negSucc m=>
  show Bool.rec (motive:=fun _=>Int) (IntKind.wrap .i64 (.negSucc m)) (.negSucc m) (Nat.ble m 9223372036854775807)=_
  cases h:Nat.ble m 9223372036854775807
  ·rfl
  have:=bO h
  exact(IntWalk.i64_in (Int.negSucc m) (by rw[lV];omega)).symm
theorem EK(mx:Nat)(k:IntKind)(hk:∀n:Int,0≤n∧n≤mx→k.wrap n=n)(n:Int):wU mx k n=IntKind.wrap k n:=by
 cases n with
 |ofNat m=>
  show Bool.rec (motive:=fun _=>Int) (IntKind.wrap k (.ofNat m)) (.ofNat m) (Nat.ble m mx)=_
  cases h:Nat.ble m mx
  ·rfl
  have:=bO h
  exact(hk (Int.ofNat m) (by simp only[bb];omega)).symm
 |negSucc m=>rfl
theorem Tc(k:IntKind)(n:Int):H7 k n=k.wrap n:=by
 cases k with
 |i8=>rfl
 |i16=>rfl
 |i32=>rfl
 |i64=>exact VF n
 |u8=>exact EK _ _ IntWalk.u8_in n
 |u16=>exact EK _ _ IntWalk.u16_in n
 |u32=>exact EK _ _ IntWalk.u32_in n
 |u64=>exact EK _ _ IntWalk.u64_in n
theorem ng(k:IntKind)(n:Int):mf k n=k.wrap n:=by
 unfold mf
 split
 ·rename_i m
  split
  ·rename_i h
   have h:=bO h
   exact(IntWalk.i64_in (Int.ofNat m) (by simp only[bb];omega)).symm
  rfl
 ·rename_i m
  split
  ·rename_i h
   have h:=bO h
   exact(IntWalk.i64_in (Int.negSucc m) (by rw[lV];omega)).symm
  rfl
 rfl
theorem KI{f:Int→Int→Int}{op:BinOp}(h:∀k a G b,iX op k a G b=aG (Nat.beq (dw k) (dw G)) (some (.int k (mf k (f a b)))) none)(a b:an)(k:an→aE):Hz f op a b k=nr op a b k:=by
 cases a<;>try rfl
 cases b<;>try rfl
 rename_i z x A y
 show aG (Nat.beq (dw z) (dw A)) (ll (H7 z (f x y)) fun r=>k (.int z r)) (.err 6)=ob (iX op z x A y) (.err 6) fun v=>mP v k
 rw[h,r9,Tc,←ng]
 cases Nat.beq (dw z) (dw A)
 ·rfl
 exact(tI (.int z (mf z (f x y))) k).symm
theorem xq{f:Int→Int→Bool}{op:BinOp}(h:∀k a G b,iX op k a G b=aG (Nat.beq (dw k) (dw G)) (some (.bool (f a b))) none)(a b:an)(k:an→aE):wB f op a b k=nr op a b k:=by
 cases a<;>try rfl
 cases b<;>try rfl
 rename_i A x z y
 show aG (Nat.beq (dw A) (dw z)) (ni (f x y) fun r=>k (.bool r)) (.err 6)=ob (iX op A x z y) (.err 6) fun v=>mP v k
 rw[h]
 cases Nat.beq (dw A) (dw z)
 ·rfl
 refine Eq.trans ?_ (tI (.bool (f x y)) k).symm
 show ni (f x y) (fun r=>k (.bool r))=_
 cases f x y<;>rfl
theorem CI(op:BinOp)(a b:an)(k:an→aE):yE op a b k=ob (A2 op a b) (.err 6) fun v=>mP v k:=by
 cases op with
 |add=>exact KI (fun k a z b=>by rw[Um];rfl) a b k
 |sub=>exact KI (fun k a z b=>by rw[Un];rfl) a b k
 |eql=>exact xq (fun k a z b=>by rw[Na];rfl) a b k
 |neq=>exact xq (fun k a z b=>by unfold P2;rw[Na];rfl) a b k
 |lss=>exact xq (fun k a z b=>by rw[Df];rfl) a b k
 |leq=>exact xq (fun k a z b=>by unfold P3;rw[Df];rfl) a b k
 |gtr=>exact xq (fun k a z b=>by unfold P4;rw[Df];rfl) a b k
 |geq=>exact xq (fun k a z b=>by unfold P5;rw[Df];rfl) a b k
 |mul=>rfl
 |quo=>rfl
 |rem=>rfl
 |and=>rfl
 |or=>rfl
 |xor=>rfl
 |shl=>rfl
 |shr=>rfl
 |andNot=>rfl
structure IK(H:az)(f g off n:Nat)(l:List an):Prop where
 ex:∃elem es aP m lo fl cs x,H.t.get f=some (.row elem es aP m lo fl cs)∧lo≤g∧g≤m∧off % es+n≤es∧off/es<g∧cs.get (off/es)=some x∧
  ((l=x∧n=es)∨l=(x.drop (off % es)).take n)
theorem Ie{β:Type}{H:az}{f g off n:Nat}{e:β}{k:List an→β}{r:β}(h:rd H f g off n e k=r)(he:e≠r):∃l,IK H f g off n l∧k l=r:=by
 unfold rd at h
 cases ho:H.t.get f with
 |none=>rw[ho] at h;exact absurd h he
 |some o=>
  rw[ho] at h
  cases o with
  |map=>exact absurd h he
  |row elem es aP m lo fl cs=>
   simp only[iY,rh] at h
   split at h
   ·rename_i K
    split at h
    ·rename_i h2
     split at h
     ·rename_i O
      split at h
      ·rename_i U
       cases z:cs.get (Nat.div off es) with
       |none=>rw[z] at h;exact absurd h he
       |some x=>
        rw[z] at h
        simp only[ob] at h
        have A:=bO K
        have G:=bO h2
        have I:=bO O
        have J:=bO U
        split at h
        ·rename_i Y
         exact⟨x,⟨_,_,_,_,_,_,_,x,ho,A,G,I,J,z,.inl ⟨rfl,eb Y⟩⟩,h⟩
        exact⟨_,⟨_,_,_,_,_,_,_,x,ho,A,G,I,J,z,.inr rfl⟩,h⟩
      exact absurd h he
     exact absurd h he
    exact absurd h he
   exact absurd h he
theorem GU(f:Nat)(l:List Nat):qa f l=true↔f∈l:=by
 induction l with
 |nil=>simp[qa]
 |cons x r z=>
  show aG (Nat.beq f x) true (qa f r)=true↔_
  rw[rh]
  by_cases h:f=x
  ·simp[h]
  have:¬(Nat.beq f x=true):=by simpa[rP] using h
  simp[h,this,z]
theorem zr(f bc:Nat)(ws:List Nat)(x:Nat):x∈wrote f bc ws↔x∈ws∨(x=f∧f<bc):=by
 unfold wrote
 rw[rh,rh]
 by_cases h:bc≤f
 ·rw[aw (jN h)]
  constructor
  ·exact .inl
  rintro(z|⟨_,z⟩)
  ·exact z
  omega
 have G:¬(Nat.ble bc f=true):=by simpa using h
 rw[aj G]
 by_cases A:qa f ws=true
 ·rw[aw A]
  rw[GU] at A
  constructor
  ·exact .inl
  rintro(z|⟨rfl,_⟩)
  ·exact z
  exact A
 rw[aj A]
 simp only[p']
 constructor
 ·rintro(rfl|z)
  ·exact .inr ⟨rfl,by omega⟩
  exact .inl z
 rintro(z|⟨rfl,_⟩)
 ·exact .inr z
 exact .inl rfl
structure Pk(H:az)(f g off n:Nat)(new:List an)(H':az):Prop where
 ex:∃elem es aP lo cs x,H.t.get f=some (.row elem es aP g lo 0 cs)∧lo≤g∧off % es+n≤es∧off/es<g∧new.length=n∧cs.get (off/es)=some x∧
  H'=⟨H.next,H.bc,wrote f H.bc H.ws,H.t.set f (.row elem es aP g g 0 (cs.set (off/es) (if n=es then new else g7 x (off % es) new)))⟩
theorem OP{H:az}{f g off n m:Nat}{new:List an}{k:az→aE}{v:an}{H':az}(h:wr H f g off n new (.err m) k= .ok v H'):∃H1,Pk H f g off n new H1∧k H1= .ok v H':=by
 cases H with
 |mk next bc ws t=>
  have h:=Lx h
  obtain⟨elem,es,aP,Y,lo,fl,cs,ho,h⟩:=h
  obtain⟨z,h⟩:=fO h
  obtain⟨h2,h⟩:=fO h
  obtain⟨I,h⟩:=fO h
  obtain⟨J,h⟩:=fO h
  obtain⟨K,h⟩:=fO h
  obtain⟨O,h⟩:=fO h
  obtain⟨x,U,A⟩:=ju h
  rw[RT.ki,GT.ki] at A
  have e1:=eb z
  have e2:=eb h2
  have G:=eb O
  rw[oO] at G
  clear h z h2
  subst e1 e2
  refine⟨_,⟨elem,es,aP,lo,cs,x,ho,bO I,bO J,bO K,G,U,?_⟩,A⟩
  rw[rh]
  simp only[rP]
  rfl
structure gr(H H':az):Prop where
 next:H.next≤H'.next
 bc:H'.bc=H.bc
 ws:∀f,f∈H.ws→f∈H'.ws
 same:∀f,f<H.bc→f∉H'.ws→H'.t.get f=H.t.get f
 wf:(∀f,H.next≤f→H.t.get f=none)→∀f,H'.next≤f→H'.t.get f=none
 iU:∀f,H.t.get f≠none→H'.t.get f≠none
theorem gr.refl(H:az):gr H H:=⟨bV _,rfl,fun _ h=>h,fun _ _ _=>rfl,fun h=>h,fun _ h=>h⟩
theorem gr.trans{A B C:az}(h:gr A B)(k:gr B C):gr A C:=
 ⟨j7 h.next k.next,k.bc.trans h.bc,fun f z=>k.ws f (h.ws f z),fun f z G=>(k.same f (h.bc▸z) G).trans (h.same f z fun e=>G (k.ws f e)),fun x=>k.wf (h.wf x),fun f x=>k.iU f (h.iU f x)⟩
theorem gr.alloc{H:az}(o:dQ)(A:H.bc≤H.next):gr H ⟨H.next+1,H.bc,H.ws,H.t.set H.next o⟩:=
 ⟨sM _,rfl,fun _ h=>h,fun f z _=>by show(H.t.set H.next o).get f=_;rw[GT.eY,aj (by omega)],
  fun h f z=>by
  have z:H.next+1≤f:=z
  show(H.t.set H.next o).get f=none
  rw[GT.eY,aj (by omega)];exact h f (by omega),
  fun f z=>by
  show(H.t.set H.next o).get f≠none
  rw[GT.eY]
  split
  ·simp
  exact z⟩
theorem gr.write{H:az}(f:Nat)(o:dQ){A:dQ}(h0:H.t.get f=some A):gr H ⟨H.next,H.bc,wrote f H.bc H.ws,H.t.set f o⟩:=
 ⟨bV _,rfl,fun x z=>(zr _ _ _ _).2 (.inl z),fun x z G=>by
  show(H.t.set f o).get x=_
  rw[GT.eY]
  split
  ·rename_i e;subst e;exact absurd ((zr _ _ _ _).2 (.inr ⟨rfl,z⟩)) G
  ·rfl,fun h x z=>by
  have z:H.next≤x:=z
  show(H.t.set f o).get x=none
  rw[GT.eY]
  split
  ·rename_i e;subst e;rw[h x z] at h0;cases h0
  ·exact h x z,fun x z=>by
  show(H.t.set f o).get x≠none
  rw[GT.eY]
  split
  ·simp
  exact z⟩
def TM(H:az)(r:aE):Prop:=∀v H',r= .ok v H'→gr H H'
theorem TM.err{H:az}{n:Nat}:TM H (.err n):=fun _ _ h=>by cases h
theorem TM.ok{H:az}{v:an}:TM H (.ok v H):=fun _ _ h=>by cases h;exact gr.refl _
theorem TM.aG{H:az}{b:Bool}{k e:aE}(h:TM H k)(h':TM H e):TM H (aG b k e):=by cases b;exact h';exact h
theorem TM.ob{H:az}{α:Type}{o:Option α}{e:aE}{k:α→aE}(h:∀x,TM H (k x))(h':TM H e):TM H (ob o e k):=by cases o;exact h';exact h _
theorem TM.bB{H:az}{x:aF}{E:Env}{e:aE}{k:an→aE}(h:∀x,TM H (k x))(h':TM H e):TM H (bB x E e k):=by
 cases x with
 |t i=>exact TM.ob (o:=E.get i) h h'
 |c a=>exact h a
theorem TM.sw{H:az}{a:an}{e:aE}{k:Bool→aE}(h:∀x,TM H (k x))(h':TM H e):TM H (sw a e k):=by cases a<;>first|exact h'|exact h _
theorem TM.gO{H:az}{a:an}{e:aE}{k:IntKind→Int→aE}(h:∀x y,TM H (k x y))(h':TM H e):TM H (gO a e k):=by cases a<;>first|exact h'|exact h _ _
theorem TM.jJ{H:az}{a:an}{e:aE}{k:Nat→Nat→aE}(h:∀x y,TM H (k x y))(h':TM H e):TM H (jJ a e k):=by cases a<;>first|exact h'|exact h _ _
theorem TM.iE{H:az}{a:an}{e:aE}{k:Nat→Nat→Nat→aE}(h:∀x y z,TM H (k x y z))(h':TM H e):TM H (iE a e k):=by cases a<;>first|exact h'|exact h _ _ _
theorem TM.gL{H:az}{a:an}{e e2:aE}{k:Nat→Nat→Nat→Nat→Nat→aE}(h:∀x y z u w,TM H (k x y z u w))(h2:TM H e2)(h':TM H e):TM H (gL a e e2 k):=by cases a<;>first|exact h'|exact h2|exact h _ _ _ _ _
theorem TM.o9{H:az}{a:an}{e:aE}{k:List an→aE}(h:∀x,TM H (k x))(h':TM H e):TM H (o9 a e k):=by cases a<;>first|exact h'|exact h _
theorem TM.si{H:az}{a:an}{e:aE}{k:List an→aE}(h:∀x,TM H (k x))(h':TM H e):TM H (si a e k):=by cases a<;>first|exact h'|exact h _
theorem TM.ue{H:az}{a:an}{e:aE}{k:Nat→List an→List an→aE}(h:∀x y z,TM H (k x y z))(h':TM H e):TM H (ue a e k):=by cases a<;>first|exact h'|exact h _ _ _
theorem TM.jj{H:az}{i:Int}{e:aE}{k:Nat→aE}(h:∀x,TM H (k x))(h':TM H e):TM H (jj i e k):=by cases i;exact h _;exact h'
theorem TM.idx{H:az}{a:an}{n:Nat}{e:aE}{k:Nat→aE}(h:∀x,TM H (k x))(h':TM H e):TM H (idx a n e k):=TM.gO (fun _ _=>TM.jj (fun _=>TM.aG (h _) h') h') h'
theorem TM.gi{H:az}{E:Env}{x:Option aF}{d y:Nat}{e:aE}{k:Nat→aE}(h:∀x,TM H (k x))(h':TM H e):TM H (gi E x d y e k):=by
 cases x with
 |none=>exact h _
 |some z=>exact TM.ob (fun _=>TM.gO (fun _ _=>TM.jj (fun _=>TM.aG (h _) h') h') h') h'
theorem TM.iY{H:az}{o:Option dQ}{e:aE}{k:Nat→Nat→Nat→Nat→Nat→Nat→RT→aE}(h:∀a b c d e f g,TM H (k a b c d e f g))(h':TM H e):TM H (iY o e k):=by
 cases o with
 |none=>exact h'
 |some o=>cases o with
  |row=>exact h _ _ _ _ _ _ _
  |map=>exact h'
theorem TM.iL{H:az}{agg:Bool}{l:List an}{e:aE}{k:an→aE}(h:∀x,TM H (k x))(h':TM H e):TM H (iL agg l e k):=by
 refine TM.aG (h _) ?_
 cases l with
 |nil=>exact h'
 |cons x r=>cases r with
  |nil=>exact h _
  |cons=>exact h'
theorem TM.dk{H:az}{n:Nat}{k:Nat→aE}(h:∀x,TM H (k x)):TM H (dk n k):=by rw[ij];exact h _
theorem TM.ll{H:az}{n:Int}{k:Int→aE}(h:∀x,TM H (k x)):TM H (ll n k):=by rw[r9];exact h _
theorem TM.mP{H:az}{n:an}{k:an→aE}(h:∀x,TM H (k x)):TM H (mP n k):=by rw[tI];exact h _
theorem TM.ni{H:az}{n:Bool}{k:Bool→aE}(h:∀x,TM H (k x)):TM H (ni n k):=by cases n<;>exact h _
theorem TM.yE{H:az}{op:BinOp}{a b:an}:TM H (yE op a b fun v=>.ok v H):=by rw[CI];exact TM.ob (fun _=>TM.mP fun _=>TM.ok) TM.err
theorem TM.wC{H:az}{t:HT}{n:Nat}{o:dQ}{k:HT→aE}(h:TM H (k (t.set n o))):TM H (t.gA n o k):=by rw[GT.ki];exact h
theorem TM.fill{H:az}{l:List (List an)}{t:RT}{i:Nat}{k:RT→aE}(h:TM H (k (jG l t i))):TM H (sG l t i k):=by rw[vE];exact h
theorem TM.rep{H:az}{x:List an}{n:Nat}{k:RT→aE}(h:TM H (k (p0 x n))):TM H (Fi x n k):=by rw[G9];exact h
theorem TM.alloc{H:az}{o:dQ}{k:Nat→az→aE}(G:H.bc≤H.next)(hk:∀f z,∃v,k f z= .ok v z):TM H (H.alloc o k):=fun x H' h=>by
 have A:=xh h
 obtain⟨v,I⟩:=hk H.next ⟨H.next+1,H.bc,H.ws,H.t.set H.next o⟩
 rw[I] at A;cases A;exact gr.alloc o G
theorem TM.rd{H:az}{f g off n:Nat}{e:aE}{k:List an→aE}(h:∀x,TM H (k x))(h':TM H e):TM H (rd H f g off n e k):=
 TM.iY (fun _ _ _ _ _ _ _=>TM.aG (TM.aG (TM.aG (TM.aG (TM.ob (fun _=>TM.aG (h _) (h _)) h') h') h') h') h') h'
theorem TM.jO{H:az}{elem es aP n:Nat}{new:List (List an)}{x:an}(z:H.bc≤H.next):TM H (jO elem es aP n new H x):=by
 cases n with
 |zero=>exact TM.gL (fun _ _ _ _ _=>TM.ok) TM.ok TM.err
 |succ n=>
  refine TM.gL (fun f g off G ff=>?_) (TM.aG (TM.fill (TM.alloc z (fun _ _=>⟨_,rfl⟩))) TM.err) TM.err
  cases H with
  |mk next bc ws t=>
   show TM _ (Ev.iY (t.get f) _ _)
   cases A:t.get f with
   |none=>exact TM.err
   |some ob=>cases ob with
    |map=>exact TM.err
    |row I J K O U Y Z=>
   refine TM.aG (TM.aG (TM.aG (TM.aG (TM.aG (TM.aG (TM.aG TM.err (TM.aG (TM.aG (TM.dk fun _=>TM.fill (TM.wC ?_)) TM.err) TM.err)) TM.err) TM.err) TM.err) TM.err) TM.err) TM.err
   exact fun v H' h=>by cases h;exact gr.write (H:=⟨next,bc,ws,t⟩) f _ A
theorem TM.wr{H:az}{f g off n:Nat}{new:List an}{v:an}:TM H (wr H f g off n new (.err 5) fun H=>.ok v H):=fun x H' h=>by
 obtain⟨H1,⟨_,_,_,_,_,_,z,_,_,_,_,_,e⟩,h⟩:=OP h
 cases h
 subst e
 exact gr.write f _ z
theorem TM.cm{H:az}{a b c:Nat}{d:List an}{E:Env}(z:H.bc≤H.next):TM H (wi a b c d E H):=
 TM.alloc (o:=.row a b c 1 1 0 (.one d)) (k:=fun f H=>.ok (.ptr f 1 0) H) z (fun _ _=>⟨_,rfl⟩)
theorem TM.mL{H:az}{f e:Nat}{v:an}:TM H (mL f e H fun H=>.ok v H):=by
 cases H with
 |mk next bc ws t=>
  show TM _ (Ev.iY (t.get f) _ _)
  cases z:t.get f with
  |none=>exact TM.err
  |some ob=>cases ob with
   |map=>exact TM.err
   |row A G I J K O U=>
   refine TM.aG (TM.aG (TM.aG (TM.wC ?_) TM.err) TM.err) TM.err
   exact fun v H' h=>by cases h;exact gr.write (H:=⟨next,bc,ws,t⟩) f _ z
theorem TM.ins{call:eI}{H:az}(z:H.bc≤H.next)(A:∀f a,TM H (call f a H))(E:Env)(o:bG):TM H (o.ev call E H):=by
 cases o with
 |oc x=>exact TM.bB (fun _=>TM.ok) TM.err
 |pick c a b=>exact TM.bB (fun _=>TM.sw (fun _=>TM.aG (TM.bB (fun _=>TM.ok) TM.err) (TM.bB (fun _=>TM.ok) TM.err)) TM.err) TM.err
 |cm a b c d=>exact TM.cm (E:=E) z
 |box a b c d=>exact TM.bB (fun _=>TM.ob (fun _=>TM.aG (TM.cm (E:=E) z) TM.err) TM.err) TM.err
 |load a b c=>exact TM.bB (fun _=>TM.iE (fun _ _ _=>TM.rd (fun _=>TM.iL (fun _=>TM.ok) TM.err) TM.err) TM.err) TM.err
 |store a b c=>exact TM.bB (fun _=>TM.iE (fun _ _ _=>TM.bB (fun _=>TM.ob (fun _=>TM.wr) TM.err) TM.err) TM.err) TM.err
 |bin op x y=>exact TM.bB (fun _=>TM.bB (fun _=>TM.yE) TM.err) TM.err
 |eqv c n x y=>exact TM.bB (fun _=>TM.bB (fun _=>TM.ob (fun _=>TM.ni fun _=>TM.ok) TM.err) TM.err) TM.err
 |un op x=>exact TM.bB (fun _=>TM.ob (fun _=>TM.mP fun _=>TM.ok) TM.err) TM.err
 |n5 x k=>exact TM.bB (fun _=>TM.iE (fun _ _ _=>TM.dk fun _=>TM.ok) TM.err) TM.err
 |sub x a b c=>exact TM.bB (fun _=>TM.o9 (fun _=>TM.aG (TM.iL (fun _=>TM.ok) TM.err) TM.err) TM.err) TM.err
 |iW a b x i=>exact TM.bB (fun _=>TM.iE (fun _ _ _=>TM.bB (fun _=>TM.idx (fun _=>TM.dk fun _=>TM.ok) TM.err) TM.err) TM.err) TM.err
 |dV a x i=>exact TM.bB (fun _=>TM.gL (fun _ _ _ _ _=>TM.bB (fun _=>TM.idx (fun _=>TM.dk fun _=>TM.ok) TM.err) TM.err) TM.err TM.err) TM.err
 |z6 a b c x i=>exact TM.bB (fun _=>TM.o9 (fun _=>TM.bB (fun _=>TM.idx (fun _=>TM.aG (TM.iL (fun _=>TM.ok) TM.err) TM.err) TM.err) TM.err) TM.err) TM.err
 |sv x i=>exact TM.bB (fun _=>TM.jJ (fun _ _=>TM.bB (fun _=>TM.idx (fun _=>TM.dk fun _=>TM.ok) TM.err) TM.err) TM.err) TM.err
 |ji x a b=>exact TM.bB (fun _=>TM.jJ (fun _ _=>TM.gi (fun _=>TM.gi (fun _=>TM.dk fun _=>TM.dk fun _=>TM.ok) TM.err) TM.err) TM.err) TM.err
 |pg n x a b=>exact TM.bB (fun _=>TM.gL (fun _ _ _ _ _=>TM.aG (TM.gi (fun _=>TM.gi (fun _=>TM.dk fun _=>TM.dk fun _=>TM.ok) TM.err) TM.err) TM.err) (TM.gi (fun _=>TM.gi (fun _=>TM.ok) TM.err) TM.err) TM.err) TM.err
 |wg k n x a b=>exact TM.bB (fun _=>TM.iE (fun _ _ _=>TM.iY (fun _ _ _ _ _ _ _=>TM.aG (TM.aG (TM.aG (TM.gi (fun _=>TM.gi (fun _=>TM.dk fun _=>TM.dk fun _=>TM.ok) TM.err) TM.err) TM.err) TM.err) TM.err) TM.err) TM.err) TM.err
 |rL x i=>exact TM.bB (fun _=>TM.si (fun _=>TM.ob (fun _=>TM.ok) TM.err) TM.err) TM.err
 |o8 x=>exact TM.bB (fun _=>TM.aG TM.ok TM.err) TM.err
 |n6 f G l=>exact TM.ob (fun _=>TM.ob (fun _=>TM.ok) TM.err) TM.err
 |uY t x=>exact TM.bB (fun _=>TM.ok) TM.err
 |yC a b c d e f=>exact TM.bB (fun _=>TM.gO (fun _ _=>TM.jj (fun _=>TM.bB (fun _=>TM.gO (fun _ _=>TM.jj (fun _=>TM.aG (TM.aG (TM.aG (TM.rep (TM.alloc z (fun _ _=>⟨_,rfl⟩))) TM.err) TM.err) TM.err) TM.err) TM.err) TM.err) TM.err) TM.err) TM.err
 |build a b=>exact TM.ob (fun _=>TM.ok) TM.err
 |cK a b c d e f=>exact TM.ob (fun _=>TM.alloc z (fun _ _=>⟨_,rfl⟩)) TM.err
 |len x=>exact TM.bB (fun _=>TM.gL (fun _ _ _ _ _=>TM.ok) TM.ok TM.err) TM.err
 |A1 n=>exact TM.ok
 |ph x=>exact TM.bB (fun _=>TM.jJ (fun _ _=>TM.ok) TM.err) TM.err
 |app a b c x y=>exact TM.bB (fun _=>TM.bB (fun _=>TM.gL (fun _ _ _ _ _=>TM.ob (fun _=>TM.jO z) TM.err) (TM.jO z) TM.err) TM.err) TM.err
 |re a x y=>exact TM.bB (fun _=>TM.bB (fun _=>TM.jJ (fun _ _=>TM.jO z) TM.err) TM.err) TM.err
 |copy a b c=>exact TM.err
 |z7 a b c=>exact TM.bB (fun _=>TM.gO (fun _ _=>TM.ob (fun _=>TM.ob (fun _=>TM.ok) TM.err) TM.err) TM.err) TM.err
 |conv k x=>exact TM.bB (fun _=>TM.gO (fun _ _=>TM.ll fun _=>TM.ok) TM.err) TM.err
 |C9 x=>exact TM.bB (fun _=>TM.ok) TM.err
 |xF e x=>exact TM.bB (fun _=>TM.jJ (fun _ _=>TM.aG (TM.fill (TM.alloc z (fun _ _=>⟨_,rfl⟩))) TM.err) TM.err) TM.err
 |qv x=>exact TM.bB (fun _=>TM.gL (fun _ _ _ _ _=>TM.ob (fun _=>TM.ob (fun _=>TM.dk fun _=>TM.ok) TM.err) TM.err) TM.ok TM.err) TM.err
 |call f l=>exact TM.ob (fun _=>A _ _) TM.err
 |mU x l=>exact TM.bB (fun _=>TM.ue (fun _ _ _=>TM.ob (fun _=>A _ _) TM.err) TM.err) TM.err
 |qC t n x=>exact TM.bB (fun _=>TM.aG TM.ok (TM.iE (fun _ _ _=>TM.iY (fun _ _ _ _ _ _ _=>TM.aG (TM.aG (TM.aG (TM.aG (TM.aG (TM.aG (TM.aG TM.ok TM.err) TM.err) TM.err) TM.err) TM.err) TM.err) TM.err) TM.err) TM.err)) TM.err
 |ve x=>exact TM.bB (fun _=>TM.gL (fun _ _ _ _ _=>TM.aG TM.err TM.ok) TM.ok TM.err) TM.err
 |qJ e x n=>exact TM.bB (fun _=>TM.aG (TM.bB (fun _=>TM.gO (fun _ _=>TM.jj (fun _=>TM.aG (TM.aG TM.ok TM.err) TM.err) TM.err) TM.err) TM.err) (TM.iE (fun _ _ _=>TM.bB (fun _=>TM.gO (fun _ _=>TM.jj (fun _=>TM.aG (TM.aG (TM.aG (TM.aG (TM.ob (fun _=>TM.ob (fun _=>TM.dk fun _=>TM.mL) TM.err) TM.err) TM.err) TM.err) TM.err) TM.err) TM.err) TM.err) TM.err) TM.err)) TM.err
mutual
theorem Cs(ρ:Ho):∀(v:Value)(a:an),kD v=some a→VR ρ a v
 |.bool b,a,h=>by simp only[kD,gP] at h;subst h;simp[VR]
 |.int k n,a,h=>by simp only[kD,gP] at h;subst h;simp[VR]
 |.float _ _,a,h=>by simp[kD] at h
 |.complex _ _ _,a,h=>by simp[kD] at h
 |.string s,a,h=>by simp only[kD,gP] at h;subst h;simp only[VR];exact⟨s,rfl,rfl,rfl⟩
 |.pointer none,a,h=>by simp only[kD,gP] at h;subst h;simp[VR]
 |.pointer (some _),a,h=>by simp[kD] at h
 |.slice none l c,a,h=>by
  unfold kD at h
  split at h<;>simp_all
  subst h
  simp[VR]
 |.slice (some _) _ _,a,h=>by simp[kD] at h
 |.map none,a,h=>by simp only[kD,gP] at h;subst h;simp[VR]
 |.map (some _),a,h=>by simp[kD] at h
 |.chan _,a,h=>by simp[kD] at h
 |.func _ _ _,a,h=>by simp[kD] at h
 |.nilFunc,a,h=>by simp only[kD,gP] at h;subst h;simp[VR]
 |.iface _ _,a,h=>by simp[kD] at h
 |.nilIface,a,h=>by simp only[kD,gP] at h;subst h;simp[VR]
 |.agg ⟨cs⟩,a,h=>by
  unfold kD at h
  split at h
  ·rename_i l z
   split at h
   ·rename_i hk
    cases h
    simp only[VR]
    exact⟨_,rfl,KJ ρ cs l z,hk⟩
   cases h
  cases h
 |.tuple _,a,h=>by simp[kD] at h
theorem KJ(ρ:Ho):∀(l:List Value)(z:List an),Ah l=some z→cF ρ z l
 |[],z,h=>by simp only[Ah,gP] at h;subst h;rfl
 |v::r,z,h=>by
  unfold Ah at h
  split at h
  ·rename_i x l A h2
   cases h
   exact⟨v,r,rfl,Cs ρ v x A,KJ ρ r l h2⟩
  cases h
end
def yH(P:Program)(g:Nat):Bool:=match P.globals[g]?with|some v=>v.name== "strconv.ErrRange"|none=>false
def uJ(P:Program)(ρ:Ho):Prop:=∀g,g<P.globals.size→∃h,ρ g 1=some h∧h.ca=g∧h.off=0∧(yH P g=true→h.ro=true∧h.mM=true)
def yj(P:Program)(w:World):Prop:=∀g,g<P.globals.size→g<w.heap.size∧(yH P g=true→∃z A,w.cell? ⟨g,0,none⟩=some (.iface z A))
structure AR(P:Program)(ρ:Ho)(nt:Nat)(E:Env)(a:Act):Prop where
 size:a.tmps.size=nt
 defers:a.defers=[]
 tmp:∀t v,E.get t=some v→∃cv,a.tmps[t.n]?=some cv∧VR ρ v cv
 rM:uJ P ρ
theorem AR.mono{P:Program}{ρ ρ':Ho}{nt:Nat}{E:Env}{a:Act}(h:AR P ρ nt E a)(A:ρ.le ρ'):AR P ρ' nt E a:=
 ⟨h.size,h.defers,fun t v e=>let⟨cv,z,h2⟩:=h.tmp t v e;⟨cv,z,h2.mono A⟩,fun g G=>let⟨x,z,h2⟩:=h.rM g G;⟨x,A _ _ _ z,h2⟩⟩
theorem AR.put{P:Program}{ρ:Ho}{nt:Nat}{E:Env}{a:Act}(h:AR P ρ nt E a){d:Key}(z:d.n<nt){v:an}{cv:Value}(A:VR ρ v cv):AR P ρ nt (E.set d v) (a.put (some d.n) cv):=by
 refine⟨by simp[Act.put,h.size],by simp[Act.put,h.defers],fun t x e=>?_,h.rM⟩
 rw[T4.eY] at e
 split at e
 ·rename_i he
  subst he
  cases e
  exact⟨cv,by simp[Act.put,h.size,z],A⟩
 rename_i he
 obtain⟨y,G,k⟩:=h.tmp t x e
 exact⟨y,by simp only[Act.put];rw[Array.getElem?_setIfInBounds_ne (fun e=>he (Key.inj e.symm))];exact G,k⟩
section
variable{P:Program}{ρ:Ho}{nt:Nat}{E:Env}{a:Act}
theorem AR.b8(h:AR P ρ nt E a){x:Operand}{y:aF}{v:an}(ho:dm P x=some y)(z:y.ev E=some v):VR ρ v (a.eval x):=by
 cases x with
 |tmp t=>
  simp only[dm] at ho
  split at ho
  ·rename_i G
   cases ho
   obtain⟨cv,A,h2⟩:=h.tmp (pk t) v z
   rw[wz G] at A
   simp only[Act.eval]
   rw[uW,A]
   exact h2
  cases ho
 |const c=>
  simp only[dm] at ho
  split at ho
  ·rename_i w I
   cases ho
   cases z
   exact Cs ρ _ _ I
  cases ho
 |global g=>
  simp only[dm] at ho
  split at ho
  ·rename_i J
   cases ho
   cases z
   obtain⟨x,K,rfl,h2,_⟩:=h.rM g J
   simp only[VR,Act.eval]
   exact⟨x,K,by simp[h2]⟩
  cases ho
 |func f=>
  simp only[dm,gP] at ho
  subst ho
  cases z
  simp only[VR,Act.eval]
  exact⟨#[],#[],rfl,by simp only[cF],by simp only[cF]⟩
theorem AR.dG(h:AR P ρ nt E a):∀{xs:List Operand}{ys:List aF}{vs:List an},lp P xs=some ys→jS E ys=some vs→cF ρ vs (xs.map a.eval)
 |[],ys,vs,ho,A=>by
  simp only[lp,gP] at ho
  subst ho
  cases A
  rfl
 |x::r,ys,vs,ho,A=>by
  simp only[lp] at ho
  split at ho
  ·rename_i y l I J
   cases ho
   have z:ob (y.ev E) none (fun v=>ob (jS E l) none fun vs=>some (v::vs))=some vs:=A
   cases G:y.ev E with
   |none=>rw[G] at z;cases z
   |some v=>
    rw[G] at z
    cases h2:jS E l with
    |none=>rw[h2] at z;cases z
    |some K=>
     rw[h2] at z
     cases z
     exact⟨_,_,rfl,h.b8 I G,AR.dG h J h2⟩
  cases ho
end
def fq(P:Program)(o:Oper)(a:Act)(w:World)(Φ:Value→World→Prop):Prop:=
 (∃cv w',(execOp a.eval o).run P w= .ok (.value cv) w'∧Φ cv w')∨
 (∃w',(execOp a.eval o).run P w= .ok .skip w'∧Φ undef w')∨
 (∃f args,(execOp a.eval o).run P w= .ok (.enter f args) w∧Calls P f args w fun e w'=>∃cv,e= .returned cv∧Φ cv w')
theorem Km{P:Program}{o:Oper}{a:Act}{w:World}{Φ:Value→World→Prop}{K:Act→World→Prop}{Q:Exit→Act→World→Prop}
  (h:fq P o a w Φ) (hk:∀cv w',Φ cv w'→K (a.put o.dst cv) w'):o.wp P a w K Q:=by
 unfold Oper.wp
 rcases h with⟨cv,w',e,hp⟩|⟨w',e,hp⟩|⟨f,args,e,hp⟩
 ·rw[e];exact hk _ _ hp
 ·rw[e];exact hk _ _ hp
 rw[e]
 refine Calls.mono hp fun e w' he=>?_
 obtain⟨cv,rfl,hp⟩:=he
 exact hk _ _ hp
noncomputable def gC(C:Nat→Option dQ)(H H':az)(f:Nat):Option dQ:=
 open Classical in
 if H.next≤f∧f<H'.next then H'.t.get f else if H'.t.get f=H.t.get f then C f else H'.t.get f
def Wr(H':az)(f:Nat):Prop:=f∈H'.ws∨H'.bc≤f
def dW(ρ:Ho)(C:Nat→Option dQ)(w:World)(H:az)(v:an)(H':az)(cv:Value)(w':World):Prop:=
 ∃ρ',VR ρ' v cv∧Ext (Wr H') H.next H'.next ρ ρ' w w'∧R ρ' (gC C H H') w'
theorem pJ(C:Nat→Option dQ)(H:az):gC C H H=C:=by
 funext f
 unfold gC
 rw[aj (by omega),aw rfl]
theorem dW.pure{ρ:Ho}{C:Nat→Option dQ}{w:World}{H:az}{v:an}{cv:Value}(z:R ρ C w)(A:VR ρ v cv):dW ρ C w H v H cv w:=
 ⟨ρ,A,Ext.refl _ _ _ _,by rw[pJ];exact z⟩
theorem CJ{a b:IntKind}(h:Nat.beq (dw a) (dw b)=true):a=b:=by cases a<;>cases b<;>first|rfl|cases h
theorem oZ(a b:Int):lh a b=decide (a<b):=by
 rw[gg,decide_eq_true_iff]
 cases a with
 |ofNat a=>cases b with
  |ofNat b=>simp only[lh,Nat.ble_eq,bb];omega
  |negSucc b=>simp only[lh,bb,lV,p9,false_iff];omega
 |negSucc a=>cases b with
  |ofNat b=>simp only[lh,bb,lV,true_iff];omega
  |negSucc b=>simp only[lh,Nat.ble_eq,lV];omega
theorem uf(a b:Int):mr a b=decide (a=b):=by
 rw[gg,decide_eq_true_iff]
 cases a with
 |ofNat a=>cases b with
  |ofNat b=>simp only[mr,rP,bb];omega
  |negSucc b=>simp only[mr,bb,lV,p9,false_iff];omega
 |negSucc a=>cases b with
  |ofNat b=>simp only[mr,bb,lV,p9,false_iff];omega
  |negSucc b=>simp only[mr,rP,lV];omega
theorem J3(a b:List UInt8):pack (a++b)=pack a+256^a.length*pack b:=by
 induction a with
 |nil=>simp[pack]
 |cons x r z=>
  simp only[yV,pack,z,cP,yz]
  rw[Nat.mul_add,←mX,←AT,mY 256 (256^r.length)]
theorem Mg(a:List UInt8):pack a<256^a.length:=by
 induction a with
 |nil=>simp[pack]
 |cons x r z=>
  simp only[pack,cP,yz]
  have:x.toNat<256:=x.toNat_lt
  omega
theorem Ce(l:List UInt8)(i:Nat):pack l/256^i=pack (l.drop i):=by
 induction i generalizing l with
 |zero=>simp
 |succ i z=>
  cases l with
  |nil=>simp[pack]
  |cons x r=>
   simp only[pack,List.drop_succ_cons]
   have A:x.toNat<256:=x.toNat_lt
   have e:(x.toNat+256*pack r)/256=pack r:=by omega
   rw[yz,mY (256^i) 256,←Nat.div_div_eq_div_mul,e,z]
theorem Cf(l:List UInt8)(n:Nat):pack l % 256^n=pack (l.take n):=by
 by_cases h:n≤l.length
 ·have z:pack l=pack (l.take n)+256^n*pack (l.drop n):=by
   have:=J3 (l.take n) (l.drop n)
   rw[E3,jw,Nat.min_eq_left h] at this
   exact this
  have h2:=Mg (l.take n)
  rw[jw,Nat.min_eq_left h] at h2
  rw[z,Nat.add_mul_mod_self_left,AU h2]
 have h':l.length≤n:=by omega
 rw[pf h']
 refine AU (mI (Mg l) ?_)
 exact AV (by omega) h'
theorem IL(i:Nat):2^(8*i)=256^i:=by rw[Nat.pow_mul]
theorem Pl(v i:Nat):Nat.shiftRight v (Nat.mul 8 i)=v/256^i:=by
 show v>>>(8*i)=_
 rw[Nat.shiftRight_eq_div_pow,IL]
theorem J4(l:List UInt8)(i:Nat)(h:i<l.length):vU (pack l) i=(l[i]).toNat:=by
 unfold vU
 rw[Pl,Ce]
 show pack (l.drop i) % 256=_
 have z:=Cf (l.drop i) 1
 rw[AW] at z
 have e:(l.drop i).take 1=[l[i]]:=by rw[AX h];rfl
 rw[e] at z
 rw[z]
 show l[i].toNat+256*0=_
 omega
theorem J5(l:List UInt8)(lo hi:Nat):xG (pack l) lo hi=pack ((l.drop lo).take (hi-lo)):=by
 unfold xG
 rw[Pl,Ce,←Cf]
 show _ % (1<<<(8*(hi-lo)))=_
 rw[Nat.shiftLeft_eq,sN,IL]
theorem J6(a b:List UInt8):z8 a.length (pack a) (pack b)=pack (a++b):=by
 unfold z8
 rw[J3]
 show pack a+(pack b)<<<(8*a.length)=_
 rw[Nat.shiftLeft_eq,IL,mY]
theorem Ly:∀{a b:List UInt8},a.length=b.length→pack a=pack b→a=b
 |[],[],_,_=>rfl
 |[],_::_,h,_=>by simp at h
 |_::_,[],h,_=>by simp at h
 |x::r,y::s,h,k=>by
  simp only[pack] at k
  have z:x.toNat<256:=x.toNat_lt
  have A:y.toNat<256:=y.toNat_lt
  have e1:x.toNat=y.toNat:=by omega
  have e2:pack r=pack s:=by omega
  rw[Ly (by simpa using h) e2,UInt8.toNat_inj.1 e1]
theorem B9(a b:List UInt8):rA a.length (pack a) b.length (pack b)=decide (a=b):=by
 unfold rA
 rw[gg,decide_eq_true_iff]
 constructor
 ·intro h
  split at h
  ·rename_i z
   exact Ly (eb z) (eb h)
  cases h
 rintro rfl
 simp
theorem Kn:∀(a b:List UInt8),strLt a.length (pack a) b.length (pack b)=Op.bytesLess a b
 |[],[]=>rfl
 |[],_::_=>rfl
 |x::r,[]=>rfl
 |x::r,y::s=>by
  have J:x.toNat<256:=x.toNat_lt
  have K:y.toNat<256:=y.toNat_lt
  have e1:Nat.mod (pack (x::r)) 256=x.toNat:=by show(x.toNat+256*pack r) % 256=_;omega
  have e2:Nat.mod (pack (y::s)) 256=y.toNat:=by show(y.toNat+256*pack s) % 256=_;omega
  have z:Nat.div (pack (x::r)) 256=pack r:=by show(x.toNat+256*pack r)/256=_;omega
  have A:Nat.div (pack (y::s)) 256=pack s:=by show(y.toNat+256*pack s)/256=_;omega
  have step:strLt (x::r).length (pack (x::r)) (y::s).length (pack (y::s))=
    match Nat.beq (Nat.mod (pack (x::r)) 256) (Nat.mod (pack (y::s)) 256) with
    |true=>strLt r.length (Nat.div (pack (x::r)) 256) s.length (Nat.div (pack (y::s)) 256)
    |false=>Nat.ble (Nat.succ (Nat.mod (pack (x::r)) 256)) (Nat.mod (pack (y::s)) 256):=rfl
  rw[step,e1,e2,z,A,Kn r s]
  simp only[Op.bytesLess]
  by_cases h:x=y
  ·subst h
   have:¬(x<x):=by rw[AY];omega
   simp[this]
  have G:Nat.beq x.toNat y.toNat=false:=by
   rw[←FI,rP]
   exact fun e=>h (UInt8.toNat_inj.1 e)
  rw[G]
  have I:(x==y)=false:=by simpa using h
  simp only[I,Bool.false_and,Bool.or_false]
  rw[gg,Nat.ble_eq,decide_eq_true_iff,AY]
  exact Iff.rfl
end Go.Ev
