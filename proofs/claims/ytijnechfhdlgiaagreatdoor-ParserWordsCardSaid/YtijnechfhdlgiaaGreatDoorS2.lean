/- Part 2 of rules for walks through the code of a program, and of such walks; what each part proves is said by its theorems. -/
import Derived.Test.YtijnechfhdlgiaaGreatDoorS1
import GoSem.Core.Layout
import GoSem.ClaimKeys
import Derived.IntWalk
import Derived.Deep.AppendSrc
import Derived.RowKit3
set_option linter.unusedVariables false
set_option linter.unusedSimpArgs false
namespace Go.Ev
mutual
def valOf:Value→Option an
 |.bool b=>some (.bool b)
 |.int k n=>some (.int k n)
 |.string s=>some (.str s.size (pack s.data.toList))
 |.pointer none=>some .hU
 |.slice none 0 0=>some .cb
 |.nilIface=>some .gO
 |.nilFunc=>some .nC
 |.map none=>some .tR
 |.agg cs=>match zQ cs.toList with
  |some l=>if l.all gW then some (.agg l) else none
  |none=>none
 |_=>none
def zQ:List Value→Option (List an)
 |[]=>some []
 |v::r=>match valOf v,zQ r with
  |some a,some l=>some (a::l)
  |_,_=>none
end
def cellsOf:an→Option (List an)
 |.agg cs=>some cs
 |.tuple _=>none
 |.undef=>none
 |v=>some [v]
def de(P:Program):Operand→Option aG
 |.tmp t=>if t<1296 then some (.t (pk t)) else none
 |.const v=>match valOf v with|some a=>some (.c a)|none=>none
 |.global g=>if g<P.globals.size then some (.c (.ptr g 1 0)) else none
 |.func f=>some (.c (.func f [] []))
def kX(P:Program):List Operand→Option (List aG)
 |[]=>some []
 |x::r=>match de P x,kX P r with
  |some a,some l=>some (a::l)
  |_,_=>none
def zeroOf(P:Program)(t:TypeId):Option (List an):=
 match P.info? t with
 |some i=>match i.zero with
  |some z=>match valOf z with
   |some v=>match cellsOf v with
    |some l=>if l.length=i.size∧0<i.size then some l else none
    |none=>none
   |none=>none
  |none=>none
 |none=>none
def pJ(P:Program)(t:TypeId):Bool:=match P.underlying t with|some (.struct _)=>true|some (.array _ _)=>true|_=>false
def A4:bE:=.mI (.c .hU) []
def Hp(P:Program):TypeDesc→Option yB
 |.bool=>some .bool
 |.pointer e=>match P.info? e with|some _=>some .ptr|none=>none
 |.slice _=>some .slice
 |.interface _=>some .iface
 |.func _ _ _=>some .func
 |.map _ _=>some .map
 |_=>none
def wT:Operand→Bool
 |.const _=>true
 |_=>false
def CA(x y:Operand):TypeDesc→Bool
 |.interface ms=>ms.isEmpty||wT x||wT y
 |_=>true
def Cb(P:Program)(g:TypeId→Option (List Nat)):Nat→List Field→Option (List Nat)
 |_,[]=>some []
 |off,f::r=>match g f.type with
  |some k=>if f.offset=off∧k.length=P.cellsOf f.type then
    match Cb P g (off+k.length) r with
    |some l=>some (k++l)
    |none=>none
   else none
  |none=>none
def tG(P:Program):Nat→TypeId→Option (List Nat)
 |0,_=>none
 |d+1,t=>match P.underlying t with
  |some .bool=>some [100]
  |some (.int k)=>some [dn k]
  |some .string=>some [101]
  |some (.struct z)=>match Cb P (tG P d) 0 z.toList with
   |some ks=>if ks.length=P.cellsOf t∧z.all (·.name != "_")=true then some ks else none
   |none=>none
  |_=>none
def Hq(P:Program)(op:BinOp)(t:TypeId)(x y:aG):Option bE:=
 match tG P 12 t with
 |some ks=>if P.keyTypeAt 12 t=true∧P.eqGuardType P.depth t=false then
   match op with
   |.eql=>some (.eqv (.agg ks) false x y)
   |.neq=>some (.eqv (.agg ks) true x y)
   |_=>none
  else none
 |none=>none
def HV(P:Program)(op:BinOp)(d:TypeDesc)(z A:Operand)(x y:aG):Option bE:=
 match Hp P d with
 |some c=>if CA z A d=true then
   match op with
   |.eql=>some (.eqv c false x y)
   |.neq=>some (.eqv c true x y)
   |_=>none
  else none
 |none=>none
def N5(P:Program)(op:BinOp)(t:TypeId)(z A:Operand)(x y:aG):Option bE:=
 match P.underlying t with
 |some (.int _)=>some (.bin op x y)
 |some .string=>some (.bin op x y)
 |some (.struct _)=>Hq P op t x y
 |some d=>HV P op d z A x y
 |none=>none
def jw(P:Program)(t:TypeId):Option Nat:=match P.info? t,P.underlying t with|some i,some _=>if i.size≠0 then some i.size else none|_,_=>none
def Cc(P:Program)(t:TypeId)(x:aG):Option bE:=
 match P.info? t with
 |some j=>if j.size≠0 then some (.qp t (P.cellsOf t) x) else none
 |none=>none
def Gq(P:Program)(src dst:TypeId)(x:aG):Option bE:=
 match P.underlying src,P.underlying dst with
 |some .string,some (.slice e)=>match P.underlying e with
  |some (.int .u8)=>some (.xl e x)
  |_=>none
 |some (.slice e),some .string=>match P.underlying e with
  |some (.int .u8)=>some (.pH x)
  |_=>none
 |some (.pointer t),some .unsafePointer=>Cc P t x
 |some .unsafePointer,some (.pointer t)=>Cc P t x
 |_,_=>none
def Mt(P:Program)(src dst:TypeId)(x:aG):Option bE:=
 match P.underlying src,P.underlying dst with
 |some (.int _),some (.int k)=>some (.conv k x)
 |_,_=>Gq P src dst x
def xp(P:Program)(place:Nat→Option (Nat×Nat)):List (Nat×Operand)→Option (List (Nat×Nat×aG))
 |[]=>some []
 |(i,x)::r=>match place i,de P x,xp P place r with
  |some q,some y,some l=>some ((q.1,q.2,y)::l)
  |_,_,_=>none
def Cd(P:Program):List (Nat×Operand)→Option (List (Nat×aG))
 |[]=>some []
 |(i,x)::r=>match de P x,Cd P r with
  |some y,some l=>some ((i,y)::l)
  |_,_=>none
def pK(P:Program):Option Operand→Option (Option aG)
 |none=>some none
 |some x=>match de P x with|some y=>some (some y)|none=>none
def Ce(z:List an):Option (List (Nat×Nat×aG))→Option bE
 |some l=>if(l.all fun p=>decide (p.1+p.2.1≤z.length))=true then some (.build z l) else none
 |none=>none
def Gr(P:Program)(t:TypeId)(parts:List (Nat×Operand)):Option bE:=
 match zeroOf P t with
 |some z=>match P.underlying t with
  |some (.struct I)=>match I.toList.mapM (fun f=>(P.info? f.type).map fun i=>(f.offset,i.size)) with
   |some A=>Ce z (xp P (fun i=>A.toArray[i]?) parts)
   |none=>none
  |some (.array _ e)=>match P.info? e with
   |some G=>Ce z (xp P (fun i=>some (i*G.size,G.size)) parts)
   |none=>none
  |_=>none
 |none=>none
def FW(P:Program)(t:TypeId)(A:Nat)(parts:List (Nat×Operand)):Option bE:=
 match P.underlying t with
 |some (.slice e)=>match P.info? e,zeroOf P e with
  |some i,some z=>match Cd P parts with
   |some l=>if A*i.size≤16777216 then some (.cH e i.size i.bytes A z l) else none
   |none=>none
  |_,_=>none
 |_=>none
def GP(P:Program)(t:TypeId)(a b:aG):Option bE:=
 match P.underlying t with
 |some (.slice e)=>match P.info? e,zeroOf P e with
  |some i,some z=>if i.bytes≠0 then some (.yi e i.size i.bytes z a b) else none
  |_,_=>none
 |_=>none
def Tz(_:Program)(_:TypeId)(_:aG)(_ _:Option aG):Option bE:=none
def KN(mx:Bool):List aG→Option bE
 |x::r=>some (.zH mx x r)
 |[]=>none
def TA(_:Program)(_:Op):Option bE:=none
def GQ(P:Program)(c:Call):Option bE:=
 match c.callee,kX P c.args.toList with
 |.value f,some args=>match f with
  |.func f=>some (.call f args)
  |f=>match de P f with|some y=>some (.mI y args)|none=>none
 |.builtin .len,some [x]=>match c.argTypes[0]?with
  |some t=>match P.underlying t with
   |some .string=>some (.o5 x)
   |some (.slice _)=>some (.len x)
   |some (.array n _)=>some (.AE n)
   |_=>none
  |none=>none
 |.builtin .append,some [x,y]=>match c.argTypes[0]?,c.argTypes[1]?with
  |some t,some u=>match P.underlying t,P.underlying u with
   |some (.slice e),some (.slice _)=>match P.info? e,zeroOf P e with
    |some i,some _=>if i.bytes≠0 then some (.app e i.size i.bytes x y) else none
    |_,_=>none
   |some (.slice e),some .string=>match P.info? e,zeroOf P e with
    |some i,some _=>if i.size=1∧i.bytes=1 then some (.sc e x y) else none
    |_,_=>none
   |_,_=>none
  |_,_=>none
 |.builtin .unsafeSliceData,some [x]=>some (.uV x)
 |.builtin .unsafeString,some [x,y]=>match c.argTypes.toList with
  |[z,_]=>match P.underlying z with
   |some (.pointer e)=>if P.cellsOf e=1 then some (.qw e x y) else none
   |_=>none
  |_=>none
 |.builtin .min,some l=>KN false l
 |.builtin .max,some l=>KN true l
 |_,_=>none
def AN(P:Program)(o:Op):Option bE:=
 match o with
 |.move x=>match de P x with|some y=>some (.nX y)|none=>none
 |.assign x=>match de P x with|some y=>some (.nX y)|none=>none
 |.pick c a b=>match de P c,de P a,de P b with|some c,some a,some b=>some (.pick c a b)|_,_,_=>none
 |.alloc t=>match zeroOf P t,P.info? t with|some z,some i=>some (.cf t i.size i.bytes z)|_,_=>none
 |.box t x=>match jw P t,P.info? t,de P x with|some n,some i,some y=>some (.box t n i.bytes y)|_,_,_=>none
 |.build t parts=>Gr P t parts.toList
 |.buildSlice t I parts=>FW P t I parts.toList
 |.load t a=>match jw P t,de P a with|some n,some y=>some (.load n (pJ P t) y)|_,_=>none
 |.store t a x=>match jw P t,de P a,de P x with|some n,some y,some z=>some (.store n y z)|_,_,_=>none
 |.nilCheck x=>match de P x with|some y=>some (.oV y)|none=>none
 |.binOp op t x y _=>match de P x,de P y with|some a,some b=>N5 P op t x y a b|_,_=>none
 |.unOp op _ x=>match de P x with|some y=>some (.un op y)|none=>none
 |.convert src dst x=>match de P x with|some y=>Mt P src dst y|none=>none
 |.makeInterface t x=>match P.underlying t,de P x with
  |some (.interface _),_=>none
  |some _,some y=>some (.uM t y)
  |_,_=>none
 |.makeFunc (.func f) first eG=>match kX P first.toList,kX P eG.toList with|some G,some l=>some (.nS f G l)|_,_=>none
 |.makeSlice t I J=>match de P I,de P J with|some a,some b=>GP P t a b|_,_=>none
 |.slice t x lo hi none=>match P.underlying t,de P x,pK P lo,pK P hi with
  |some .string,some x,some lo,some hi=>some (.iR x lo hi)
  |some (.slice e),some x,some lo,some hi=>match jw P e with|some n=>some (.pX n x lo hi)|none=>none
  |some _,some x,some lo,some hi=>Tz P t x lo hi
  |_,_,_,_=>none
 |.fieldAddr s x f=>match P.underlying s,de P x with
  |some (.struct G),some y=>match G[f]?with
   |some A=>match jw P A.type with|some _=>some (.nR y A.offset)|none=>none
   |none=>none
  |_,_=>none
 |.field s x f=>match P.underlying s,de P x with
  |some (.struct G),some y=>match G[f]?with
   |some A=>match jw P A.type with|some n=>some (.sub y A.offset n (pJ P A.type))|none=>none
   |none=>none
  |_,_=>none
 |.indexAddr t x i=>match P.underlying t,de P x,de P i with
  |some (.array k e),some x,some i=>match jw P e with|some n=>if 1<k then some (.kr k n x i) else none|none=>none
  |some (.slice e),some x,some i=>match jw P e with|some n=>some (.eg n x i)|none=>none
  |_,_,_=>none
 |.index t x i=>match P.underlying t,de P x,de P i with
  |some (.array k e),some x,some i=>match jw P e with|some n=>some (.zG k n (pJ P e) x i)|none=>none
  |some .string,some x,some i=>some (.sb x i)
  |_,_,_=>none
 |.extract x i=>match de P x with|some y=>some (.ry y i)|none=>none
 |.call c=>GQ P c
 |o=>TA P o
def mF:bE→Bool
 |.cf ..|.box ..|.load ..|.store ..|.yi ..|.cH ..|.app ..|.sc ..|.copy ..|.xl ..|.pH ..|.vS ..|.call ..|.mI ..|.qp ..|.qw ..=>false
 |_=>true
structure Hm where
 b8:Nat
 off:Nat
 room:Nat
 ro:Bool
 mB:Bool:=false
abbrev Ho:=Nat→Nat→Option Hm
def HW(h:Hm)(a:Addr)(l cap o es:Nat):Prop:=
 (a=⟨h.b8,h.off+o,none⟩∧o+cap*es≤h.room)∨(l=0∧cap=0∧0<o)
mutual
def VR(ρ:Ho):an→Value→Prop
 |.bool b,v=>v= .bool b
 |.int k n,v=>v= .int k n
 |.str l s,v=>∃b:ByteArray,v= .string b∧l=b.size∧s=pack b.data.toList
 |.ptr f g o,v=>∃h,ρ f g=some h∧v= .pointer (some ⟨h.b8,h.off+o,none⟩)
 |.hU,v=>v= .pointer none
 |.slice f g o l es,v=>∃h a cap,ρ f g=some h∧v= .slice (some a) l cap∧l≤cap∧HW h a l cap o es
 |.cb,v=>v= .slice none 0 0
 |.agg cs,v=>∃vs,v= .agg vs∧cB ρ cs vs.toList∧cs.all gW=true
 |.tuple cs,v=>∃vs,v= .tuple vs∧cB ρ cs vs.toList
 |.func f first eG,v=>∃z vs,v= .func (.func f) z vs∧cB ρ first z.toList∧cB ρ eG vs.toList
 |.nC,v=>v= .nilFunc
 |.iface t a,v=>∃x,v= .iface t x∧VR ρ a x
 |.gO,v=>v= .nilIface
 |.map _,v=>∃a:Addr,v= .pointer (some a)
 |.tR,v=>v= .map none
 |.undef,v=>v=undef
def cB(ρ:Ho):List an→List Value→Prop
 |[],vs=>vs=[]
 |a::r,vs=>∃v t,vs=v::t∧VR ρ a v∧cB ρ r t
end
def Ho.le(ρ ρ':Ho):Prop:=∀f g h,ρ f g=some h→ρ' f g=some h
theorem Ho.le_refl(ρ:Ho):ρ.le ρ:=fun _ _ _ h=>h
theorem Ho.le_trans{a b c:Ho}(h:a.le b)(k:b.le c):a.le c:=fun f g x z=>k f g x (h f g x z)
mutual
theorem VR.mono{ρ ρ':Ho}(z:ρ.le ρ'):∀{a:an}{v:Value},VR ρ a v→VR ρ' a v
 |.bool _,_,h=>by simpa[VR] using h
 |.int _ _,_,h=>by simpa[VR] using h
 |.str _ _,_,h=>by simpa[VR] using h
 |.ptr _ _ _,_,h=>by
  simp only[VR] at h⊢
  obtain⟨x,G,e⟩:=h
  exact⟨x,z _ _ _ G,e⟩
 |.hU,_,h=>by simpa[VR] using h
 |.slice _ _ _ _ _,_,h=>by
  simp only[VR] at h⊢
  obtain⟨x,a,c,G,e⟩:=h
  exact⟨x,a,c,z _ _ _ G,e⟩
 |.cb,_,h=>by simpa[VR] using h
 |.agg cs,_,h=>by
  simp only[VR] at h⊢
  obtain⟨vs,e,A,ho⟩:=h
  exact⟨vs,e,cB.mono z A,ho⟩
 |.tuple cs,_,h=>by
  simp only[VR] at h⊢
  obtain⟨vs,e,A⟩:=h
  exact⟨vs,e,cB.mono z A⟩
 |.func _ _ cs,_,h=>by
  simp only[VR] at h⊢
  obtain⟨I,vs,e,J,A⟩:=h
  exact⟨I,vs,e,cB.mono z J,cB.mono z A⟩
 |.nC,_,h=>by simpa[VR] using h
 |.iface _ a,_,h=>by
  simp only[VR] at h⊢
  obtain⟨x,e,A⟩:=h
  exact⟨x,e,VR.mono z A⟩
 |.gO,_,h=>by simpa[VR] using h
 |.map _,_,h=>by simp only[VR] at h⊢;exact h
 |.tR,_,h=>by simpa[VR] using h
 |.undef,_,h=>by simpa[VR] using h
theorem cB.mono{ρ ρ':Ho}(z:ρ.le ρ'):∀{a:List an}{v:List Value},cB ρ a v→cB ρ' a v
 |[],_,h=>by simpa[cB] using h
 |a::r,_,h=>by
  simp only[cB] at h⊢
  obtain⟨v,t,e,A,h2⟩:=h
  exact⟨v,t,e,VR.mono z A,cB.mono z h2⟩
end
theorem cB.length{ρ:Ho}:∀{a:List an}{v:List Value},cB ρ a v→v.length=a.length
 |[],_,h=>by simp only[cB] at h;subst h;rfl
 |a::r,_,h=>by
  simp only[cB] at h
  obtain⟨v,t,rfl,_,h2⟩:=h
  simp[cB.length h2]
theorem cB.get{ρ:Ho}:∀{a:List an}{v:List Value},cB ρ a v→∀(i:Nat)(x:an),a[i]?=some x→∃y,v[i]?=some y∧VR ρ x y
 |[],_,_,i,x,z=>by simp at z
 |a::r,_,h,i,x,z=>by
  simp only[cB] at h
  obtain⟨v,t,rfl,A,h2⟩:=h
  cases i with
  |zero=>simp at z;subst z;exact⟨v,rfl,A⟩
  |succ i=>simp at z;obtain⟨y,G,k⟩:=cB.get h2 i x z;exact⟨y,by simpa using G,k⟩
theorem cB.qT{ρ:Ho}:∀{a:List an}{v:List Value},v.length=a.length→(∀(i:Nat)(x:an),a[i]?=some x→∃y,v[i]?=some y∧VR ρ x y)→cB ρ a v
 |[],v,z,_=>by simp only[cB];exact sS (by simpa using z)
 |a::r,[],z,_=>by simp at z
 |a::r,v::t,z,h=>by
  simp only[cB]
  refine⟨v,t,rfl,?_,cB.qT (by simpa using z) fun i x G=>?_⟩
  ·obtain⟨y,A,k⟩:=h 0 a rfl;simp at A;subst A;exact k
  obtain⟨y,A,k⟩:=h (i+1) x (by simpa using G);exact⟨y,by simpa using A,k⟩
theorem cB.append{ρ:Ho}{a b:List an}{v u:List Value}(h:cB ρ a v)(k:cB ρ b u):cB ρ (a++b) (v++u):=by
 induction a generalizing v with
 |nil=>simp only[cB] at h;subst h;exact k
 |cons x r z=>
  simp only[cB] at h
  obtain⟨y,t,rfl,A,h2⟩:=h
  simp only[yA,cB]
  exact⟨y,t++u,rfl,A,z h2⟩
theorem cB.take{ρ:Ho}{a:List an}{v:List Value}(h:cB ρ a v)(n:Nat):cB ρ (a.take n) (v.take n):=by
 refine cB.qT (by simp[h.length]) fun i x z=>?_
 rw[A0] at z
 split at z
 ·obtain⟨y,A,k⟩:=h.get i x z
  exact⟨y,by rw[A0,aw (by assumption)];exact A,k⟩
 cases z
theorem cB.drop{ρ:Ho}{a:List an}{v:List Value}(h:cB ρ a v)(n:Nat):cB ρ (a.drop n) (v.drop n):=by
 refine cB.qT (by simp[h.length]) fun i x z=>?_
 rw[sT] at z
 obtain⟨y,A,k⟩:=h.get _ x z
 exact⟨y,by rw[sT];exact A,k⟩
theorem VR.cells{ρ:Ho}{a:an}{v:Value}{l:List an}(h:VR ρ a v)(z:jK a=some l):cB ρ l v.cells.toList∧l.all gW=true:=by
 have one:∀{x:an}{y:Value},VR ρ x y→y.cells=#[y]→gW x=true→l=[x]→cB ρ l y.cells.toList∧l.all gW=true:=by
  intro x y A G hk I
  subst I
  rw[G]
  exact⟨⟨y,[],rfl,A,rfl⟩,by simp[hk]⟩
 cases a<;>simp only[jK,gJ,reduceCtorEq] at z
 case agg cs=>
  simp only[VR] at h
  obtain⟨vs,rfl,J,ho⟩:=h
  subst z
  exact⟨J,ho⟩
 case bool b=>exact one h (by simp only[VR] at h;subst h;rfl) rfl z.symm
 case int k n=>exact one h (by simp only[VR] at h;subst h;rfl) rfl z.symm
 case str k n=>exact one h (by simp only[VR] at h;obtain⟨b,rfl,_⟩:=h;rfl) rfl z.symm
 case ptr f g o=>exact one h (by simp only[VR] at h;obtain⟨b,_,rfl⟩:=h;rfl) rfl z.symm
 case hU=>exact one h (by simp only[VR] at h;subst h;rfl) rfl z.symm
 case slice f g o l es=>exact one h (by simp only[VR] at h;obtain⟨_,_,_,_,rfl,_⟩:=h;rfl) rfl z.symm
 case cb=>exact one h (by simp only[VR] at h;subst h;rfl) rfl z.symm
 case func f K c=>exact one h (by simp only[VR] at h;obtain⟨_,_,rfl,_⟩:=h;rfl) rfl z.symm
 case nC=>exact one h (by simp only[VR] at h;subst h;rfl) rfl z.symm
 case iface t x=>exact one h (by simp only[VR] at h;obtain⟨_,rfl,_⟩:=h;rfl) rfl z.symm
 case gO=>exact one h (by simp only[VR] at h;subst h;rfl) rfl z.symm
 case map f=>exact one h (by simp only[VR] at h;obtain⟨a,rfl⟩:=h;rfl) rfl z.symm
 case tR=>exact one h (by simp only[VR] at h;subst h;rfl) rfl z.symm
theorem VR.V3{ρ:Ho}{a:an}{v:Value}(h:VR ρ a v)(hk:gW a=true):(∀cs,v≠.agg cs)∧(∀cs,v≠.tuple cs):=by
 cases a<;>simp only[VR,gW,pU] at h hk
 all_goals first
  |(subst h;exact⟨fun _=>by simp,fun _=>by simp⟩)
  |(obtain⟨_,rfl⟩:=h;exact⟨fun _=>by simp,fun _=>by simp⟩)
  |(obtain⟨_,rfl,_⟩:=h;exact⟨fun _=>by simp,fun _=>by simp⟩)
  |(obtain⟨_,_,rfl⟩:=h;exact⟨fun _=>by simp,fun _=>by simp⟩)
  |(obtain⟨_,_,rfl,_⟩:=h;exact⟨fun _=>by simp,fun _=>by simp⟩)
  |(obtain⟨_,_,_,_,rfl,_⟩:=h;exact⟨fun _=>by simp,fun _=>by simp⟩)
structure D3(ρ:Ho)(w:World)(h:Hm)(g elem es n fl:Nat)(cs:RT):Prop where
 row:∃c fz,w.heap[h.b8]?=some (.cells c elem fz)∧h.off+h.room≤c.size
 fits:g*es≤h.room
 cell:∀i,i<g→∃l,cs.get i=some l∧l.length=es∧∀j x,l[j]?=some x→gW x=true∧∃cv,w.cell? ⟨h.b8,h.off+i*es+j,none⟩=some cv∧VR ρ x cv
 Al:fl=0→∀i,i<h.room→w.frozen? ⟨h.b8,h.off+i,none⟩=false
 xS:fl≠1→∀i,n*es≤i→i<h.room→w.frozen? ⟨h.b8,h.off+i,none⟩=false
 sF:fl=0∨fl=2→h.off=0
 yE:fl=0∨fl=2→∀c e fz,w.heap[h.b8]?=some (.cells c e fz)→fz.1=fz.2∨fz.2≤n*es
def Am(ρ:Ho)(w:World)(h:Hm)(g:Nat):dP→Prop
 |.row elem es _ n lo fl cs=>0<es∧(h.ro=true→fl=1)∧g≤n∧(lo≤g→g≤n→D3 ρ w h g elem es n fl cs)
 |.map _=>False
def yF(ρ:Ho)(w:World)(f:Nat)(h:Hm):Prop:=(∀g' h',ρ f g'=some h'→h'.ro=true)∧∃z A,w.cell? ⟨h.b8,h.off,none⟩=some (.iface z A)
structure R(ρ:Ho)(C:Nat→Option dP)(w:World):Prop where
 obj:∀f o,C f=some o→∀g h,ρ f g=some h→Am ρ w h g o
 nT:∀f g h f' g' h',ρ f g=some h→ρ f' g'=some h'→f≠f'→h.b8=h'.b8→h.ro=true∧h'.ro=true
 jZ:∀f g h,ρ f g=some h→h.b8<w.heap.size
 uniq:∀f g h g' h',ρ f g=some h→ρ f g'=some h'→h.b8=h'.b8→h.off=h'.off
 mB:∀f g h,ρ f g=some h→h.ro=true→h.mB=true→yF ρ w f h
structure Ext(W:Nat→Prop)(n0 n1:Nat)(ρ ρ':Ho)(w w':World):Prop where
 le:ρ.le ρ'
 ji:∀f g h,ρ' f g=some h→(∃g0 h0,ρ f g0=some h0)∨(n0≤f∧f<n1)
 b8:∀f g h,ρ' f g=some h→ρ f g=some h∨(w.heap.size≤h.b8∧h.ro=false)∨(∃g0 h0,ρ f g0=some h0∧h0.b8=h.b8∧h0.ro=h.ro)
 frame:∀b,b<w.heap.size→(∀f g h,ρ f g=some h→h.ro=false→W f→h.b8≠b)→w'.heap[b]?=w.heap[b]?
 size:w.heap.size≤w'.heap.size
 nn:n0≤n1
 os:w'.os=w.os
 tape:w'.tape=w.tape
 output:w'.output=w.output
theorem Ext.refl(W:Nat→Prop)(n:Nat)(ρ:Ho)(w:World):Ext W n n ρ ρ w w:=
 ⟨Ho.le_refl _,fun f g h e=>.inl ⟨g,h,e⟩,fun _ _ _ e=>.inl e,fun _ _ _=>rfl,bY _,bY _,rfl,rfl,rfl⟩
theorem Ext.mono{W z:Nat→Prop}{n0 n1:Nat}{ρ ρ':Ho}{w w':World}(h:Ext W n0 n1 ρ ρ' w w')(A:∀f,W f→z f):Ext z n0 n1 ρ ρ' w w':=
 ⟨h.le,h.ji,h.b8,fun b G k=>h.frame b G fun f g x I J K=>k f g x I J (A f K),h.size,h.nn,h.os,h.tape,h.output⟩
theorem Ext.trans{W:Nat→Prop}{n0 n1 K:Nat}{ρ z A:Ho}{w O U:World}(h:Ext W n0 n1 ρ z w O)(k:Ext W n1 K z A O U):Ext W n0 K ρ A w U:=by
 refine⟨Ho.le_trans h.le k.le,?_,?_,?_,jT h.size k.size,jT h.nn k.nn,k.os.trans h.os,k.tape.trans h.tape,k.output.trans h.output⟩
 ·intro f g x G
  have Y:=h.nn
  have h2:=k.nn
  rcases k.ji f g x G with⟨g0,h0,e⟩|⟨a,b⟩
  ·rcases h.ji f g0 h0 e with e|⟨a,b⟩
   ·exact .inl e
   exact .inr ⟨a,by omega⟩
  exact .inr ⟨by omega,b⟩
 ·intro f g x G
  rcases k.b8 f g x G with e|⟨a,b⟩|⟨g0,h0,e,e1,e2⟩
  ·exact h.b8 f g x e
  ·exact .inr (.inl ⟨jT h.size a,b⟩)
  rcases h.b8 f g0 h0 e with I|⟨a,b⟩|⟨g1,Y,I,e3,e4⟩
  ·exact .inr (.inr ⟨g0,h0,I,e1,e2⟩)
  ·exact .inr (.inl ⟨e1▸a,e2▸b⟩)
  exact .inr (.inr ⟨g1,Y,I,e3.trans e1,e4.trans e2⟩)
 intro b Z J
 rw[k.frame b (mw Z h.size) ?_,h.frame b Z J]
 intro f g x G hr hw
 rcases h.b8 f g x G with e|⟨a,_⟩|⟨g0,h0,e,e1,e2⟩
 ·exact J f g x e hr hw
 ·intro hh;omega
 exact e1▸J f g0 h0 e (e2.trans hr) hw
theorem cell_of_heap{w w':World}{a:Addr}(h:w'.heap[a.block]?=w.heap[a.block]?):w'.cell? a=w.cell? a:=by simp only[World.cell?,h]
theorem yF.iO{ρ:Ho}{w w':World}{f:Nat}{h:Hm}(k:yF ρ w f h)(z:w'.cell? ⟨h.b8,h.off,none⟩=w.cell? ⟨h.b8,h.off,none⟩):yF ρ w' f h:=⟨k.1,by obtain⟨A,G,e⟩:=k.2;exact⟨A,G,z.trans e⟩⟩
theorem frozen_of_heap{w w':World}{a:Addr}(h:w'.heap[a.block]?=w.heap[a.block]?):w'.frozen? a=w.frozen? a:=by simp only[World.frozen?,h]
theorem D3.iO{ρ ρ':Ho}{w w':World}{h:Hm}{g elem es n fl:Nat}{cs:RT}(k:D3 ρ w h g elem es n fl cs)(G:ρ.le ρ')(z:w'.heap[h.b8]?=w.heap[h.b8]?):
  D3 ρ' w' h g elem es n fl cs:=by
 refine⟨by rw[z];exact k.row,k.fits,fun i hi=>?_,fun h0 i hi=>?_,fun h0 i hi I=>?_,k.sF,fun e c t fz A=>k.yE e c t fz (by rw[←z];exact A)⟩
 ·obtain⟨l,e,e1,e2⟩:=k.cell i hi
  refine⟨l,e,e1,fun j x J=>?_⟩
  obtain⟨o,cv,A,K⟩:=e2 j x J
  exact⟨o,cv,by rw[cell_of_heap (w:=w) z];exact A,K.mono G⟩
 ·rw[frozen_of_heap (w:=w) z];exact k.Al h0 i hi
 rw[frozen_of_heap (w:=w) z];exact k.xS h0 i hi I
theorem Am.iO{ρ ρ':Ho}{w w':World}{h:Hm}{g:Nat}{o:dP}(k:Am ρ w h g o)(z:ρ.le ρ')(A:w'.heap[h.b8]?=w.heap[h.b8]?):Am ρ' w' h g o:=by
 cases o with
 |row elem es aT n lo fl cs=>exact⟨k.1,k.2.1,k.2.2.1,fun a b=>(k.2.2.2 a b).iO z A⟩
 |map es=>exact k
theorem R.weaken{ρ:Ho}{C z:Nat→Option dP}{w:World}(h:R ρ C w)(hC:∀f o,z f=some o→(∃g x,ρ f g=some x)→C f=some o):R ρ z w:=
 ⟨fun f o e g x A=>h.obj f o (hC f o e ⟨g,x,A⟩) g x A,h.nT,h.jZ,h.uniq,h.mB⟩
theorem f9{β:Type}(k e:β):aH true k e=k:=rfl
theorem RE{β:Type}(k e:β):aH false k e=e:=rfl
theorem qU{β:Type}(b:Bool)(k e:β):aH b k e=if b=true then k else e:=by cases b<;>rfl
section
variable{v:an}{H':aB}{n:Nat}
theorem fE{b:Bool}{k:aE}(h:aH b k (.err n)= .ok v H'):b=true∧k= .ok v H':=by
 cases b
 ·cases h
 exact⟨rfl,h⟩
theorem jl{α:Type}{o:Option α}{k:α→aE}(h:ob o (.err n) k= .ok v H'):∃x,o=some x∧k x= .ok v H':=by
 cases o with
 |none=>cases h
 |some x=>exact⟨x,rfl,h⟩
theorem fo{x:aG}{E:Env}{k:an→aE}(h:bB x E (.err n) k= .ok v H'):∃a,x.ev E=some a∧k a= .ok v H':=by
 cases x with
 |t i=>exact jl h
 |c a=>exact⟨a,rfl,h⟩
theorem RF{a:an}{k:Bool→aE}(h:sd a (.err n) k= .ok v H'):∃b,a= .bool b∧k b= .ok v H':=by
 cases a<;>first|cases h;done|exact⟨_,rfl,h⟩
theorem rT{a:an}{k:IntKind→Int→aE}(h:gI a (.err n) k= .ok v H'):∃b i,a= .int b i∧k b i= .ok v H':=by
 cases a<;>first|cases h;done|exact⟨_,_,rfl,h⟩
theorem wV{a:an}{k:Nat→Nat→aE}(h:jR a (.err n) k= .ok v H'):∃l s,a= .str l s∧k l s= .ok v H':=by
 cases a<;>first|cases h;done|exact⟨_,_,rfl,h⟩
theorem vq{a:an}{k:Nat→Nat→Nat→aE}(h:iu a (.err n) k= .ok v H'):∃f g o,a= .ptr f g o∧k f g o= .ok v H':=by
 cases a<;>first|cases h;done|exact⟨_,_,_,rfl,h⟩
theorem wI{a:an}{e:aE}{k:Nat→Nat→Nat→Nat→Nat→aE}(h:gP a (.err n) e k= .ok v H'):
  (a= .cb∧e= .ok v H')∨∃f g o l es,a= .slice f g o l es∧k f g o l es= .ok v H':=by
 cases a<;>first|cases h;done|exact .inr ⟨_,_,_,_,_,rfl,h⟩|exact .inl ⟨rfl,h⟩
theorem KO{a:an}{k:List an→aE}(h:oZ a (.err n) k= .ok v H'):∃l,a= .agg l∧k l= .ok v H':=by
 cases a<;>first|cases h;done|exact⟨_,rfl,h⟩
theorem QZ{a:an}{k:List an→aE}(h:rZ a (.err n) k= .ok v H'):∃l,a= .tuple l∧k l= .ok v H':=by
 cases a<;>first|cases h;done|exact⟨_,rfl,h⟩
theorem RG{a:an}{k:Nat→List an→List an→aE}(h:tS a (.err n) k= .ok v H'):∃f z l,a= .func f z l∧k f z l= .ok v H':=by
 cases a<;>first|cases h;done|exact⟨_,_,_,rfl,h⟩
theorem vt{i:Int}{k:Nat→aE}(h:jb i (.err n) k= .ok v H'):∃m:Nat,i=(m:Int)∧k m= .ok v H':=by
 cases i with
 |ofNat m=>exact⟨m,rfl,h⟩
 |negSucc m=>cases h
theorem ou(l:List an):jf l=l.length:=by
 induction l with
 |nil=>rfl
 |cons a r z=>show Nat.succ (jf r)=_;rw[z];rfl
theorem CB{a:an}{m:Nat}{k:Nat→aE}(h:idx a m (.err n) k= .ok v H'):∃z i,a= .int z (i:Nat)∧i<m∧k i= .ok v H':=by
 obtain⟨z,i,rfl,h⟩:=rT h
 obtain⟨j,rfl,h⟩:=vt h
 obtain⟨A,h⟩:=fE h
 exact⟨z,j,rfl,bW A,h⟩
theorem UY{E:Env}{x:Option aG}{d y:Nat}{k:Nat→aE}(h:gL E x d y (.err n) k= .ok v H'):
  (x=none∧k d= .ok v H')∨∃z A i,x=some z∧z.ev E=some (.int A (i:Nat))∧i≤y∧k i= .ok v H':=by
 cases x with
 |none=>exact .inl ⟨rfl,h⟩
 |some z=>
  obtain⟨a,G,h⟩:=jl h
  obtain⟨A,i,rfl,h⟩:=rT h
  obtain⟨j,rfl,h⟩:=vt h
  obtain⟨I,h⟩:=fE h
  exact .inr ⟨z,A,j,rfl,G,bW I,h⟩
theorem KP{o:Option dP}{k:Nat→Nat→Nat→Nat→Nat→Nat→RT→aE}(h:iS o (.err n) k= .ok v H'):
  ∃elem es aT m lo fl cs,o=some (.row elem es aT m lo fl cs)∧k elem es aT m lo fl cs= .ok v H':=by
 cases o with
 |none=>cases h
 |some o=>cases o with
  |row=>exact⟨_,_,_,_,_,_,_,rfl,h⟩
  |map=>cases h
theorem Gs{agg:Bool}{l:List an}{k:an→aE}(h:iG agg l (.err n) k= .ok v H'):
  (agg=true∧k (.agg l)= .ok v H')∨∃x,agg=false∧l=[x]∧k x= .ok v H':=by
 cases agg with
 |true=>exact .inl ⟨rfl,h⟩
 |false=>
  cases l with
  |nil=>cases h
  |cons x r=>cases r with
   |nil=>exact .inr ⟨x,rfl,rfl,h⟩
   |cons y s=>cases h
theorem wW{H:aB}{o:dP}{k:Nat→aB→aE}(h:H.alloc o k= .ok v H'):k H.next ⟨H.next+1,H.bc,H.ws,H.t.set H.next o⟩= .ok v H':=by
 cases H with
 |mk next bc ws t=>
  have h':dr next (fun f=>t.gq f o fun t=>k f ⟨Nat.succ f,bc,ws,t⟩)= .ok v H':=h
  rw[im,GT.j8] at h'
  exact h'
end
theorem CC(m n:Nat):rF m n=(m:Int) -(n:Int):=by
 unfold rF
 cases h:Nat.ble n m
 ·have:¬n≤m:=fun e=>by rw[jz e] at h;cases h
  show Int.negSucc (n-m-1)=_
  rw[lF];omega
 have:n≤m:=bW h
 show Int.ofNat (m-n)=_
 rw[bb];omega
theorem TB(x y:Int):OC x y=x+y:=by
 cases x with
 |ofNat m=>cases y with
  |ofNat n=>rfl
  |negSucc n=>show rF m (n+1)=_;rw[CC,lF,bb];omega
 |negSucc m=>cases y with
  |ofNat n=>show rF n (m+1)=_;rw[CC,lF,bb];omega
  |negSucc n=>show Int.negSucc (m+n+1)=_;rw[lF,lF,lF];omega
theorem TC(x y:Int):OD x y=x-y:=by
 cases x with
 |ofNat m=>cases y with
  |ofNat n=>show rF m n=_;rw[CC];rfl
  |negSucc n=>show Int.ofNat (m+(n+1))=_;rw[lF,bb,bb];omega
 |negSucc m=>cases y with
  |ofNat n=>show Int.negSucc (m+n)=_;rw[lF,lF,bb];omega
  |negSucc n=>show rF n m=_;rw[CC,lF,lF];omega
theorem CD(x y:Int):A1 x y=kQ x y:=by cases x<;>cases y<;>rfl
theorem Mu(x y:Int):Ip x y=me x y:=by cases x<;>cases y<;>rfl
theorem UZ(n:Int):Pg n=IntKind.wrap .i64 n:=by
 cases n with
 |ofNat m=>
  show Bool.rec (motive:=fun _=>Int) (IntKind.wrap .i64 (.ofNat m)) (.ofNat m) (Nat.ble m 9223372036854775807)=_
  cases h:Nat.ble m 9223372036854775807
  ·rfl
  have:=bW h
  exact(IntWalk.i64_in (Int.ofNat m) (by simp only[bb];omega)).symm
 |negSucc m=>
  show Bool.rec (motive:=fun _=>Int) (IntKind.wrap .i64 (.negSucc m)) (.negSucc m) (Nat.ble m 9223372036854775807)=_
  cases h:Nat.ble m 9223372036854775807
  ·rfl
  have:=bW h
  exact(IntWalk.i64_in (Int.negSucc m) (by rw[lF];omega)).symm
theorem D4(mx:Nat)(k:IntKind)(hk:∀n:Int,0≤n∧n≤mx→k.wrap n=n)(n:Int):wU mx k n=IntKind.wrap k n:=by
 cases n with
 |ofNat m=>
  show Bool.rec (motive:=fun _=>Int) (IntKind.wrap k (.ofNat m)) (.ofNat m) (Nat.ble m mx)=_
  cases h:Nat.ble m mx
  ·rfl
  have:=bW h
  exact(hk (Int.ofNat m) (by simp only[bb];omega)).symm
 |negSucc m=>rfl
theorem Su(k:IntKind)(n:Int):Hi k n=k.wrap n:=by
 cases k with
 |i8=>rfl
 |i16=>rfl
 |i32=>rfl
 |i64=>exact UZ n
 |u8=>exact D4 _ _ IntWalk.u8_in n
 |u16=>exact D4 _ _ IntWalk.u16_in n
 |u32=>exact D4 _ _ IntWalk.u32_in n
 |u64=>exact D4 _ _ IntWalk.u64_in n
theorem mW(k:IntKind)(n:Int):lV k n=k.wrap n:=by
 unfold lV
 split
 ·rename_i m
  split
  ·rename_i h
   have h:=bW h
   exact(IntWalk.i64_in (Int.ofNat m) (by simp only[bb];omega)).symm
  rfl
 ·rename_i m
  split
  ·rename_i h
   have h:=bW h
   exact(IntWalk.i64_in (Int.negSucc m) (by rw[lF];omega)).symm
  rfl
 rfl
theorem J5{f:Int→Int→Int}{op:BinOp}(h:∀k a G b,iQ op k a G b=aH (Nat.beq (dn k) (dn G)) (some (.int k (lV k (f a b)))) none)(a b:an)(k:an→aE):GO f op a b k=m8 op a b k:=by
 cases a<;>try rfl
 cases b<;>try rfl
 rename_i z x A y
 show aH (Nat.beq (dn z) (dn A)) (kW (Hi z (f x y)) fun r=>k (.int z r)) (.err 6)=ob (iQ op z x A y) (.err 6) fun v=>mE v k
 rw[h,rQ,Su,←mW]
 cases Nat.beq (dn z) (dn A)
 ·rfl
 exact(ts (.int z (lV z (f x y))) k).symm
theorem w8{f:Int→Int→Bool}{op:BinOp}(h:∀k a G b,iQ op k a G b=aH (Nat.beq (dn k) (dn G)) (some (.bool (f a b))) none)(a b:an)(k:an→aE):we f op a b k=m8 op a b k:=by
 cases a<;>try rfl
 cases b<;>try rfl
 rename_i A x z y
 show aH (Nat.beq (dn A) (dn z)) (mY (f x y) fun r=>k (.bool r)) (.err 6)=ob (iQ op A x z y) (.err 6) fun v=>mE v k
 rw[h]
 cases Nat.beq (dn A) (dn z)
 ·rfl
 refine Eq.trans ?_ (ts (.bool (f x y)) k).symm
 show mY (f x y) (fun r=>k (.bool r))=_
 cases f x y<;>rfl
theorem Cf(op:BinOp)(a b:an)(k:an→aE):yk op a b k=ob (AF op a b) (.err 6) fun v=>mE v k:=by
 cases op with
 |add=>exact J5 (fun k a z b=>by rw[TB];rfl) a b k
 |sub=>exact J5 (fun k a z b=>by rw[TC];rfl) a b k
 |eql=>exact w8 (fun k a z b=>by rw[Mu];rfl) a b k
 |neq=>exact w8 (fun k a z b=>by unfold Ph;rw[Mu];rfl) a b k
 |lss=>exact w8 (fun k a z b=>by rw[CD];rfl) a b k
 |leq=>exact w8 (fun k a z b=>by unfold Pj;rw[CD];rfl) a b k
 |gtr=>exact w8 (fun k a z b=>by unfold Pk;rw[CD];rfl) a b k
 |geq=>exact w8 (fun k a z b=>by unfold Pl;rw[CD];rfl) a b k
 |mul=>rfl
 |quo=>rfl
 |rem=>rfl
 |and=>rfl
 |or=>rfl
 |xor=>rfl
 |shl=>rfl
 |shr=>rfl
 |andNot=>rfl
structure HX(H:aB)(f g off n:Nat)(l:List an):Prop where
 ex:∃elem es aT m lo fl cs x,H.t.get f=some (.row elem es aT m lo fl cs)∧lo≤g∧g≤m∧off % es+n≤es∧off/es<g∧cs.get (off/es)=some x∧
  ((l=x∧n=es)∨l=(x.drop (off % es)).take n)
theorem Hr{β:Type}{H:aB}{f g off n:Nat}{e:β}{k:List an→β}{r:β}(h:rd H f g off n e k=r)(he:e≠r):∃l,HX H f g off n l∧k l=r:=by
 unfold rd at h
 cases ho:H.t.get f with
 |none=>rw[ho] at h;exact absurd h he
 |some o=>
  rw[ho] at h
  cases o with
  |map=>exact absurd h he
  |row elem es aT m lo fl cs=>
   simp only[iS,qU] at h
   split at h
   ·rename_i K
    split at h
    ·rename_i h2
     split at h
     ·rename_i O
      split at h
      ·rename_i U
       cases z:cs.get (Nat.div off es) with
       |none=>rw[z] at h;exact absurd h he
       |some x=>
        rw[z] at h
        simp only[ob] at h
        have A:=bW K
        have G:=bW h2
        have I:=bW O
        have J:=bW U
        split at h
        ·rename_i Y
         exact⟨x,⟨_,_,_,_,_,_,_,x,ho,A,G,I,J,z,.inl ⟨rfl,dZ Y⟩⟩,h⟩
        exact⟨_,⟨_,_,_,_,_,_,_,x,ho,A,G,I,J,z,.inr rfl⟩,h⟩
      exact absurd h he
     exact absurd h he
    exact absurd h he
   exact absurd h he
theorem F'(f:Nat)(l:List Nat):pY f l=true↔f∈l:=by
 induction l with
 |nil=>simp[pY]
 |cons x r z=>
  show aH (Nat.beq f x) true (pY f r)=true↔_
  rw[qU]
  by_cases h:f=x
  ·simp[h]
  have:¬(Nat.beq f x=true):=by simpa[rD] using h
  simp[h,this,z]
theorem y7(f bc:Nat)(ws:List Nat)(x:Nat):x∈wrote f bc ws↔x∈ws∨(x=f∧f<bc):=by
 unfold wrote
 rw[qU,qU]
 by_cases h:bc≤f
 ·rw[aw (jz h)]
  constructor
  ·exact .inl
  rintro(z|⟨_,z⟩)
  ·exact z
  omega
 have G:¬(Nat.ble bc f=true):=by simpa using h
 rw[aj G]
 by_cases A:pY f ws=true
 ·rw[aw A]
  rw[F'] at A
  constructor
  ·exact .inl
  rintro(z|⟨rfl,_⟩)
  ·exact z
  exact A
 rw[aj A]
 simp only[pV]
 constructor
 ·rintro(rfl|z)
  ·exact .inr ⟨rfl,by omega⟩
  exact .inl z
 rintro(z|⟨rfl,_⟩)
 ·exact .inr z
 exact .inl rfl
structure OF(H:aB)(f g off n:Nat)(new:List an)(H':aB):Prop where
 ex:∃elem es aT lo cs x,H.t.get f=some (.row elem es aT g lo 0 cs)∧lo≤g∧off % es+n≤es∧off/es<g∧new.length=n∧cs.get (off/es)=some x∧
  H'=⟨H.next,H.bc,wrote f H.bc H.ws,H.t.set f (.row elem es aT g g 0 (cs.set (off/es) (if n=es then new else gV x (off % es) new)))⟩
theorem N6{H:aB}{f g off n m:Nat}{new:List an}{k:aB→aE}{v:an}{H':aB}(h:wr H f g off n new (.err m) k= .ok v H'):∃H1,OF H f g off n new H1∧k H1= .ok v H':=by
 cases H with
 |mk next bc ws t=>
  have h:=KP h
  obtain⟨elem,es,aT,Y,lo,fl,cs,ho,h⟩:=h
  obtain⟨z,h⟩:=fE h
  obtain⟨h2,h⟩:=fE h
  obtain⟨I,h⟩:=fE h
  obtain⟨J,h⟩:=fE h
  obtain⟨K,h⟩:=fE h
  obtain⟨O,h⟩:=fE h
  obtain⟨x,U,A⟩:=jl h
  rw[RT.j8,GT.j8] at A
  have e1:=dZ z
  have e2:=dZ h2
  have G:=dZ O
  rw[ou] at G
  clear h z h2
  subst e1 e2
  refine⟨_,⟨elem,es,aT,lo,cs,x,ho,bW I,bW J,bW K,G,U,?_⟩,A⟩
  rw[qU]
  simp only[rD]
  rfl
structure gk(H H':aB):Prop where
 next:H.next≤H'.next
 bc:H'.bc=H.bc
 ws:∀f,f∈H.ws→f∈H'.ws
 same:∀f,f<H.bc→f∉H'.ws→H'.t.get f=H.t.get f
 wf:(∀f,H.next≤f→H.t.get f=none)→∀f,H'.next≤f→H'.t.get f=none
 iO:∀f,H.t.get f≠none→H'.t.get f≠none
theorem gk.refl(H:aB):gk H H:=⟨bY _,rfl,fun _ h=>h,fun _ _ _=>rfl,fun h=>h,fun _ h=>h⟩
theorem gk.trans{A B C:aB}(h:gk A B)(k:gk B C):gk A C:=
 ⟨jT h.next k.next,k.bc.trans h.bc,fun f z=>k.ws f (h.ws f z),fun f z G=>(k.same f (h.bc▸z) G).trans (h.same f z fun e=>G (k.ws f e)),fun x=>k.wf (h.wf x),fun f x=>k.iO f (h.iO f x)⟩
theorem gk.alloc{H:aB}(o:dP)(A:H.bc≤H.next):gk H ⟨H.next+1,H.bc,H.ws,H.t.set H.next o⟩:=
 ⟨sw _,rfl,fun _ h=>h,fun f z _=>by show(H.t.set H.next o).get f=_;rw[GT.eU,aj (by omega)],
  fun h f z=>by
  have z:H.next+1≤f:=z
  show(H.t.set H.next o).get f=none
  rw[GT.eU,aj (by omega)];exact h f (by omega),
  fun f z=>by
  show(H.t.set H.next o).get f≠none
  rw[GT.eU]
  split
  ·simp
  exact z⟩
theorem gk.write{H:aB}(f:Nat)(o:dP){A:dP}(h0:H.t.get f=some A):gk H ⟨H.next,H.bc,wrote f H.bc H.ws,H.t.set f o⟩:=
 ⟨bY _,rfl,fun x z=>(y7 _ _ _ _).2 (.inl z),fun x z G=>by
  show(H.t.set f o).get x=_
  rw[GT.eU]
  split
  ·rename_i e;subst e;exact absurd ((y7 _ _ _ _).2 (.inr ⟨rfl,z⟩)) G
  ·rfl,fun h x z=>by
  have z:H.next≤x:=z
  show(H.t.set f o).get x=none
  rw[GT.eU]
  split
  ·rename_i e;subst e;rw[h x z] at h0;cases h0
  ·exact h x z,fun x z=>by
  show(H.t.set f o).get x≠none
  rw[GT.eU]
  split
  ·simp
  exact z⟩
def TM(H:aB)(r:aE):Prop:=∀v H',r= .ok v H'→gk H H'
theorem TM.err{H:aB}{n:Nat}:TM H (.err n):=fun _ _ h=>by cases h
theorem TM.ok{H:aB}{v:an}:TM H (.ok v H):=fun _ _ h=>by cases h;exact gk.refl _
theorem TM.aH{H:aB}{b:Bool}{k e:aE}(h:TM H k)(h':TM H e):TM H (aH b k e):=by cases b;exact h';exact h
theorem TM.ob{H:aB}{α:Type}{o:Option α}{e:aE}{k:α→aE}(h:∀x,TM H (k x))(h':TM H e):TM H (ob o e k):=by cases o;exact h';exact h _
theorem TM.bB{H:aB}{x:aG}{E:Env}{e:aE}{k:an→aE}(h:∀x,TM H (k x))(h':TM H e):TM H (bB x E e k):=by
 cases x with
 |t i=>exact TM.ob (o:=E.get i) h h'
 |c a=>exact h a
theorem TM.sd{H:aB}{a:an}{e:aE}{k:Bool→aE}(h:∀x,TM H (k x))(h':TM H e):TM H (sd a e k):=by cases a<;>first|exact h'|exact h _
theorem TM.gI{H:aB}{a:an}{e:aE}{k:IntKind→Int→aE}(h:∀x y,TM H (k x y))(h':TM H e):TM H (gI a e k):=by cases a<;>first|exact h'|exact h _ _
theorem TM.jR{H:aB}{a:an}{e:aE}{k:Nat→Nat→aE}(h:∀x y,TM H (k x y))(h':TM H e):TM H (jR a e k):=by cases a<;>first|exact h'|exact h _ _
theorem TM.iu{H:aB}{a:an}{e:aE}{k:Nat→Nat→Nat→aE}(h:∀x y z,TM H (k x y z))(h':TM H e):TM H (iu a e k):=by cases a<;>first|exact h'|exact h _ _ _
theorem TM.gP{H:aB}{a:an}{e e2:aE}{k:Nat→Nat→Nat→Nat→Nat→aE}(h:∀x y z u w,TM H (k x y z u w))(h2:TM H e2)(h':TM H e):TM H (gP a e e2 k):=by cases a<;>first|exact h'|exact h2|exact h _ _ _ _ _
theorem TM.oZ{H:aB}{a:an}{e:aE}{k:List an→aE}(h:∀x,TM H (k x))(h':TM H e):TM H (oZ a e k):=by cases a<;>first|exact h'|exact h _
theorem TM.rZ{H:aB}{a:an}{e:aE}{k:List an→aE}(h:∀x,TM H (k x))(h':TM H e):TM H (rZ a e k):=by cases a<;>first|exact h'|exact h _
theorem TM.tS{H:aB}{a:an}{e:aE}{k:Nat→List an→List an→aE}(h:∀x y z,TM H (k x y z))(h':TM H e):TM H (tS a e k):=by cases a<;>first|exact h'|exact h _ _ _
theorem TM.jb{H:aB}{i:Int}{e:aE}{k:Nat→aE}(h:∀x,TM H (k x))(h':TM H e):TM H (jb i e k):=by cases i;exact h _;exact h'
theorem TM.idx{H:aB}{a:an}{n:Nat}{e:aE}{k:Nat→aE}(h:∀x,TM H (k x))(h':TM H e):TM H (idx a n e k):=TM.gI (fun _ _=>TM.jb (fun _=>TM.aH (h _) h') h') h'
theorem TM.gL{H:aB}{E:Env}{x:Option aG}{d y:Nat}{e:aE}{k:Nat→aE}(h:∀x,TM H (k x))(h':TM H e):TM H (gL E x d y e k):=by
 cases x with
 |none=>exact h _
 |some z=>exact TM.ob (fun _=>TM.gI (fun _ _=>TM.jb (fun _=>TM.aH (h _) h') h') h') h'
theorem TM.iS{H:aB}{o:Option dP}{e:aE}{k:Nat→Nat→Nat→Nat→Nat→Nat→RT→aE}(h:∀a b c d e f g,TM H (k a b c d e f g))(h':TM H e):TM H (iS o e k):=by
 cases o with
 |none=>exact h'
 |some o=>cases o with
  |row=>exact h _ _ _ _ _ _ _
  |map=>exact h'
theorem TM.iG{H:aB}{agg:Bool}{l:List an}{e:aE}{k:an→aE}(h:∀x,TM H (k x))(h':TM H e):TM H (iG agg l e k):=by
 refine TM.aH (h _) ?_
 cases l with
 |nil=>exact h'
 |cons x r=>cases r with
  |nil=>exact h _
  |cons=>exact h'
theorem TM.dr{H:aB}{n:Nat}{k:Nat→aE}(h:∀x,TM H (k x)):TM H (dr n k):=by rw[im];exact h _
theorem TM.kW{H:aB}{n:Int}{k:Int→aE}(h:∀x,TM H (k x)):TM H (kW n k):=by rw[rQ];exact h _
theorem TM.mE{H:aB}{n:an}{k:an→aE}(h:∀x,TM H (k x)):TM H (mE n k):=by rw[ts];exact h _
theorem TM.mY{H:aB}{n:Bool}{k:Bool→aE}(h:∀x,TM H (k x)):TM H (mY n k):=by cases n<;>exact h _
theorem TM.yk{H:aB}{op:BinOp}{a b:an}:TM H (yk op a b fun v=>.ok v H):=by rw[Cf];exact TM.ob (fun _=>TM.mE fun _=>TM.ok) TM.err
theorem TM.wg{H:aB}{t:HT}{n:Nat}{o:dP}{k:HT→aE}(h:TM H (k (t.set n o))):TM H (t.gq n o k):=by rw[GT.j8];exact h
theorem TM.fill{H:aB}{l:List (List an)}{t:RT}{i:Nat}{k:RT→aE}(h:TM H (k (jt l t i))):TM H (sj l t i k):=by rw[vo];exact h
theorem TM.rep{H:aB}{x:List an}{n:Nat}{k:RT→aE}(h:TM H (k (pP x n))):TM H (Ez x n k):=by rw[Gp];exact h
theorem TM.alloc{H:aB}{o:dP}{k:Nat→aB→aE}(G:H.bc≤H.next)(hk:∀f z,∃v,k f z= .ok v z):TM H (H.alloc o k):=fun x H' h=>by
 have A:=wW h
 obtain⟨v,I⟩:=hk H.next ⟨H.next+1,H.bc,H.ws,H.t.set H.next o⟩
 rw[I] at A;cases A;exact gk.alloc o G
theorem TM.rd{H:aB}{f g off n:Nat}{e:aE}{k:List an→aE}(h:∀x,TM H (k x))(h':TM H e):TM H (rd H f g off n e k):=
 TM.iS (fun _ _ _ _ _ _ _=>TM.aH (TM.aH (TM.aH (TM.aH (TM.ob (fun _=>TM.aH (h _) (h _)) h') h') h') h') h') h'
theorem TM.jW{H:aB}{elem es aT n:Nat}{new:List (List an)}{x:an}(z:H.bc≤H.next):TM H (jW elem es aT n new H x):=by
 cases n with
 |zero=>exact TM.gP (fun _ _ _ _ _=>TM.ok) TM.ok TM.err
 |succ n=>
  refine TM.gP (fun f g off G gM=>?_) (TM.aH (TM.fill (TM.alloc z (fun _ _=>⟨_,rfl⟩))) TM.err) TM.err
  cases H with
  |mk next bc ws t=>
   show TM _ (Ev.iS (t.get f) _ _)
   cases A:t.get f with
   |none=>exact TM.err
   |some ob=>cases ob with
    |map=>exact TM.err
    |row I J K O U Y Z=>
   refine TM.aH (TM.aH (TM.aH (TM.aH (TM.aH (TM.aH (TM.aH TM.err (TM.aH (TM.aH (TM.dr fun _=>TM.fill (TM.wg ?_)) TM.err) TM.err)) TM.err) TM.err) TM.err) TM.err) TM.err) TM.err
   exact fun v H' h=>by cases h;exact gk.write (H:=⟨next,bc,ws,t⟩) f _ A
theorem TM.wr{H:aB}{f g off n:Nat}{new:List an}{v:an}:TM H (wr H f g off n new (.err 5) fun H=>.ok v H):=fun x H' h=>by
 obtain⟨H1,⟨_,_,_,_,_,_,z,_,_,_,_,_,e⟩,h⟩:=N6 h
 cases h
 subst e
 exact gk.write f _ z
theorem TM.cf{H:aB}{a b c:Nat}{d:List an}{E:Env}(z:H.bc≤H.next):TM H (vT a b c d E H):=
 TM.alloc (o:=.row a b c 1 1 0 (.one d)) (k:=fun f H=>.ok (.ptr f 1 0) H) z (fun _ _=>⟨_,rfl⟩)
theorem TM.mA{H:aB}{f e:Nat}{v:an}:TM H (mA f e H fun H=>.ok v H):=by
 cases H with
 |mk next bc ws t=>
  show TM _ (Ev.iS (t.get f) _ _)
  cases z:t.get f with
  |none=>exact TM.err
  |some ob=>cases ob with
   |map=>exact TM.err
   |row A G I J K O U=>
   refine TM.aH (TM.aH (TM.aH (TM.wg ?_) TM.err) TM.err) TM.err
   exact fun v H' h=>by cases h;exact gk.write (H:=⟨next,bc,ws,t⟩) f _ z
theorem TM.ins{call:eF}{H:aB}(z:H.bc≤H.next)(A:∀f a,TM H (call f a H))(E:Env)(o:bE):TM H (o.ev call E H):=by
 cases o with
 |nX x=>exact TM.bB (fun _=>TM.ok) TM.err
 |pick c a b=>exact TM.bB (fun _=>TM.sd (fun _=>TM.aH (TM.bB (fun _=>TM.ok) TM.err) (TM.bB (fun _=>TM.ok) TM.err)) TM.err) TM.err
 |cf a b c d=>exact TM.cf (E:=E) z
 |box a b c d=>exact TM.bB (fun _=>TM.ob (fun _=>TM.aH (TM.cf (E:=E) z) TM.err) TM.err) TM.err
 |load a b c=>exact TM.bB (fun _=>TM.iu (fun _ _ _=>TM.rd (fun _=>TM.iG (fun _=>TM.ok) TM.err) TM.err) TM.err) TM.err
 |store a b c=>exact TM.bB (fun _=>TM.iu (fun _ _ _=>TM.bB (fun _=>TM.ob (fun _=>TM.wr) TM.err) TM.err) TM.err) TM.err
 |bin op x y=>exact TM.bB (fun _=>TM.bB (fun _=>TM.yk) TM.err) TM.err
 |eqv c n x y=>exact TM.bB (fun _=>TM.bB (fun _=>TM.ob (fun _=>TM.mY fun _=>TM.ok) TM.err) TM.err) TM.err
 |un op x=>exact TM.bB (fun _=>TM.ob (fun _=>TM.mE fun _=>TM.ok) TM.err) TM.err
 |nR x k=>exact TM.bB (fun _=>TM.iu (fun _ _ _=>TM.dr fun _=>TM.ok) TM.err) TM.err
 |sub x a b c=>exact TM.bB (fun _=>TM.oZ (fun _=>TM.aH (TM.iG (fun _=>TM.ok) TM.err) TM.err) TM.err) TM.err
 |kr a b x i=>exact TM.bB (fun _=>TM.iu (fun _ _ _=>TM.bB (fun _=>TM.idx (fun _=>TM.dr fun _=>TM.ok) TM.err) TM.err) TM.err) TM.err
 |eg a x i=>exact TM.bB (fun _=>TM.gP (fun _ _ _ _ _=>TM.bB (fun _=>TM.idx (fun _=>TM.dr fun _=>TM.ok) TM.err) TM.err) TM.err TM.err) TM.err
 |zG a b c x i=>exact TM.bB (fun _=>TM.oZ (fun _=>TM.bB (fun _=>TM.idx (fun _=>TM.aH (TM.iG (fun _=>TM.ok) TM.err) TM.err) TM.err) TM.err) TM.err) TM.err
 |sb x i=>exact TM.bB (fun _=>TM.jR (fun _ _=>TM.bB (fun _=>TM.idx (fun _=>TM.dr fun _=>TM.ok) TM.err) TM.err) TM.err) TM.err
 |iR x a b=>exact TM.bB (fun _=>TM.jR (fun _ _=>TM.gL (fun _=>TM.gL (fun _=>TM.dr fun _=>TM.dr fun _=>TM.ok) TM.err) TM.err) TM.err) TM.err
 |pX n x a b=>exact TM.bB (fun _=>TM.gP (fun _ _ _ _ _=>TM.aH (TM.gL (fun _=>TM.gL (fun _=>TM.dr fun _=>TM.dr fun _=>TM.ok) TM.err) TM.err) TM.err) (TM.gL (fun _=>TM.gL (fun _=>TM.ok) TM.err) TM.err) TM.err) TM.err
 |vS k n x a b=>exact TM.bB (fun _=>TM.iu (fun _ _ _=>TM.iS (fun _ _ _ _ _ _ _=>TM.aH (TM.aH (TM.aH (TM.gL (fun _=>TM.gL (fun _=>TM.dr fun _=>TM.dr fun _=>TM.ok) TM.err) TM.err) TM.err) TM.err) TM.err) TM.err) TM.err) TM.err
 |ry x i=>exact TM.bB (fun _=>TM.rZ (fun _=>TM.ob (fun _=>TM.ok) TM.err) TM.err) TM.err
 |oV x=>exact TM.bB (fun _=>TM.aH TM.ok TM.err) TM.err
 |nS f G l=>exact TM.ob (fun _=>TM.ob (fun _=>TM.ok) TM.err) TM.err
 |uM t x=>exact TM.bB (fun _=>TM.ok) TM.err
 |yi a b c d e f=>exact TM.bB (fun _=>TM.gI (fun _ _=>TM.jb (fun _=>TM.bB (fun _=>TM.gI (fun _ _=>TM.jb (fun _=>TM.aH (TM.aH (TM.aH (TM.rep (TM.alloc z (fun _ _=>⟨_,rfl⟩))) TM.err) TM.err) TM.err) TM.err) TM.err) TM.err) TM.err) TM.err) TM.err
 |build a b=>exact TM.ob (fun _=>TM.ok) TM.err
 |cH a b c d e f=>exact TM.ob (fun _=>TM.alloc z (fun _ _=>⟨_,rfl⟩)) TM.err
 |len x=>exact TM.bB (fun _=>TM.gP (fun _ _ _ _ _=>TM.ok) TM.ok TM.err) TM.err
 |AE n=>exact TM.ok
 |o5 x=>exact TM.bB (fun _=>TM.jR (fun _ _=>TM.ok) TM.err) TM.err
 |app a b c x y=>exact TM.bB (fun _=>TM.bB (fun _=>TM.gP (fun _ _ _ _ _=>TM.ob (fun _=>TM.jW z) TM.err) (TM.jW z) TM.err) TM.err) TM.err
 |sc a x y=>exact TM.bB (fun _=>TM.bB (fun _=>TM.jR (fun _ _=>TM.jW z) TM.err) TM.err) TM.err
 |copy a b c=>exact TM.err
 |zH a b c=>exact TM.bB (fun _=>TM.gI (fun _ _=>TM.ob (fun _=>TM.ob (fun _=>TM.ok) TM.err) TM.err) TM.err) TM.err
 |conv k x=>exact TM.bB (fun _=>TM.gI (fun _ _=>TM.kW fun _=>TM.ok) TM.err) TM.err
 |Cx x=>exact TM.bB (fun _=>TM.ok) TM.err
 |xl e x=>exact TM.bB (fun _=>TM.jR (fun _ _=>TM.aH (TM.fill (TM.alloc z (fun _ _=>⟨_,rfl⟩))) TM.err) TM.err) TM.err
 |pH x=>exact TM.bB (fun _=>TM.gP (fun _ _ _ _ _=>TM.ob (fun _=>TM.ob (fun _=>TM.dr fun _=>TM.ok) TM.err) TM.err) TM.ok TM.err) TM.err
 |call f l=>exact TM.ob (fun _=>A _ _) TM.err
 |mI x l=>exact TM.bB (fun _=>TM.tS (fun _ _ _=>TM.ob (fun _=>A _ _) TM.err) TM.err) TM.err
 |qp t n x=>exact TM.bB (fun _=>TM.aH TM.ok (TM.iu (fun _ _ _=>TM.iS (fun _ _ _ _ _ _ _=>TM.aH (TM.aH (TM.aH (TM.aH (TM.aH (TM.aH (TM.aH TM.ok TM.err) TM.err) TM.err) TM.err) TM.err) TM.err) TM.err) TM.err) TM.err)) TM.err
 |uV x=>exact TM.bB (fun _=>TM.gP (fun _ _ _ _ _=>TM.aH TM.err TM.ok) TM.ok TM.err) TM.err
 |qw e x n=>exact TM.bB (fun _=>TM.aH (TM.bB (fun _=>TM.gI (fun _ _=>TM.jb (fun _=>TM.aH (TM.aH TM.ok TM.err) TM.err) TM.err) TM.err) TM.err) (TM.iu (fun _ _ _=>TM.bB (fun _=>TM.gI (fun _ _=>TM.jb (fun _=>TM.aH (TM.aH (TM.aH (TM.aH (TM.ob (fun _=>TM.ob (fun _=>TM.dr fun _=>TM.mA) TM.err) TM.err) TM.err) TM.err) TM.err) TM.err) TM.err) TM.err) TM.err) TM.err)) TM.err
mutual
theorem BZ(ρ:Ho):∀(v:Value)(a:an),valOf v=some a→VR ρ a v
 |.bool b,a,h=>by simp only[valOf,gJ] at h;subst h;simp[VR]
 |.int k n,a,h=>by simp only[valOf,gJ] at h;subst h;simp[VR]
 |.float _ _,a,h=>by simp[valOf] at h
 |.complex _ _ _,a,h=>by simp[valOf] at h
 |.string s,a,h=>by simp only[valOf,gJ] at h;subst h;simp only[VR];exact⟨s,rfl,rfl,rfl⟩
 |.pointer none,a,h=>by simp only[valOf,gJ] at h;subst h;simp[VR]
 |.pointer (some _),a,h=>by simp[valOf] at h
 |.slice none l c,a,h=>by
  unfold valOf at h
  split at h<;>simp_all
  subst h
  simp[VR]
 |.slice (some _) _ _,a,h=>by simp[valOf] at h
 |.map none,a,h=>by simp only[valOf,gJ] at h;subst h;simp[VR]
 |.map (some _),a,h=>by simp[valOf] at h
 |.chan _,a,h=>by simp[valOf] at h
 |.func _ _ _,a,h=>by simp[valOf] at h
 |.nilFunc,a,h=>by simp only[valOf,gJ] at h;subst h;simp[VR]
 |.iface _ _,a,h=>by simp[valOf] at h
 |.nilIface,a,h=>by simp only[valOf,gJ] at h;subst h;simp[VR]
 |.agg ⟨cs⟩,a,h=>by
  unfold valOf at h
  split at h
  ·rename_i l z
   split at h
   ·rename_i hk
    cases h
    simp only[VR]
    exact⟨_,rfl,J6 ρ cs l z,hk⟩
   cases h
  cases h
 |.tuple _,a,h=>by simp[valOf] at h
theorem J6(ρ:Ho):∀(l:List Value)(z:List an),zQ l=some z→cB ρ z l
 |[],z,h=>by simp only[zQ,gJ] at h;subst h;rfl
 |v::r,z,h=>by
  unfold zQ at h
  split at h
  ·rename_i x l A h2
   cases h
   exact⟨v,r,rfl,BZ ρ v x A,J6 ρ r l h2⟩
  cases h
end
def yn(P:Program)(g:Nat):Bool:=match P.globals[g]?with|some v=>v.name== "strconv.ErrRange"|none=>false
def uy(P:Program)(ρ:Ho):Prop:=∀g,g<P.globals.size→∃h,ρ g 1=some h∧h.b8=g∧h.off=0∧(yn P g=true→h.ro=true∧h.mB=true)
def xT(P:Program)(w:World):Prop:=∀g,g<P.globals.size→g<w.heap.size∧(yn P g=true→∃z A,w.cell? ⟨g,0,none⟩=some (.iface z A))
structure AR(P:Program)(ρ:Ho)(nt:Nat)(E:Env)(a:Act):Prop where
 size:a.tmps.size=nt
 defers:a.defers=[]
 tmp:∀t v,E.get t=some v→∃cv,a.tmps[t.n]?=some cv∧VR ρ v cv
 rz:uy P ρ
theorem AR.mono{P:Program}{ρ ρ':Ho}{nt:Nat}{E:Env}{a:Act}(h:AR P ρ nt E a)(A:ρ.le ρ'):AR P ρ' nt E a:=
 ⟨h.size,h.defers,fun t v e=>let⟨cv,z,h2⟩:=h.tmp t v e;⟨cv,z,h2.mono A⟩,fun g G=>let⟨x,z,h2⟩:=h.rz g G;⟨x,A _ _ _ z,h2⟩⟩
theorem AR.put{P:Program}{ρ:Ho}{nt:Nat}{E:Env}{a:Act}(h:AR P ρ nt E a){d:Key}(z:d.n<nt){v:an}{cv:Value}(A:VR ρ v cv):AR P ρ nt (E.set d v) (a.put (some d.n) cv):=by
 refine⟨by simp[Act.put,h.size],by simp[Act.put,h.defers],fun t x e=>?_,h.rz⟩
 rw[T4.eU] at e
 split at e
 ·rename_i he
  subst he
  cases e
  exact⟨cv,by simp[Act.put,h.size,z],A⟩
 rename_i he
 obtain⟨y,G,k⟩:=h.tmp t x e
 exact⟨y,by simp only[Act.put];rw[Array.getElem?_setIfInBounds_ne (fun e=>he (Key.inj e.symm))];exact G,k⟩
section
variable{P:Program}{ρ:Ho}{nt:Nat}{E:Env}{a:Act}
theorem AR.b9(h:AR P ρ nt E a){x:Operand}{y:aG}{v:an}(ho:de P x=some y)(z:y.ev E=some v):VR ρ v (a.eval x):=by
 cases x with
 |tmp t=>
  simp only[de] at ho
  split at ho
  ·rename_i G
   cases ho
   obtain⟨cv,A,h2⟩:=h.tmp (pk t) v z
   rw[wb G] at A
   simp only[Act.eval]
   rw[uK,A]
   exact h2
  cases ho
 |const c=>
  simp only[de] at ho
  split at ho
  ·rename_i w I
   cases ho
   cases z
   exact BZ ρ _ _ I
  cases ho
 |global g=>
  simp only[de] at ho
  split at ho
  ·rename_i J
   cases ho
   cases z
   obtain⟨x,K,rfl,h2,_⟩:=h.rz g J
   simp only[VR,Act.eval]
   exact⟨x,K,by simp[h2]⟩
  cases ho
 |func f=>
  simp only[de,gJ] at ho
  subst ho
  cases z
  simp only[VR,Act.eval]
  exact⟨#[],#[],rfl,by simp only[cB],by simp only[cB]⟩
theorem AR.dC(h:AR P ρ nt E a):∀{xs:List Operand}{ys:List aG}{vs:List an},kX P xs=some ys→jF E ys=some vs→cB ρ vs (xs.map a.eval)
 |[],ys,vs,ho,A=>by
  simp only[kX,gJ] at ho
  subst ho
  cases A
  rfl
 |x::r,ys,vs,ho,A=>by
  simp only[kX] at ho
  split at ho
  ·rename_i y l I J
   cases ho
   have z:ob (y.ev E) none (fun v=>ob (jF E l) none fun vs=>some (v::vs))=some vs:=A
   cases G:y.ev E with
   |none=>rw[G] at z;cases z
   |some v=>
    rw[G] at z
    cases h2:jF E l with
    |none=>rw[h2] at z;cases z
    |some K=>
     rw[h2] at z
     cases z
     exact⟨_,_,rfl,h.b9 I G,AR.dC h J h2⟩
  cases ho
end
def fi(P:Program)(o:Oper)(a:Act)(w:World)(Φ:Value→World→Prop):Prop:=
 (∃cv w',(execOp a.eval o).run P w= .ok (.value cv) w'∧Φ cv w')∨
 (∃w',(execOp a.eval o).run P w= .ok .skip w'∧Φ undef w')∨
 (∃f args,(execOp a.eval o).run P w= .ok (.enter f args) w∧Calls P f args w fun e w'=>∃cv,e= .returned cv∧Φ cv w')
theorem JL{P:Program}{o:Oper}{a:Act}{w:World}{Φ:Value→World→Prop}{K:Act→World→Prop}{Q:Exit→Act→World→Prop}
  (h:fi P o a w Φ) (hk:∀cv w',Φ cv w'→K (a.put o.dst cv) w'):o.wp P a w K Q:=by
 unfold Oper.wp
 rcases h with⟨cv,w',e,hp⟩|⟨w',e,hp⟩|⟨f,args,e,hp⟩
 ·rw[e];exact hk _ _ hp
 ·rw[e];exact hk _ _ hp
 rw[e]
 refine Calls.mono hp fun e w' he=>?_
 obtain⟨cv,rfl,hp⟩:=he
 exact hk _ _ hp
noncomputable def gu(C:Nat→Option dP)(H H':aB)(f:Nat):Option dP:=
 open Classical in
 if H.next≤f∧f<H'.next then H'.t.get f else if H'.t.get f=H.t.get f then C f else H'.t.get f
def Wr(H':aB)(f:Nat):Prop:=f∈H'.ws∨H'.bc≤f
def dU(ρ:Ho)(C:Nat→Option dP)(w:World)(H:aB)(v:an)(H':aB)(cv:Value)(w':World):Prop:=
 ∃ρ',VR ρ' v cv∧Ext (Wr H') H.next H'.next ρ ρ' w w'∧R ρ' (gu C H H') w'
theorem pw(C:Nat→Option dP)(H:aB):gu C H H=C:=by
 funext f
 unfold gu
 rw[aj (by omega),aw rfl]
theorem dU.pure{ρ:Ho}{C:Nat→Option dP}{w:World}{H:aB}{v:an}{cv:Value}(z:R ρ C w)(A:VR ρ v cv):dU ρ C w H v H cv w:=
 ⟨ρ,A,Ext.refl _ _ _ _,by rw[pw];exact z⟩
theorem Cg{a b:IntKind}(h:Nat.beq (dn a) (dn b)=true):a=b:=by cases a<;>cases b<;>first|rfl|cases h
theorem oA(a b:Int):kQ a b=decide (a<b):=by
 rw[fS,decide_eq_true_iff]
 cases a with
 |ofNat a=>cases b with
  |ofNat b=>simp only[kQ,Nat.ble_eq,bb];omega
  |negSucc b=>simp only[kQ,bb,lF,pU,false_iff];omega
 |negSucc a=>cases b with
  |ofNat b=>simp only[kQ,bb,lF,true_iff];omega
  |negSucc b=>simp only[kQ,Nat.ble_eq,lF];omega
theorem tT(a b:Int):me a b=decide (a=b):=by
 rw[fS,decide_eq_true_iff]
 cases a with
 |ofNat a=>cases b with
  |ofNat b=>simp only[me,rD,bb];omega
  |negSucc b=>simp only[me,bb,lF,pU,false_iff];omega
 |negSucc a=>cases b with
  |ofNat b=>simp only[me,bb,lF,pU,false_iff];omega
  |negSucc b=>simp only[me,rD,lF];omega
theorem Jr(a b:List UInt8):pack (a++b)=pack a+256^a.length*pack b:=by
 induction a with
 |nil=>simp[pack]
 |cons x r z=>
  simp only[yA,pack,z,dk,ye]
  rw[Nat.mul_add,←nd,←Aw,mL 256 (256^r.length)]
theorem Lz(a:List UInt8):pack a<256^a.length:=by
 induction a with
 |nil=>simp[pack]
 |cons x r z=>
  simp only[pack,dk,ye]
  have:x.toNat<256:=x.toNat_lt
  omega
theorem BK(l:List UInt8)(i:Nat):pack l/256^i=pack (l.drop i):=by
 induction i generalizing l with
 |zero=>simp
 |succ i z=>
  cases l with
  |nil=>simp[pack]
  |cons x r=>
   simp only[pack,List.drop_succ_cons]
   have A:x.toNat<256:=x.toNat_lt
   have e:(x.toNat+256*pack r)/256=pack r:=by omega
   rw[ye,mL (256^i) 256,←Nat.div_div_eq_div_mul,e,z]
theorem BL(l:List UInt8)(n:Nat):pack l % 256^n=pack (l.take n):=by
 by_cases h:n≤l.length
 ·have z:pack l=pack (l.take n)+256^n*pack (l.drop n):=by
   have:=Jr (l.take n) (l.drop n)
   rw[Ei,nf,Nat.min_eq_left h] at this
   exact this
  have h2:=Lz (l.take n)
  rw[nf,Nat.min_eq_left h] at h2
  rw[z,Nat.add_mul_mod_self_left,Ax h2]
 have h':l.length≤n:=by omega
 rw[qu h']
 refine Ax (mw (Lz l) ?_)
 exact Ay (by omega) h'
theorem HY(i:Nat):2^(8*i)=256^i:=by rw[Nat.pow_mul]
theorem OG(v i:Nat):Nat.shiftRight v (Nat.mul 8 i)=v/256^i:=by
 show v>>>(8*i)=_
 rw[Nat.shiftRight_eq_div_pow,HY]
theorem Js(l:List UInt8)(i:Nat)(h:i<l.length):vI (pack l) i=(l[i]).toNat:=by
 unfold vI
 rw[OG,BK]
 show pack (l.drop i) % 256=_
 have z:=BL (l.drop i) 1
 rw[Az] at z
 have e:(l.drop i).take 1=[l[i]]:=by rw[AA h];rfl
 rw[e] at z
 rw[z]
 show l[i].toNat+256*0=_
 omega
theorem Jt(l:List UInt8)(lo hi:Nat):xm (pack l) lo hi=pack ((l.drop lo).take (hi-lo)):=by
 unfold xm
 rw[OG,BK,←BL]
 show _ % (1<<<(8*(hi-lo)))=_
 rw[Nat.shiftLeft_eq,sz,HY]
theorem Ju(a b:List UInt8):zI a.length (pack a) (pack b)=pack (a++b):=by
 unfold zI
 rw[Jr]
 show pack a+(pack b)<<<(8*a.length)=_
 rw[Nat.shiftLeft_eq,HY,mL]
theorem KQ:∀{a b:List UInt8},a.length=b.length→pack a=pack b→a=b
 |[],[],_,_=>rfl
 |[],_::_,h,_=>by simp at h
 |_::_,[],h,_=>by simp at h
 |x::r,y::s,h,k=>by
  simp only[pack] at k
  have z:x.toNat<256:=x.toNat_lt
  have A:y.toNat<256:=y.toNat_lt
  have e1:x.toNat=y.toNat:=by omega
  have e2:pack r=pack s:=by omega
  rw[KQ (by simpa using h) e2,UInt8.toNat_inj.1 e1]
theorem BF(a b:List UInt8):rf a.length (pack a) b.length (pack b)=decide (a=b):=by
 unfold rf
 rw[fS,decide_eq_true_iff]
 constructor
 ·intro h
  split at h
  ·rename_i z
   exact KQ (dZ z) (dZ h)
  cases h
 rintro rfl
 simp
theorem JM:∀(a b:List UInt8),strLt a.length (pack a) b.length (pack b)=Op.bytesLess a b
 |[],[]=>rfl
 |[],_::_=>rfl
 |x::r,[]=>rfl
 |x::r,y::s=>by
  have J:x.toNat<256:=x.toNat_lt
  have K:y.toNat<256:=y.toNat_lt
  have e1:Nat.mod (pack (x::r)) 256=x.toNat:=by show(x.toNat+256*pack r) % 256=_;omega
  have e2:Nat.mod (pack (y::s)) 256=y.toNat:=by show(y.toNat+256*pack s) % 256=_;omega
  have z:Nat.div (pack (x::r)) 256=pack r:=by show(x.toNat+256*pack r)/256=_;omega
  have A:Nat.div (pack (y::s)) 256=pack s:=by show(y.toNat+256*pack s)/256=_;omega
  have step:strLt (x::r).length (pack (x::r)) (y::s).length (pack (y::s))=
    match Nat.beq (Nat.mod (pack (x::r)) 256) (Nat.mod (pack (y::s)) 256) with
    |true=>strLt r.length (Nat.div (pack (x::r)) 256) s.length (Nat.div (pack (y::s)) 256)
    |false=>Nat.ble (Nat.succ (Nat.mod (pack (x::r)) 256)) (Nat.mod (pack (y::s)) 256):=rfl
  rw[step,e1,e2,z,A,JM r s]
  simp only[Op.bytesLess]
  by_cases h:x=y
  ·subst h
   have:¬(x<x):=by rw[AB];omega
   simp[this]
  have G:Nat.beq x.toNat y.toNat=false:=by
   rw[←EW,rD]
   exact fun e=>h (UInt8.toNat_inj.1 e)
  rw[G]
  have I:(x==y)=false:=by simpa using h
  simp only[I,Bool.false_and,Bool.or_false]
  rw[fS,Nat.ble_eq,decide_eq_true_iff,AB]
  exact Iff.rfl
end Go.Ev
