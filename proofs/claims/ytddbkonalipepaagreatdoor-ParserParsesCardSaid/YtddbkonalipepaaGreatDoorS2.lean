/- Part 2 of rules for walks through the code of a program, and of such walks; what each part proves is said by its theorems. -/
import Derived.Test.YtddbkonalipepaaGreatDoorS1
import GoSem.Core.Layout
import GoSem.ClaimKeys
import Derived.IntWalk
import Derived.Deep.AppendSrc
import Derived.RowKit3
set_option linter.unusedVariables false
set_option linter.unusedSimpArgs false
namespace Go.Ev
mutual
def valOf:Value→Option an
 |.bool b=>some (.bool b)
 |.int k n=>some (.int k n)
 |.string s=>some (.str s.size (pack s.data.toList))
 |.pointer none=>some .hY
 |.slice none 0 0=>some .cb
 |.nilIface=>some .gA
 |.nilFunc=>some .nC
 |.map none=>some .tA
 |.agg cs=>match zP cs.toList with
  |some l=>if l.all gZ then some (.agg l) else none
  |none=>none
 |_=>none
def zP:List Value→Option (List an)
 |[]=>some []
 |v::r=>match valOf v,zP r with
  |some a,some l=>some (a::l)
  |_,_=>none
end
def cellsOf:an→Option (List an)
 |.agg cs=>some cs
 |.tuple _=>none
 |.undef=>none
 |v=>some [v]
def dc(P:Program):Operand→Option aF
 |.tmp t=>if t<1296 then some (.t (pk t)) else none
 |.const v=>match valOf v with|some a=>some (.c a)|none=>none
 |.global g=>if g<P.globals.size then some (.c (.ptr g 1 0)) else none
 |.func f=>some (.c (.func f [] []))
def kW(P:Program):List Operand→Option (List aF)
 |[]=>some []
 |x::r=>match dc P x,kW P r with
  |some a,some l=>some (a::l)
  |_,_=>none
def zeroOf(P:Program)(t:TypeId):Option (List an):=
 match P.info? t with
 |some i=>match i.zero with
  |some z=>match valOf z with
   |some v=>match cellsOf v with
    |some l=>if l.length=i.size∧0<i.size then some l else none
    |none=>none
   |none=>none
  |none=>none
 |none=>none
def pE(P:Program)(t:TypeId):Bool:=match P.underlying t with|some (.struct _)=>true|some (.array _ _)=>true|_=>false
def A4:bE:=.mF (.c .hY) []
def Hc(P:Program):TypeDesc→Option yA
 |.bool=>some .bool
 |.pointer e=>match P.info? e with|some _=>some .ptr|none=>none
 |.slice _=>some .slice
 |.interface _=>some .iface
 |.func _ _ _=>some .func
 |.map _ _=>some .map
 |_=>none
def wQ:Operand→Bool
 |.const _=>true
 |_=>false
def CA(x y:Operand):TypeDesc→Bool
 |.interface ms=>ms.isEmpty||wQ x||wQ y
 |_=>true
def Cb(P:Program)(g:TypeId→Option (List Nat)):Nat→List Field→Option (List Nat)
 |_,[]=>some []
 |off,f::r=>match g f.type with
  |some k=>if f.offset=off∧k.length=P.cellsOf f.type then
    match Cb P g (off+k.length) r with
    |some l=>some (k++l)
    |none=>none
   else none
  |none=>none
def tp(P:Program):Nat→TypeId→Option (List Nat)
 |0,_=>none
 |d+1,t=>match P.underlying t with
  |some .bool=>some [100]
  |some (.int k)=>some [dk k]
  |some .string=>some [101]
  |some (.struct z)=>match Cb P (tp P d) 0 z.toList with
   |some ks=>if ks.length=P.cellsOf t∧z.all (·.name != "_")=true then some ks else none
   |none=>none
  |_=>none
def Hd(P:Program)(op:BinOp)(t:TypeId)(x y:aF):Option bE:=
 match tp P 12 t with
 |some ks=>if P.keyTypeAt 12 t=true∧P.eqGuardType P.depth t=false then
   match op with
   |.eql=>some (.eqv (.agg ks) false x y)
   |.neq=>some (.eqv (.agg ks) true x y)
   |_=>none
  else none
 |none=>none
def HL(P:Program)(op:BinOp)(d:TypeDesc)(z A:Operand)(x y:aF):Option bE:=
 match Hc P d with
 |some c=>if CA z A d=true then
   match op with
   |.eql=>some (.eqv c false x y)
   |.neq=>some (.eqv c true x y)
   |_=>none
  else none
 |none=>none
def NS(P:Program)(op:BinOp)(t:TypeId)(z A:Operand)(x y:aF):Option bE:=
 match P.underlying t with
 |some (.int _)=>some (.bin op x y)
 |some .string=>some (.bin op x y)
 |some (.struct _)=>Hd P op t x y
 |some d=>HL P op d z A x y
 |none=>none
def jx(P:Program)(t:TypeId):Option Nat:=match P.info? t,P.underlying t with|some i,some _=>if i.size≠0 then some i.size else none|_,_=>none
def Cc(P:Program)(t:TypeId)(x:aF):Option bE:=
 match P.info? t with
 |some j=>if j.size≠0 then some (.qn t (P.cellsOf t) x) else none
 |none=>none
def Gi(P:Program)(src dst:TypeId)(x:aF):Option bE:=
 match P.underlying src,P.underlying dst with
 |some .string,some (.slice e)=>match P.underlying e with
  |some (.int .u8)=>some (.xi e x)
  |_=>none
 |some (.slice e),some .string=>match P.underlying e with
  |some (.int .u8)=>some (.qS x)
  |_=>none
 |some (.pointer t),some .unsafePointer=>Cc P t x
 |some .unsafePointer,some (.pointer t)=>Cc P t x
 |_,_=>none
def Mh(P:Program)(src dst:TypeId)(x:aF):Option bE:=
 match P.underlying src,P.underlying dst with
 |some (.int _),some (.int k)=>some (.conv k x)
 |_,_=>Gi P src dst x
def xm(P:Program)(place:Nat→Option (Nat×Nat)):List (Nat×Operand)→Option (List (Nat×Nat×aF))
 |[]=>some []
 |(i,x)::r=>match place i,dc P x,xm P place r with
  |some q,some y,some l=>some ((q.1,q.2,y)::l)
  |_,_,_=>none
def Cd(P:Program):List (Nat×Operand)→Option (List (Nat×aF))
 |[]=>some []
 |(i,x)::r=>match dc P x,Cd P r with
  |some y,some l=>some ((i,y)::l)
  |_,_=>none
def pF(P:Program):Option Operand→Option (Option aF)
 |none=>some none
 |some x=>match dc P x with|some y=>some (some y)|none=>none
def Ce(z:List an):Option (List (Nat×Nat×aF))→Option bE
 |some l=>if(l.all fun p=>decide (p.1+p.2.1≤z.length))=true then some (.build z l) else none
 |none=>none
def Gj(P:Program)(t:TypeId)(parts:List (Nat×Operand)):Option bE:=
 match zeroOf P t with
 |some z=>match P.underlying t with
  |some (.struct I)=>match I.toList.mapM (fun f=>(P.info? f.type).map fun i=>(f.offset,i.size)) with
   |some A=>Ce z (xm P (fun i=>A.toArray[i]?) parts)
   |none=>none
  |some (.array _ e)=>match P.info? e with
   |some G=>Ce z (xm P (fun i=>some (i*G.size,G.size)) parts)
   |none=>none
  |_=>none
 |none=>none
def FN(P:Program)(t:TypeId)(A:Nat)(parts:List (Nat×Operand)):Option bE:=
 match P.underlying t with
 |some (.slice e)=>match P.info? e,zeroOf P e with
  |some i,some z=>match Cd P parts with
   |some l=>if A*i.size≤16777216 then some (.cY e i.size i.bytes A z l) else none
   |none=>none
  |_,_=>none
 |_=>none
def GH(P:Program)(t:TypeId)(a b:aF):Option bE:=
 match P.underlying t with
 |some (.slice e)=>match P.info? e,zeroOf P e with
  |some i,some z=>if i.bytes≠0 then some (.yg e i.size i.bytes z a b) else none
  |_,_=>none
 |_=>none
def Tj(_:Program)(_:TypeId)(_:aF)(_ _:Option aF):Option bE:=none
def KF(mx:Bool):List aF→Option bE
 |x::r=>some (.zG mx x r)
 |[]=>none
def Tk(_:Program)(_:Op):Option bE:=none
def GI(P:Program)(c:Call):Option bE:=
 match c.callee,kW P c.args.toList with
 |.value f,some args=>match f with
  |.func f=>some (.call f args)
  |f=>match dc P f with|some y=>some (.mF y args)|none=>none
 |.builtin .len,some [x]=>match c.argTypes[0]?with
  |some t=>match P.underlying t with
   |some .string=>some (.o3 x)
   |some (.slice _)=>some (.len x)
   |some (.array n _)=>some (.AE n)
   |_=>none
  |none=>none
 |.builtin .append,some [x,y]=>match c.argTypes[0]?,c.argTypes[1]?with
  |some t,some u=>match P.underlying t,P.underlying u with
   |some (.slice e),some (.slice _)=>match P.info? e,zeroOf P e with
    |some i,some _=>if i.bytes≠0 then some (.app e i.size i.bytes x y) else none
    |_,_=>none
   |some (.slice e),some .string=>match P.info? e,zeroOf P e with
    |some i,some _=>if i.size=1∧i.bytes=1 then some (.tC e x y) else none
    |_,_=>none
   |_,_=>none
  |_,_=>none
 |.builtin .unsafeSliceData,some [x]=>some (.uS x)
 |.builtin .unsafeString,some [x,y]=>match c.argTypes.toList with
  |[z,_]=>match P.underlying z with
   |some (.pointer e)=>if P.cellsOf e=1 then some (.qu e x y) else none
   |_=>none
  |_=>none
 |.builtin .min,some l=>KF false l
 |.builtin .max,some l=>KF true l
 |_,_=>none
def AN(P:Program)(o:Op):Option bE:=
 match o with
 |.move x=>match dc P x with|some y=>some (.nV y)|none=>none
 |.assign x=>match dc P x with|some y=>some (.nV y)|none=>none
 |.pick c a b=>match dc P c,dc P a,dc P b with|some c,some a,some b=>some (.pick c a b)|_,_,_=>none
 |.alloc t=>match zeroOf P t,P.info? t with|some z,some i=>some (.ca t i.size i.bytes z)|_,_=>none
 |.box t x=>match jx P t,P.info? t,dc P x with|some n,some i,some y=>some (.box t n i.bytes y)|_,_,_=>none
 |.build t parts=>Gj P t parts.toList
 |.buildSlice t I parts=>FN P t I parts.toList
 |.load t a=>match jx P t,dc P a with|some n,some y=>some (.load n (pE P t) y)|_,_=>none
 |.store t a x=>match jx P t,dc P a,dc P x with|some n,some y,some z=>some (.store n y z)|_,_,_=>none
 |.nilCheck x=>match dc P x with|some y=>some (.oR y)|none=>none
 |.binOp op t x y _=>match dc P x,dc P y with|some a,some b=>NS P op t x y a b|_,_=>none
 |.unOp op _ x=>match dc P x with|some y=>some (.un op y)|none=>none
 |.convert src dst x=>match dc P x with|some y=>Mh P src dst y|none=>none
 |.makeInterface t x=>match P.underlying t,dc P x with
  |some (.interface _),_=>none
  |some _,some y=>some (.uJ t y)
  |_,_=>none
 |.makeFunc (.func f) first eD=>match kW P first.toList,kW P eD.toList with|some G,some l=>some (.nR f G l)|_,_=>none
 |.makeSlice t I J=>match dc P I,dc P J with|some a,some b=>GH P t a b|_,_=>none
 |.slice t x lo hi none=>match P.underlying t,dc P x,pF P lo,pF P hi with
  |some .string,some x,some lo,some hi=>some (.iM x lo hi)
  |some (.slice e),some x,some lo,some hi=>match jx P e with|some n=>some (.AD n x lo hi)|none=>none
  |some _,some x,some lo,some hi=>Tj P t x lo hi
  |_,_,_,_=>none
 |.fieldAddr s x f=>match P.underlying s,dc P x with
  |some (.struct G),some y=>match G[f]?with
   |some A=>match jx P A.type with|some _=>some (.nQ y A.offset)|none=>none
   |none=>none
  |_,_=>none
 |.field s x f=>match P.underlying s,dc P x with
  |some (.struct G),some y=>match G[f]?with
   |some A=>match jx P A.type with|some n=>some (.sub y A.offset n (pE P A.type))|none=>none
   |none=>none
  |_,_=>none
 |.indexAddr t x i=>match P.underlying t,dc P x,dc P i with
  |some (.array k e),some x,some i=>match jx P e with|some n=>if 1<k then some (.lr k n x i) else none|none=>none
  |some (.slice e),some x,some i=>match jx P e with|some n=>some (.fm n x i)|none=>none
  |_,_,_=>none
 |.index t x i=>match P.underlying t,dc P x,dc P i with
  |some (.array k e),some x,some i=>match jx P e with|some n=>some (.zF k n (pE P e) x i)|none=>none
  |some .string,some x,some i=>some (.rZ x i)
  |_,_,_=>none
 |.extract x i=>match dc P x with|some y=>some (.ri y i)|none=>none
 |.call c=>GI P c
 |o=>Tk P o
def mC:bE→Bool
 |.ca ..|.box ..|.load ..|.store ..|.yg ..|.cY ..|.app ..|.tC ..|.copy ..|.xi ..|.qS ..|.vR ..|.call ..|.mF ..|.qn ..|.qu ..=>false
 |_=>true
structure Hm where
 b8:Nat
 off:Nat
 room:Nat
 ro:Bool
 mw:Bool:=false
abbrev Ho:=Nat→Nat→Option Hm
def HM(h:Hm)(a:Addr)(l cap o es:Nat):Prop:=
 (a=⟨h.b8,h.off+o,none⟩∧o+cap*es≤h.room)∨(l=0∧cap=0∧0<o)
mutual
def VR(ρ:Ho):an→Value→Prop
 |.bool b,v=>v= .bool b
 |.int k n,v=>v= .int k n
 |.str l s,v=>∃b:ByteArray,v= .string b∧l=b.size∧s=pack b.data.toList
 |.ptr f g o,v=>∃h,ρ f g=some h∧v= .pointer (some ⟨h.b8,h.off+o,none⟩)
 |.hY,v=>v= .pointer none
 |.slice f g o l es,v=>∃h a cap,ρ f g=some h∧v= .slice (some a) l cap∧l≤cap∧HM h a l cap o es
 |.cb,v=>v= .slice none 0 0
 |.agg cs,v=>∃vs,v= .agg vs∧cw ρ cs vs.toList∧cs.all gZ=true
 |.tuple cs,v=>∃vs,v= .tuple vs∧cw ρ cs vs.toList
 |.func f first eD,v=>∃z vs,v= .func (.func f) z vs∧cw ρ first z.toList∧cw ρ eD vs.toList
 |.nC,v=>v= .nilFunc
 |.iface t a,v=>∃x,v= .iface t x∧VR ρ a x
 |.gA,v=>v= .nilIface
 |.map _,v=>∃a:Addr,v= .pointer (some a)
 |.tA,v=>v= .map none
 |.undef,v=>v=undef
def cw(ρ:Ho):List an→List Value→Prop
 |[],vs=>vs=[]
 |a::r,vs=>∃v t,vs=v::t∧VR ρ a v∧cw ρ r t
end
def Ho.le(ρ ρ':Ho):Prop:=∀f g h,ρ f g=some h→ρ' f g=some h
theorem Ho.le_refl(ρ:Ho):ρ.le ρ:=fun _ _ _ h=>h
theorem Ho.le_trans{a b c:Ho}(h:a.le b)(k:b.le c):a.le c:=fun f g x z=>k f g x (h f g x z)
mutual
theorem VR.mono{ρ ρ':Ho}(z:ρ.le ρ'):∀{a:an}{v:Value},VR ρ a v→VR ρ' a v
 |.bool _,_,h=>by simpa[VR] using h
 |.int _ _,_,h=>by simpa[VR] using h
 |.str _ _,_,h=>by simpa[VR] using h
 |.ptr _ _ _,_,h=>by
  simp only[VR] at h⊢
  obtain⟨x,G,e⟩:=h
  exact⟨x,z _ _ _ G,e⟩
 |.hY,_,h=>by simpa[VR] using h
 |.slice _ _ _ _ _,_,h=>by
  simp only[VR] at h⊢
  obtain⟨x,a,c,G,e⟩:=h
  exact⟨x,a,c,z _ _ _ G,e⟩
 |.cb,_,h=>by simpa[VR] using h
 |.agg cs,_,h=>by
  simp only[VR] at h⊢
  obtain⟨vs,e,A,ho⟩:=h
  exact⟨vs,e,cw.mono z A,ho⟩
 |.tuple cs,_,h=>by
  simp only[VR] at h⊢
  obtain⟨vs,e,A⟩:=h
  exact⟨vs,e,cw.mono z A⟩
 |.func _ _ cs,_,h=>by
  simp only[VR] at h⊢
  obtain⟨I,vs,e,J,A⟩:=h
  exact⟨I,vs,e,cw.mono z J,cw.mono z A⟩
 |.nC,_,h=>by simpa[VR] using h
 |.iface _ a,_,h=>by
  simp only[VR] at h⊢
  obtain⟨x,e,A⟩:=h
  exact⟨x,e,VR.mono z A⟩
 |.gA,_,h=>by simpa[VR] using h
 |.map _,_,h=>by simp only[VR] at h⊢;exact h
 |.tA,_,h=>by simpa[VR] using h
 |.undef,_,h=>by simpa[VR] using h
theorem cw.mono{ρ ρ':Ho}(z:ρ.le ρ'):∀{a:List an}{v:List Value},cw ρ a v→cw ρ' a v
 |[],_,h=>by simpa[cw] using h
 |a::r,_,h=>by
  simp only[cw] at h⊢
  obtain⟨v,t,e,A,h2⟩:=h
  exact⟨v,t,e,VR.mono z A,cw.mono z h2⟩
end
theorem cw.length{ρ:Ho}:∀{a:List an}{v:List Value},cw ρ a v→v.length=a.length
 |[],_,h=>by simp only[cw] at h;subst h;rfl
 |a::r,_,h=>by
  simp only[cw] at h
  obtain⟨v,t,rfl,_,h2⟩:=h
  simp[cw.length h2]
theorem cw.get{ρ:Ho}:∀{a:List an}{v:List Value},cw ρ a v→∀(i:Nat)(x:an),a[i]?=some x→∃y,v[i]?=some y∧VR ρ x y
 |[],_,_,i,x,z=>by simp at z
 |a::r,_,h,i,x,z=>by
  simp only[cw] at h
  obtain⟨v,t,rfl,A,h2⟩:=h
  cases i with
  |zero=>simp at z;subst z;exact⟨v,rfl,A⟩
  |succ i=>simp at z;obtain⟨y,G,k⟩:=cw.get h2 i x z;exact⟨y,by simpa using G,k⟩
theorem cw.qT{ρ:Ho}:∀{a:List an}{v:List Value},v.length=a.length→(∀(i:Nat)(x:an),a[i]?=some x→∃y,v[i]?=some y∧VR ρ x y)→cw ρ a v
 |[],v,z,_=>by simp only[cw];exact sG (by simpa using z)
 |a::r,[],z,_=>by simp at z
 |a::r,v::t,z,h=>by
  simp only[cw]
  refine⟨v,t,rfl,?_,cw.qT (by simpa using z) fun i x G=>?_⟩
  ·obtain⟨y,A,k⟩:=h 0 a rfl;simp at A;subst A;exact k
  obtain⟨y,A,k⟩:=h (i+1) x (by simpa using G);exact⟨y,by simpa using A,k⟩
theorem cw.append{ρ:Ho}{a b:List an}{v u:List Value}(h:cw ρ a v)(k:cw ρ b u):cw ρ (a++b) (v++u):=by
 induction a generalizing v with
 |nil=>simp only[cw] at h;subst h;exact k
 |cons x r z=>
  simp only[cw] at h
  obtain⟨y,t,rfl,A,h2⟩:=h
  simp only[yz,cw]
  exact⟨y,t++u,rfl,A,z h2⟩
theorem cw.take{ρ:Ho}{a:List an}{v:List Value}(h:cw ρ a v)(n:Nat):cw ρ (a.take n) (v.take n):=by
 refine cw.qT (by simp[h.length]) fun i x z=>?_
 rw[A0] at z
 split at z
 ·obtain⟨y,A,k⟩:=h.get i x z
  exact⟨y,by rw[A0,aq (by assumption)];exact A,k⟩
 cases z
theorem cw.drop{ρ:Ho}{a:List an}{v:List Value}(h:cw ρ a v)(n:Nat):cw ρ (a.drop n) (v.drop n):=by
 refine cw.qT (by simp[h.length]) fun i x z=>?_
 rw[sH] at z
 obtain⟨y,A,k⟩:=h.get _ x z
 exact⟨y,by rw[sH];exact A,k⟩
theorem VR.cells{ρ:Ho}{a:an}{v:Value}{l:List an}(h:VR ρ a v)(z:jK a=some l):cw ρ l v.cells.toList∧l.all gZ=true:=by
 have one:∀{x:an}{y:Value},VR ρ x y→y.cells=#[y]→gZ x=true→l=[x]→cw ρ l y.cells.toList∧l.all gZ=true:=by
  intro x y A G hk I
  subst I
  rw[G]
  exact⟨⟨y,[],rfl,A,rfl⟩,by simp[hk]⟩
 cases a<;>simp only[jK,gO,reduceCtorEq] at z
 case agg cs=>
  simp only[VR] at h
  obtain⟨vs,rfl,J,ho⟩:=h
  subst z
  exact⟨J,ho⟩
 case bool b=>exact one h (by simp only[VR] at h;subst h;rfl) rfl z.symm
 case int k n=>exact one h (by simp only[VR] at h;subst h;rfl) rfl z.symm
 case str k n=>exact one h (by simp only[VR] at h;obtain⟨b,rfl,_⟩:=h;rfl) rfl z.symm
 case ptr f g o=>exact one h (by simp only[VR] at h;obtain⟨b,_,rfl⟩:=h;rfl) rfl z.symm
 case hY=>exact one h (by simp only[VR] at h;subst h;rfl) rfl z.symm
 case slice f g o l es=>exact one h (by simp only[VR] at h;obtain⟨_,_,_,_,rfl,_⟩:=h;rfl) rfl z.symm
 case cb=>exact one h (by simp only[VR] at h;subst h;rfl) rfl z.symm
 case func f K c=>exact one h (by simp only[VR] at h;obtain⟨_,_,rfl,_⟩:=h;rfl) rfl z.symm
 case nC=>exact one h (by simp only[VR] at h;subst h;rfl) rfl z.symm
 case iface t x=>exact one h (by simp only[VR] at h;obtain⟨_,rfl,_⟩:=h;rfl) rfl z.symm
 case gA=>exact one h (by simp only[VR] at h;subst h;rfl) rfl z.symm
 case map f=>exact one h (by simp only[VR] at h;obtain⟨a,rfl⟩:=h;rfl) rfl z.symm
 case tA=>exact one h (by simp only[VR] at h;subst h;rfl) rfl z.symm
theorem VR.VG{ρ:Ho}{a:an}{v:Value}(h:VR ρ a v)(hk:gZ a=true):(∀cs,v≠.agg cs)∧(∀cs,v≠.tuple cs):=by
 cases a<;>simp only[VR,gZ,pR] at h hk
 all_goals first
  |(subst h;exact⟨fun _=>by simp,fun _=>by simp⟩)
  |(obtain⟨_,rfl⟩:=h;exact⟨fun _=>by simp,fun _=>by simp⟩)
  |(obtain⟨_,rfl,_⟩:=h;exact⟨fun _=>by simp,fun _=>by simp⟩)
  |(obtain⟨_,_,rfl⟩:=h;exact⟨fun _=>by simp,fun _=>by simp⟩)
  |(obtain⟨_,_,rfl,_⟩:=h;exact⟨fun _=>by simp,fun _=>by simp⟩)
  |(obtain⟨_,_,_,_,rfl,_⟩:=h;exact⟨fun _=>by simp,fun _=>by simp⟩)
structure D1(ρ:Ho)(w:World)(h:Hm)(g elem es n fl:Nat)(cs:RT):Prop where
 row:∃c fz,w.heap[h.b8]?=some (.cells c elem fz)∧h.off+h.room≤c.size
 fits:g*es≤h.room
 cell:∀i,i<g→∃l,cs.get i=some l∧l.length=es∧∀j x,l[j]?=some x→gZ x=true∧∃cv,w.cell? ⟨h.b8,h.off+i*es+j,none⟩=some cv∧VR ρ x cv
 Ak:fl=0→∀i,i<h.room→w.frozen? ⟨h.b8,h.off+i,none⟩=false
 xQ:fl≠1→∀i,n*es≤i→i<h.room→w.frozen? ⟨h.b8,h.off+i,none⟩=false
 sq:fl=0∨fl=2→h.off=0
 yD:fl=0∨fl=2→∀c e fz,w.heap[h.b8]?=some (.cells c e fz)→fz.1=fz.2∨fz.2≤n*es
def Al(ρ:Ho)(w:World)(h:Hm)(g:Nat):dP→Prop
 |.row elem es _ n lo fl cs=>0<es∧(h.ro=true→fl=1)∧g≤n∧(lo≤g→g≤n→D1 ρ w h g elem es n fl cs)
 |.map _=>False
def yE(ρ:Ho)(w:World)(f:Nat)(h:Hm):Prop:=(∀g' h',ρ f g'=some h'→h'.ro=true)∧∃z A,w.cell? ⟨h.b8,h.off,none⟩=some (.iface z A)
structure R(ρ:Ho)(C:Nat→Option dP)(w:World):Prop where
 obj:∀f o,C f=some o→∀g h,ρ f g=some h→Al ρ w h g o
 nS:∀f g h f' g' h',ρ f g=some h→ρ f' g'=some h'→f≠f'→h.b8=h'.b8→h.ro=true∧h'.ro=true
 jX:∀f g h,ρ f g=some h→h.b8<w.heap.size
 uniq:∀f g h g' h',ρ f g=some h→ρ f g'=some h'→h.b8=h'.b8→h.off=h'.off
 mw:∀f g h,ρ f g=some h→h.ro=true→h.mw=true→yE ρ w f h
structure Ext(W:Nat→Prop)(n0 n1:Nat)(ρ ρ':Ho)(w w':World):Prop where
 le:ρ.le ρ'
 jj:∀f g h,ρ' f g=some h→(∃g0 h0,ρ f g0=some h0)∨(n0≤f∧f<n1)
 b8:∀f g h,ρ' f g=some h→ρ f g=some h∨(w.heap.size≤h.b8∧h.ro=false)∨(∃g0 h0,ρ f g0=some h0∧h0.b8=h.b8∧h0.ro=h.ro)
 frame:∀b,b<w.heap.size→(∀f g h,ρ f g=some h→h.ro=false→W f→h.b8≠b)→w'.heap[b]?=w.heap[b]?
 size:w.heap.size≤w'.heap.size
 nn:n0≤n1
 os:w'.os=w.os
 tape:w'.tape=w.tape
 output:w'.output=w.output
theorem Ext.refl(W:Nat→Prop)(n:Nat)(ρ:Ho)(w:World):Ext W n n ρ ρ w w:=
 ⟨Ho.le_refl _,fun f g h e=>.inl ⟨g,h,e⟩,fun _ _ _ e=>.inl e,fun _ _ _=>rfl,bY _,bY _,rfl,rfl,rfl⟩
theorem Ext.mono{W z:Nat→Prop}{n0 n1:Nat}{ρ ρ':Ho}{w w':World}(h:Ext W n0 n1 ρ ρ' w w')(A:∀f,W f→z f):Ext z n0 n1 ρ ρ' w w':=
 ⟨h.le,h.jj,h.b8,fun b G k=>h.frame b G fun f g x I J K=>k f g x I J (A f K),h.size,h.nn,h.os,h.tape,h.output⟩
theorem Ext.trans{W:Nat→Prop}{n0 n1 K:Nat}{ρ z A:Ho}{w O U:World}(h:Ext W n0 n1 ρ z w O)(k:Ext W n1 K z A O U):Ext W n0 K ρ A w U:=by
 refine⟨Ho.le_trans h.le k.le,?_,?_,?_,kb h.size k.size,kb h.nn k.nn,k.os.trans h.os,k.tape.trans h.tape,k.output.trans h.output⟩
 ·intro f g x G
  have Y:=h.nn
  have h2:=k.nn
  rcases k.jj f g x G with⟨g0,h0,e⟩|⟨a,b⟩
  ·rcases h.jj f g0 h0 e with e|⟨a,b⟩
   ·exact .inl e
   exact .inr ⟨a,by omega⟩
  exact .inr ⟨by omega,b⟩
 ·intro f g x G
  rcases k.b8 f g x G with e|⟨a,b⟩|⟨g0,h0,e,e1,e2⟩
  ·exact h.b8 f g x e
  ·exact .inr (.inl ⟨kb h.size a,b⟩)
  rcases h.b8 f g0 h0 e with I|⟨a,b⟩|⟨g1,Y,I,e3,e4⟩
  ·exact .inr (.inr ⟨g0,h0,I,e1,e2⟩)
  ·exact .inr (.inl ⟨e1▸a,e2▸b⟩)
  exact .inr (.inr ⟨g1,Y,I,e3.trans e1,e4.trans e2⟩)
 intro b Z J
 rw[k.frame b (mn Z h.size) ?_,h.frame b Z J]
 intro f g x G hr hw
 rcases h.b8 f g x G with e|⟨a,_⟩|⟨g0,h0,e,e1,e2⟩
 ·exact J f g x e hr hw
 ·intro hh;omega
 exact e1▸J f g0 h0 e (e2.trans hr) hw
theorem cell_of_heap{w w':World}{a:Addr}(h:w'.heap[a.block]?=w.heap[a.block]?):w'.cell? a=w.cell? a:=by simp only[World.cell?,h]
theorem yE.iR{ρ:Ho}{w w':World}{f:Nat}{h:Hm}(k:yE ρ w f h)(z:w'.cell? ⟨h.b8,h.off,none⟩=w.cell? ⟨h.b8,h.off,none⟩):yE ρ w' f h:=⟨k.1,by obtain⟨A,G,e⟩:=k.2;exact⟨A,G,z.trans e⟩⟩
theorem frozen_of_heap{w w':World}{a:Addr}(h:w'.heap[a.block]?=w.heap[a.block]?):w'.frozen? a=w.frozen? a:=by simp only[World.frozen?,h]
theorem D1.iR{ρ ρ':Ho}{w w':World}{h:Hm}{g elem es n fl:Nat}{cs:RT}(k:D1 ρ w h g elem es n fl cs)(G:ρ.le ρ')(z:w'.heap[h.b8]?=w.heap[h.b8]?):
  D1 ρ' w' h g elem es n fl cs:=by
 refine⟨by rw[z];exact k.row,k.fits,fun i hi=>?_,fun h0 i hi=>?_,fun h0 i hi I=>?_,k.sq,fun e c t fz A=>k.yD e c t fz (by rw[←z];exact A)⟩
 ·obtain⟨l,e,e1,e2⟩:=k.cell i hi
  refine⟨l,e,e1,fun j x J=>?_⟩
  obtain⟨o,cv,A,K⟩:=e2 j x J
  exact⟨o,cv,by rw[cell_of_heap (w:=w) z];exact A,K.mono G⟩
 ·rw[frozen_of_heap (w:=w) z];exact k.Ak h0 i hi
 rw[frozen_of_heap (w:=w) z];exact k.xQ h0 i hi I
theorem Al.iR{ρ ρ':Ho}{w w':World}{h:Hm}{g:Nat}{o:dP}(k:Al ρ w h g o)(z:ρ.le ρ')(A:w'.heap[h.b8]?=w.heap[h.b8]?):Al ρ' w' h g o:=by
 cases o with
 |row elem es aQ n lo fl cs=>exact⟨k.1,k.2.1,k.2.2.1,fun a b=>(k.2.2.2 a b).iR z A⟩
 |map es=>exact k
theorem R.weaken{ρ:Ho}{C z:Nat→Option dP}{w:World}(h:R ρ C w)(hC:∀f o,z f=some o→(∃g x,ρ f g=some x)→C f=some o):R ρ z w:=
 ⟨fun f o e g x A=>h.obj f o (hC f o e ⟨g,x,A⟩) g x A,h.nS,h.jX,h.uniq,h.mw⟩
theorem fV{β:Type}(k e:β):aH true k e=k:=rfl
theorem Rq{β:Type}(k e:β):aH false k e=e:=rfl
theorem qU{β:Type}(b:Bool)(k e:β):aH b k e=if b=true then k else e:=by cases b<;>rfl
section
variable{v:an}{H':az}{n:Nat}
theorem fD{b:Bool}{k:aD}(h:aH b k (.err n)= .ok v H'):b=true∧k= .ok v H':=by
 cases b
 ·cases h
 exact⟨rfl,h⟩
theorem jm{α:Type}{o:Option α}{k:α→aD}(h:ob o (.err n) k= .ok v H'):∃x,o=some x∧k x= .ok v H':=by
 cases o with
 |none=>cases h
 |some x=>exact⟨x,rfl,h⟩
theorem fe{x:aF}{E:Env}{k:an→aD}(h:bA x E (.err n) k= .ok v H'):∃a,x.ev E=some a∧k a= .ok v H':=by
 cases x with
 |t i=>exact jm h
 |c a=>exact⟨a,rfl,h⟩
theorem Rr{a:an}{k:Bool→aD}(h:r4 a (.err n) k= .ok v H'):∃b,a= .bool b∧k b= .ok v H':=by
 cases a<;>first|cases h;done|exact⟨_,rfl,h⟩
theorem rM{a:an}{k:IntKind→Int→aD}(h:gN a (.err n) k= .ok v H'):∃b i,a= .int b i∧k b i= .ok v H':=by
 cases a<;>first|cases h;done|exact⟨_,_,rfl,h⟩
theorem wR{a:an}{k:Nat→Nat→aD}(h:jQ a (.err n) k= .ok v H'):∃l s,a= .str l s∧k l s= .ok v H':=by
 cases a<;>first|cases h;done|exact⟨_,_,rfl,h⟩
theorem vn{a:an}{k:Nat→Nat→Nat→aD}(h:iv a (.err n) k= .ok v H'):∃f g o,a= .ptr f g o∧k f g o= .ok v H':=by
 cases a<;>first|cases h;done|exact⟨_,_,_,rfl,h⟩
theorem wG{a:an}{e:aD}{k:Nat→Nat→Nat→Nat→Nat→aD}(h:gU a (.err n) e k= .ok v H'):
  (a= .cb∧e= .ok v H')∨∃f g o l es,a= .slice f g o l es∧k f g o l es= .ok v H':=by
 cases a<;>first|cases h;done|exact .inr ⟨_,_,_,_,_,rfl,h⟩|exact .inl ⟨rfl,h⟩
theorem KG{a:an}{k:List an→aD}(h:oT a (.err n) k= .ok v H'):∃l,a= .agg l∧k l= .ok v H':=by
 cases a<;>first|cases h;done|exact⟨_,rfl,h⟩
theorem QM{a:an}{k:List an→aD}(h:rR a (.err n) k= .ok v H'):∃l,a= .tuple l∧k l= .ok v H':=by
 cases a<;>first|cases h;done|exact⟨_,rfl,h⟩
theorem Rt{a:an}{k:Nat→List an→List an→aD}(h:tD a (.err n) k= .ok v H'):∃f z l,a= .func f z l∧k f z l= .ok v H':=by
 cases a<;>first|cases h;done|exact⟨_,_,_,rfl,h⟩
theorem vo{i:Int}{k:Nat→aD}(h:jd i (.err n) k= .ok v H'):∃m:Nat,i=(m:Int)∧k m= .ok v H':=by
 cases i with
 |ofNat m=>exact⟨m,rfl,h⟩
 |negSucc m=>cases h
theorem oq(l:List an):jg l=l.length:=by
 induction l with
 |nil=>rfl
 |cons a r z=>show Nat.succ (jg r)=_;rw[z];rfl
theorem CB{a:an}{m:Nat}{k:Nat→aD}(h:idx a m (.err n) k= .ok v H'):∃z i,a= .int z (i:Nat)∧i<m∧k i= .ok v H':=by
 obtain⟨z,i,rfl,h⟩:=rM h
 obtain⟨j,rfl,h⟩:=vo h
 obtain⟨A,h⟩:=fD h
 exact⟨z,j,rfl,bS A,h⟩
theorem UH{E:Env}{x:Option aF}{d y:Nat}{k:Nat→aD}(h:gQ E x d y (.err n) k= .ok v H'):
  (x=none∧k d= .ok v H')∨∃z A i,x=some z∧z.ev E=some (.int A (i:Nat))∧i≤y∧k i= .ok v H':=by
 cases x with
 |none=>exact .inl ⟨rfl,h⟩
 |some z=>
  obtain⟨a,G,h⟩:=jm h
  obtain⟨A,i,rfl,h⟩:=rM h
  obtain⟨j,rfl,h⟩:=vo h
  obtain⟨I,h⟩:=fD h
  exact .inr ⟨z,A,j,rfl,G,bS I,h⟩
theorem KH{o:Option dP}{k:Nat→Nat→Nat→Nat→Nat→Nat→RT→aD}(h:iU o (.err n) k= .ok v H'):
  ∃elem es aQ m lo fl cs,o=some (.row elem es aQ m lo fl cs)∧k elem es aQ m lo fl cs= .ok v H':=by
 cases o with
 |none=>cases h
 |some o=>cases o with
  |row=>exact⟨_,_,_,_,_,_,_,rfl,h⟩
  |map=>cases h
theorem Gk{agg:Bool}{l:List an}{k:an→aD}(h:iG agg l (.err n) k= .ok v H'):
  (agg=true∧k (.agg l)= .ok v H')∨∃x,agg=false∧l=[x]∧k x= .ok v H':=by
 cases agg with
 |true=>exact .inl ⟨rfl,h⟩
 |false=>
  cases l with
  |nil=>cases h
  |cons x r=>cases r with
   |nil=>exact .inr ⟨x,rfl,rfl,h⟩
   |cons y s=>cases h
theorem wS{H:az}{o:dP}{k:Nat→az→aD}(h:H.alloc o k= .ok v H'):k H.next ⟨H.next+1,H.bc,H.ws,H.t.set H.next o⟩= .ok v H':=by
 cases H with
 |mk next bc ws t=>
  have h':dp next (fun f=>t.gr f o fun t=>k f ⟨Nat.succ f,bc,ws,t⟩)= .ok v H':=h
  rw[iq,GT.j6] at h'
  exact h'
end
theorem CC(m n:Nat):rq m n=(m:Int) -(n:Int):=by
 unfold rq
 cases h:Nat.ble n m
 ·have:¬n≤m:=fun e=>by rw[jA e] at h;cases h
  show Int.negSucc (n-m-1)=_
  rw[lE];omega
 have:n≤m:=bS h
 show Int.ofNat (m-n)=_
 rw[aZ];omega
theorem Tl(x y:Int):Om x y=x+y:=by
 cases x with
 |ofNat m=>cases y with
  |ofNat n=>rfl
  |negSucc n=>show rq m (n+1)=_;rw[CC,lE,aZ];omega
 |negSucc m=>cases y with
  |ofNat n=>show rq n (m+1)=_;rw[CC,lE,aZ];omega
  |negSucc n=>show Int.negSucc (m+n+1)=_;rw[lE,lE,lE];omega
theorem Tm(x y:Int):On x y=x-y:=by
 cases x with
 |ofNat m=>cases y with
  |ofNat n=>show rq m n=_;rw[CC];rfl
  |negSucc n=>show Int.ofNat (m+(n+1))=_;rw[lE,aZ,aZ];omega
 |negSucc m=>cases y with
  |ofNat n=>show Int.negSucc (m+n)=_;rw[lE,lE,aZ];omega
  |negSucc n=>show rq n m=_;rw[CC,lE,lE];omega
theorem CD(x y:Int):A1 x y=lj x y:=by cases x<;>cases y<;>rfl
theorem Mi(x y:Int):Ic x y=l7 x y:=by cases x<;>cases y<;>rfl
theorem UI(n:Int):O0 n=IntKind.wrap .i64 n:=by
 cases n with
 |ofNat m=>
  show Bool.rec (motive:=fun _=>Int) (IntKind.wrap .i64 (.ofNat m)) (.ofNat m) (Nat.ble m 9223372036854775807)=_
  cases h:Nat.ble m 9223372036854775807
  ·rfl
  have:=bS h
  exact(IntWalk.i64_in (Int.ofNat m) (by simp only[aZ];omega)).symm
 |negSucc m=>
  show Bool.rec (motive:=fun _=>Int) (IntKind.wrap .i64 (.negSucc m)) (.negSucc m) (Nat.ble m 9223372036854775807)=_
  cases h:Nat.ble m 9223372036854775807
  ·rfl
  have:=bS h
  exact(IntWalk.i64_in (Int.negSucc m) (by rw[lE];omega)).symm
theorem D2(mx:Nat)(k:IntKind)(hk:∀n:Int,0≤n∧n≤mx→k.wrap n=n)(n:Int):wU mx k n=IntKind.wrap k n:=by
 cases n with
 |ofNat m=>
  show Bool.rec (motive:=fun _=>Int) (IntKind.wrap k (.ofNat m)) (.ofNat m) (Nat.ble m mx)=_
  cases h:Nat.ble m mx
  ·rfl
  have:=bS h
  exact(hk (Int.ofNat m) (by simp only[aZ];omega)).symm
 |negSucc m=>rfl
theorem Sf(k:IntKind)(n:Int):G9 k n=k.wrap n:=by
 cases k with
 |i8=>rfl
 |i16=>rfl
 |i32=>rfl
 |i64=>exact UI n
 |u8=>exact D2 _ _ IntWalk.u8_in n
 |u16=>exact D2 _ _ IntWalk.u16_in n
 |u32=>exact D2 _ _ IntWalk.u32_in n
 |u64=>exact D2 _ _ IntWalk.u64_in n
theorem mX(k:IntKind)(n:Int):lT k n=k.wrap n:=by
 unfold lT
 split
 ·rename_i m
  split
  ·rename_i h
   have h:=bS h
   exact(IntWalk.i64_in (Int.ofNat m) (by simp only[aZ];omega)).symm
  rfl
 ·rename_i m
  split
  ·rename_i h
   have h:=bS h
   exact(IntWalk.i64_in (Int.negSucc m) (by rw[lE];omega)).symm
  rfl
 rfl
theorem JX{f:Int→Int→Int}{op:BinOp}(h:∀k a G b,iT op k a G b=aH (Nat.beq (dk k) (dk G)) (some (.int k (lT k (f a b)))) none)(a b:an)(k:an→aD):GG f op a b k=m9 op a b k:=by
 cases a<;>try rfl
 cases b<;>try rfl
 rename_i z x A y
 show aH (Nat.beq (dk z) (dk A)) (kV (G9 z (f x y)) fun r=>k (.int z r)) (.err 6)=ob (iT op z x A y) (.err 6) fun v=>mB v k
 rw[h,rJ,Sf,←mX]
 cases Nat.beq (dk z) (dk A)
 ·rfl
 exact(ta (.int z (lT z (f x y))) k).symm
theorem w5{f:Int→Int→Bool}{op:BinOp}(h:∀k a G b,iT op k a G b=aH (Nat.beq (dk k) (dk G)) (some (.bool (f a b))) none)(a b:an)(k:an→aD):wc f op a b k=m9 op a b k:=by
 cases a<;>try rfl
 cases b<;>try rfl
 rename_i A x z y
 show aH (Nat.beq (dk A) (dk z)) (mZ (f x y) fun r=>k (.bool r)) (.err 6)=ob (iT op A x z y) (.err 6) fun v=>mB v k
 rw[h]
 cases Nat.beq (dk A) (dk z)
 ·rfl
 refine Eq.trans ?_ (ta (.bool (f x y)) k).symm
 show mZ (f x y) (fun r=>k (.bool r))=_
 cases f x y<;>rfl
theorem Cf(op:BinOp)(a b:an)(k:an→aD):yi op a b k=ob (AF op a b) (.err 6) fun v=>mB v k:=by
 cases op with
 |add=>exact JX (fun k a z b=>by rw[Tl];rfl) a b k
 |sub=>exact JX (fun k a z b=>by rw[Tm];rfl) a b k
 |eql=>exact w5 (fun k a z b=>by rw[Mi];rfl) a b k
 |neq=>exact w5 (fun k a z b=>by unfold O1;rw[Mi];rfl) a b k
 |lss=>exact w5 (fun k a z b=>by rw[CD];rfl) a b k
 |leq=>exact w5 (fun k a z b=>by unfold O2;rw[CD];rfl) a b k
 |gtr=>exact w5 (fun k a z b=>by unfold O3;rw[CD];rfl) a b k
 |geq=>exact w5 (fun k a z b=>by unfold O4;rw[CD];rfl) a b k
 |mul=>rfl
 |quo=>rfl
 |rem=>rfl
 |and=>rfl
 |or=>rfl
 |xor=>rfl
 |shl=>rfl
 |shr=>rfl
 |andNot=>rfl
structure HN(H:az)(f g off n:Nat)(l:List an):Prop where
 ex:∃elem es aQ m lo fl cs x,H.t.get f=some (.row elem es aQ m lo fl cs)∧lo≤g∧g≤m∧off % es+n≤es∧off/es<g∧cs.get (off/es)=some x∧
  ((l=x∧n=es)∨l=(x.drop (off % es)).take n)
theorem He{β:Type}{H:az}{f g off n:Nat}{e:β}{k:List an→β}{r:β}(h:rd H f g off n e k=r)(he:e≠r):∃l,HN H f g off n l∧k l=r:=by
 unfold rd at h
 cases ho:H.t.get f with
 |none=>rw[ho] at h;exact absurd h he
 |some o=>
  rw[ho] at h
  cases o with
  |map=>exact absurd h he
  |row elem es aQ m lo fl cs=>
   simp only[iU,qU] at h
   split at h
   ·rename_i K
    split at h
    ·rename_i h2
     split at h
     ·rename_i O
      split at h
      ·rename_i U
       cases z:cs.get (Nat.div off es) with
       |none=>rw[z] at h;exact absurd h he
       |some x=>
        rw[z] at h
        simp only[ob] at h
        have A:=bS K
        have G:=bS h2
        have I:=bS O
        have J:=bS U
        split at h
        ·rename_i Y
         exact⟨x,⟨_,_,_,_,_,_,_,x,ho,A,G,I,J,z,.inl ⟨rfl,d8 Y⟩⟩,h⟩
        exact⟨_,⟨_,_,_,_,_,_,_,x,ho,A,G,I,J,z,.inr rfl⟩,h⟩
      exact absurd h he
     exact absurd h he
    exact absurd h he
   exact absurd h he
theorem F4(f:Nat)(l:List Nat):pV f l=true↔f∈l:=by
 induction l with
 |nil=>simp[pV]
 |cons x r z=>
  show aH (Nat.beq f x) true (pV f r)=true↔_
  rw[qU]
  by_cases h:f=x
  ·simp[h]
  have:¬(Nat.beq f x=true):=by simpa[rn] using h
  simp[h,this,z]
theorem y6(f bc:Nat)(ws:List Nat)(x:Nat):x∈wrote f bc ws↔x∈ws∨(x=f∧f<bc):=by
 unfold wrote
 rw[qU,qU]
 by_cases h:bc≤f
 ·rw[aq (jA h)]
  constructor
  ·exact .inl
  rintro(z|⟨_,z⟩)
  ·exact z
  omega
 have G:¬(Nat.ble bc f=true):=by simpa using h
 rw[aj G]
 by_cases A:pV f ws=true
 ·rw[aq A]
  rw[F4] at A
  constructor
  ·exact .inl
  rintro(z|⟨rfl,_⟩)
  ·exact z
  exact A
 rw[aj A]
 simp only[pS]
 constructor
 ·rintro(rfl|z)
  ·exact .inr ⟨rfl,by omega⟩
  exact .inl z
 rintro(z|⟨rfl,_⟩)
 ·exact .inr z
 exact .inl rfl
structure Oq(H:az)(f g off n:Nat)(new:List an)(H':az):Prop where
 ex:∃elem es aQ lo cs x,H.t.get f=some (.row elem es aQ g lo 0 cs)∧lo≤g∧off % es+n≤es∧off/es<g∧new.length=n∧cs.get (off/es)=some x∧
  H'=⟨H.next,H.bc,wrote f H.bc H.ws,H.t.set f (.row elem es aQ g g 0 (cs.set (off/es) (if n=es then new else gY x (off % es) new)))⟩
theorem NT{H:az}{f g off n m:Nat}{new:List an}{k:az→aD}{v:an}{H':az}(h:wr H f g off n new (.err m) k= .ok v H'):∃H1,Oq H f g off n new H1∧k H1= .ok v H':=by
 cases H with
 |mk next bc ws t=>
  have h:=KH h
  obtain⟨elem,es,aQ,Y,lo,fl,cs,ho,h⟩:=h
  obtain⟨z,h⟩:=fD h
  obtain⟨h2,h⟩:=fD h
  obtain⟨I,h⟩:=fD h
  obtain⟨J,h⟩:=fD h
  obtain⟨K,h⟩:=fD h
  obtain⟨O,h⟩:=fD h
  obtain⟨x,U,A⟩:=jm h
  rw[RT.j6,GT.j6] at A
  have e1:=d8 z
  have e2:=d8 h2
  have G:=d8 O
  rw[oq] at G
  clear h z h2
  subst e1 e2
  refine⟨_,⟨elem,es,aQ,lo,cs,x,ho,bS I,bS J,bS K,G,U,?_⟩,A⟩
  rw[qU]
  simp only[rn]
  rfl
structure gn(H H':az):Prop where
 next:H.next≤H'.next
 bc:H'.bc=H.bc
 ws:∀f,f∈H.ws→f∈H'.ws
 same:∀f,f<H.bc→f∉H'.ws→H'.t.get f=H.t.get f
 wf:(∀f,H.next≤f→H.t.get f=none)→∀f,H'.next≤f→H'.t.get f=none
 iR:∀f,H.t.get f≠none→H'.t.get f≠none
theorem gn.refl(H:az):gn H H:=⟨bY _,rfl,fun _ h=>h,fun _ _ _=>rfl,fun h=>h,fun _ h=>h⟩
theorem gn.trans{A B C:az}(h:gn A B)(k:gn B C):gn A C:=
 ⟨kb h.next k.next,k.bc.trans h.bc,fun f z=>k.ws f (h.ws f z),fun f z G=>(k.same f (h.bc▸z) G).trans (h.same f z fun e=>G (k.ws f e)),fun x=>k.wf (h.wf x),fun f x=>k.iR f (h.iR f x)⟩
theorem gn.alloc{H:az}(o:dP)(A:H.bc≤H.next):gn H ⟨H.next+1,H.bc,H.ws,H.t.set H.next o⟩:=
 ⟨si _,rfl,fun _ h=>h,fun f z _=>by show(H.t.set H.next o).get f=_;rw[GT.eO,aj (by omega)],
  fun h f z=>by
  have z:H.next+1≤f:=z
  show(H.t.set H.next o).get f=none
  rw[GT.eO,aj (by omega)];exact h f (by omega),
  fun f z=>by
  show(H.t.set H.next o).get f≠none
  rw[GT.eO]
  split
  ·simp
  exact z⟩
theorem gn.write{H:az}(f:Nat)(o:dP){A:dP}(h0:H.t.get f=some A):gn H ⟨H.next,H.bc,wrote f H.bc H.ws,H.t.set f o⟩:=
 ⟨bY _,rfl,fun x z=>(y6 _ _ _ _).2 (.inl z),fun x z G=>by
  show(H.t.set f o).get x=_
  rw[GT.eO]
  split
  ·rename_i e;subst e;exact absurd ((y6 _ _ _ _).2 (.inr ⟨rfl,z⟩)) G
  ·rfl,fun h x z=>by
  have z:H.next≤x:=z
  show(H.t.set f o).get x=none
  rw[GT.eO]
  split
  ·rename_i e;subst e;rw[h x z] at h0;cases h0
  ·exact h x z,fun x z=>by
  show(H.t.set f o).get x≠none
  rw[GT.eO]
  split
  ·simp
  exact z⟩
def TM(H:az)(r:aD):Prop:=∀v H',r= .ok v H'→gn H H'
theorem TM.err{H:az}{n:Nat}:TM H (.err n):=fun _ _ h=>by cases h
theorem TM.ok{H:az}{v:an}:TM H (.ok v H):=fun _ _ h=>by cases h;exact gn.refl _
theorem TM.aH{H:az}{b:Bool}{k e:aD}(h:TM H k)(h':TM H e):TM H (aH b k e):=by cases b;exact h';exact h
theorem TM.ob{H:az}{α:Type}{o:Option α}{e:aD}{k:α→aD}(h:∀x,TM H (k x))(h':TM H e):TM H (ob o e k):=by cases o;exact h';exact h _
theorem TM.bA{H:az}{x:aF}{E:Env}{e:aD}{k:an→aD}(h:∀x,TM H (k x))(h':TM H e):TM H (bA x E e k):=by
 cases x with
 |t i=>exact TM.ob (o:=E.get i) h h'
 |c a=>exact h a
theorem TM.r4{H:az}{a:an}{e:aD}{k:Bool→aD}(h:∀x,TM H (k x))(h':TM H e):TM H (r4 a e k):=by cases a<;>first|exact h'|exact h _
theorem TM.gN{H:az}{a:an}{e:aD}{k:IntKind→Int→aD}(h:∀x y,TM H (k x y))(h':TM H e):TM H (gN a e k):=by cases a<;>first|exact h'|exact h _ _
theorem TM.jQ{H:az}{a:an}{e:aD}{k:Nat→Nat→aD}(h:∀x y,TM H (k x y))(h':TM H e):TM H (jQ a e k):=by cases a<;>first|exact h'|exact h _ _
theorem TM.iv{H:az}{a:an}{e:aD}{k:Nat→Nat→Nat→aD}(h:∀x y z,TM H (k x y z))(h':TM H e):TM H (iv a e k):=by cases a<;>first|exact h'|exact h _ _ _
theorem TM.gU{H:az}{a:an}{e e2:aD}{k:Nat→Nat→Nat→Nat→Nat→aD}(h:∀x y z u w,TM H (k x y z u w))(h2:TM H e2)(h':TM H e):TM H (gU a e e2 k):=by cases a<;>first|exact h'|exact h2|exact h _ _ _ _ _
theorem TM.oT{H:az}{a:an}{e:aD}{k:List an→aD}(h:∀x,TM H (k x))(h':TM H e):TM H (oT a e k):=by cases a<;>first|exact h'|exact h _
theorem TM.rR{H:az}{a:an}{e:aD}{k:List an→aD}(h:∀x,TM H (k x))(h':TM H e):TM H (rR a e k):=by cases a<;>first|exact h'|exact h _
theorem TM.tD{H:az}{a:an}{e:aD}{k:Nat→List an→List an→aD}(h:∀x y z,TM H (k x y z))(h':TM H e):TM H (tD a e k):=by cases a<;>first|exact h'|exact h _ _ _
theorem TM.jd{H:az}{i:Int}{e:aD}{k:Nat→aD}(h:∀x,TM H (k x))(h':TM H e):TM H (jd i e k):=by cases i;exact h _;exact h'
theorem TM.idx{H:az}{a:an}{n:Nat}{e:aD}{k:Nat→aD}(h:∀x,TM H (k x))(h':TM H e):TM H (idx a n e k):=TM.gN (fun _ _=>TM.jd (fun _=>TM.aH (h _) h') h') h'
theorem TM.gQ{H:az}{E:Env}{x:Option aF}{d y:Nat}{e:aD}{k:Nat→aD}(h:∀x,TM H (k x))(h':TM H e):TM H (gQ E x d y e k):=by
 cases x with
 |none=>exact h _
 |some z=>exact TM.ob (fun _=>TM.gN (fun _ _=>TM.jd (fun _=>TM.aH (h _) h') h') h') h'
theorem TM.iU{H:az}{o:Option dP}{e:aD}{k:Nat→Nat→Nat→Nat→Nat→Nat→RT→aD}(h:∀a b c d e f g,TM H (k a b c d e f g))(h':TM H e):TM H (iU o e k):=by
 cases o with
 |none=>exact h'
 |some o=>cases o with
  |row=>exact h _ _ _ _ _ _ _
  |map=>exact h'
theorem TM.iG{H:az}{agg:Bool}{l:List an}{e:aD}{k:an→aD}(h:∀x,TM H (k x))(h':TM H e):TM H (iG agg l e k):=by
 refine TM.aH (h _) ?_
 cases l with
 |nil=>exact h'
 |cons x r=>cases r with
  |nil=>exact h _
  |cons=>exact h'
theorem TM.dp{H:az}{n:Nat}{k:Nat→aD}(h:∀x,TM H (k x)):TM H (dp n k):=by rw[iq];exact h _
theorem TM.kV{H:az}{n:Int}{k:Int→aD}(h:∀x,TM H (k x)):TM H (kV n k):=by rw[rJ];exact h _
theorem TM.mB{H:az}{n:an}{k:an→aD}(h:∀x,TM H (k x)):TM H (mB n k):=by rw[ta];exact h _
theorem TM.mZ{H:az}{n:Bool}{k:Bool→aD}(h:∀x,TM H (k x)):TM H (mZ n k):=by cases n<;>exact h _
theorem TM.yi{H:az}{op:BinOp}{a b:an}:TM H (yi op a b fun v=>.ok v H):=by rw[Cf];exact TM.ob (fun _=>TM.mB fun _=>TM.ok) TM.err
theorem TM.we{H:az}{t:HT}{n:Nat}{o:dP}{k:HT→aD}(h:TM H (k (t.set n o))):TM H (t.gr n o k):=by rw[GT.j6];exact h
theorem TM.fill{H:az}{l:List (List an)}{t:RT}{i:Nat}{k:RT→aD}(h:TM H (k (ju l t i))):TM H (sb l t i k):=by rw[vm];exact h
theorem TM.rep{H:az}{x:List an}{n:Nat}{k:RT→aD}(h:TM H (k (pM x n))):TM H (Eu x n k):=by rw[Gh];exact h
theorem TM.alloc{H:az}{o:dP}{k:Nat→az→aD}(G:H.bc≤H.next)(hk:∀f z,∃v,k f z= .ok v z):TM H (H.alloc o k):=fun x H' h=>by
 have A:=wS h
 obtain⟨v,I⟩:=hk H.next ⟨H.next+1,H.bc,H.ws,H.t.set H.next o⟩
 rw[I] at A;cases A;exact gn.alloc o G
theorem TM.rd{H:az}{f g off n:Nat}{e:aD}{k:List an→aD}(h:∀x,TM H (k x))(h':TM H e):TM H (rd H f g off n e k):=
 TM.iU (fun _ _ _ _ _ _ _=>TM.aH (TM.aH (TM.aH (TM.aH (TM.ob (fun _=>TM.aH (h _) (h _)) h') h') h') h') h') h'
theorem TM.jU{H:az}{elem es aQ n:Nat}{new:List (List an)}{x:an}(z:H.bc≤H.next):TM H (jU elem es aQ n new H x):=by
 cases n with
 |zero=>exact TM.gU (fun _ _ _ _ _=>TM.ok) TM.ok TM.err
 |succ n=>
  refine TM.gU (fun f g off G gR=>?_) (TM.aH (TM.fill (TM.alloc z (fun _ _=>⟨_,rfl⟩))) TM.err) TM.err
  cases H with
  |mk next bc ws t=>
   show TM _ (Ev.iU (t.get f) _ _)
   cases A:t.get f with
   |none=>exact TM.err
   |some ob=>cases ob with
    |map=>exact TM.err
    |row I J K O U Y Z=>
   refine TM.aH (TM.aH (TM.aH (TM.aH (TM.aH (TM.aH (TM.aH TM.err (TM.aH (TM.aH (TM.dp fun _=>TM.fill (TM.we ?_)) TM.err) TM.err)) TM.err) TM.err) TM.err) TM.err) TM.err) TM.err
   exact fun v H' h=>by cases h;exact gn.write (H:=⟨next,bc,ws,t⟩) f _ A
theorem TM.wr{H:az}{f g off n:Nat}{new:List an}{v:an}:TM H (wr H f g off n new (.err 5) fun H=>.ok v H):=fun x H' h=>by
 obtain⟨H1,⟨_,_,_,_,_,_,z,_,_,_,_,_,e⟩,h⟩:=NT h
 cases h
 subst e
 exact gn.write f _ z
theorem TM.ca{H:az}{a b c:Nat}{d:List an}{E:Env}(z:H.bc≤H.next):TM H (vS a b c d E H):=
 TM.alloc (o:=.row a b c 1 1 0 (.one d)) (k:=fun f H=>.ok (.ptr f 1 0) H) z (fun _ _=>⟨_,rfl⟩)
theorem TM.mv{H:az}{f e:Nat}{v:an}:TM H (mv f e H fun H=>.ok v H):=by
 cases H with
 |mk next bc ws t=>
  show TM _ (Ev.iU (t.get f) _ _)
  cases z:t.get f with
  |none=>exact TM.err
  |some ob=>cases ob with
   |map=>exact TM.err
   |row A G I J K O U=>
   refine TM.aH (TM.aH (TM.aH (TM.we ?_) TM.err) TM.err) TM.err
   exact fun v H' h=>by cases h;exact gn.write (H:=⟨next,bc,ws,t⟩) f _ z
theorem TM.ins{call:eC}{H:az}(z:H.bc≤H.next)(A:∀f a,TM H (call f a H))(E:Env)(o:bE):TM H (o.ev call E H):=by
 cases o with
 |nV x=>exact TM.bA (fun _=>TM.ok) TM.err
 |pick c a b=>exact TM.bA (fun _=>TM.r4 (fun _=>TM.aH (TM.bA (fun _=>TM.ok) TM.err) (TM.bA (fun _=>TM.ok) TM.err)) TM.err) TM.err
 |ca a b c d=>exact TM.ca (E:=E) z
 |box a b c d=>exact TM.bA (fun _=>TM.ob (fun _=>TM.aH (TM.ca (E:=E) z) TM.err) TM.err) TM.err
 |load a b c=>exact TM.bA (fun _=>TM.iv (fun _ _ _=>TM.rd (fun _=>TM.iG (fun _=>TM.ok) TM.err) TM.err) TM.err) TM.err
 |store a b c=>exact TM.bA (fun _=>TM.iv (fun _ _ _=>TM.bA (fun _=>TM.ob (fun _=>TM.wr) TM.err) TM.err) TM.err) TM.err
 |bin op x y=>exact TM.bA (fun _=>TM.bA (fun _=>TM.yi) TM.err) TM.err
 |eqv c n x y=>exact TM.bA (fun _=>TM.bA (fun _=>TM.ob (fun _=>TM.mZ fun _=>TM.ok) TM.err) TM.err) TM.err
 |un op x=>exact TM.bA (fun _=>TM.ob (fun _=>TM.mB fun _=>TM.ok) TM.err) TM.err
 |nQ x k=>exact TM.bA (fun _=>TM.iv (fun _ _ _=>TM.dp fun _=>TM.ok) TM.err) TM.err
 |sub x a b c=>exact TM.bA (fun _=>TM.oT (fun _=>TM.aH (TM.iG (fun _=>TM.ok) TM.err) TM.err) TM.err) TM.err
 |lr a b x i=>exact TM.bA (fun _=>TM.iv (fun _ _ _=>TM.bA (fun _=>TM.idx (fun _=>TM.dp fun _=>TM.ok) TM.err) TM.err) TM.err) TM.err
 |fm a x i=>exact TM.bA (fun _=>TM.gU (fun _ _ _ _ _=>TM.bA (fun _=>TM.idx (fun _=>TM.dp fun _=>TM.ok) TM.err) TM.err) TM.err TM.err) TM.err
 |zF a b c x i=>exact TM.bA (fun _=>TM.oT (fun _=>TM.bA (fun _=>TM.idx (fun _=>TM.aH (TM.iG (fun _=>TM.ok) TM.err) TM.err) TM.err) TM.err) TM.err) TM.err
 |rZ x i=>exact TM.bA (fun _=>TM.jQ (fun _ _=>TM.bA (fun _=>TM.idx (fun _=>TM.dp fun _=>TM.ok) TM.err) TM.err) TM.err) TM.err
 |iM x a b=>exact TM.bA (fun _=>TM.jQ (fun _ _=>TM.gQ (fun _=>TM.gQ (fun _=>TM.dp fun _=>TM.dp fun _=>TM.ok) TM.err) TM.err) TM.err) TM.err
 |AD n x a b=>exact TM.bA (fun _=>TM.gU (fun _ _ _ _ _=>TM.aH (TM.gQ (fun _=>TM.gQ (fun _=>TM.dp fun _=>TM.dp fun _=>TM.ok) TM.err) TM.err) TM.err) (TM.gQ (fun _=>TM.gQ (fun _=>TM.ok) TM.err) TM.err) TM.err) TM.err
 |vR k n x a b=>exact TM.bA (fun _=>TM.iv (fun _ _ _=>TM.iU (fun _ _ _ _ _ _ _=>TM.aH (TM.aH (TM.aH (TM.gQ (fun _=>TM.gQ (fun _=>TM.dp fun _=>TM.dp fun _=>TM.ok) TM.err) TM.err) TM.err) TM.err) TM.err) TM.err) TM.err) TM.err
 |ri x i=>exact TM.bA (fun _=>TM.rR (fun _=>TM.ob (fun _=>TM.ok) TM.err) TM.err) TM.err
 |oR x=>exact TM.bA (fun _=>TM.aH TM.ok TM.err) TM.err
 |nR f G l=>exact TM.ob (fun _=>TM.ob (fun _=>TM.ok) TM.err) TM.err
 |uJ t x=>exact TM.bA (fun _=>TM.ok) TM.err
 |yg a b c d e f=>exact TM.bA (fun _=>TM.gN (fun _ _=>TM.jd (fun _=>TM.bA (fun _=>TM.gN (fun _ _=>TM.jd (fun _=>TM.aH (TM.aH (TM.aH (TM.rep (TM.alloc z (fun _ _=>⟨_,rfl⟩))) TM.err) TM.err) TM.err) TM.err) TM.err) TM.err) TM.err) TM.err) TM.err
 |build a b=>exact TM.ob (fun _=>TM.ok) TM.err
 |cY a b c d e f=>exact TM.ob (fun _=>TM.alloc z (fun _ _=>⟨_,rfl⟩)) TM.err
 |len x=>exact TM.bA (fun _=>TM.gU (fun _ _ _ _ _=>TM.ok) TM.ok TM.err) TM.err
 |AE n=>exact TM.ok
 |o3 x=>exact TM.bA (fun _=>TM.jQ (fun _ _=>TM.ok) TM.err) TM.err
 |app a b c x y=>exact TM.bA (fun _=>TM.bA (fun _=>TM.gU (fun _ _ _ _ _=>TM.ob (fun _=>TM.jU z) TM.err) (TM.jU z) TM.err) TM.err) TM.err
 |tC a x y=>exact TM.bA (fun _=>TM.bA (fun _=>TM.jQ (fun _ _=>TM.jU z) TM.err) TM.err) TM.err
 |copy a b c=>exact TM.err
 |zG a b c=>exact TM.bA (fun _=>TM.gN (fun _ _=>TM.ob (fun _=>TM.ob (fun _=>TM.ok) TM.err) TM.err) TM.err) TM.err
 |conv k x=>exact TM.bA (fun _=>TM.gN (fun _ _=>TM.kV fun _=>TM.ok) TM.err) TM.err
 |Cx x=>exact TM.bA (fun _=>TM.ok) TM.err
 |xi e x=>exact TM.bA (fun _=>TM.jQ (fun _ _=>TM.aH (TM.fill (TM.alloc z (fun _ _=>⟨_,rfl⟩))) TM.err) TM.err) TM.err
 |qS x=>exact TM.bA (fun _=>TM.gU (fun _ _ _ _ _=>TM.ob (fun _=>TM.ob (fun _=>TM.dp fun _=>TM.ok) TM.err) TM.err) TM.ok TM.err) TM.err
 |call f l=>exact TM.ob (fun _=>A _ _) TM.err
 |mF x l=>exact TM.bA (fun _=>TM.tD (fun _ _ _=>TM.ob (fun _=>A _ _) TM.err) TM.err) TM.err
 |qn t n x=>exact TM.bA (fun _=>TM.aH TM.ok (TM.iv (fun _ _ _=>TM.iU (fun _ _ _ _ _ _ _=>TM.aH (TM.aH (TM.aH (TM.aH (TM.aH (TM.aH (TM.aH TM.ok TM.err) TM.err) TM.err) TM.err) TM.err) TM.err) TM.err) TM.err) TM.err)) TM.err
 |uS x=>exact TM.bA (fun _=>TM.gU (fun _ _ _ _ _=>TM.aH TM.err TM.ok) TM.ok TM.err) TM.err
 |qu e x n=>exact TM.bA (fun _=>TM.aH (TM.bA (fun _=>TM.gN (fun _ _=>TM.jd (fun _=>TM.aH (TM.aH TM.ok TM.err) TM.err) TM.err) TM.err) TM.err) (TM.iv (fun _ _ _=>TM.bA (fun _=>TM.gN (fun _ _=>TM.jd (fun _=>TM.aH (TM.aH (TM.aH (TM.aH (TM.ob (fun _=>TM.ob (fun _=>TM.dp fun _=>TM.mv) TM.err) TM.err) TM.err) TM.err) TM.err) TM.err) TM.err) TM.err) TM.err) TM.err)) TM.err
mutual
theorem BZ(ρ:Ho):∀(v:Value)(a:an),valOf v=some a→VR ρ a v
 |.bool b,a,h=>by simp only[valOf,gO] at h;subst h;simp[VR]
 |.int k n,a,h=>by simp only[valOf,gO] at h;subst h;simp[VR]
 |.float _ _,a,h=>by simp[valOf] at h
 |.complex _ _ _,a,h=>by simp[valOf] at h
 |.string s,a,h=>by simp only[valOf,gO] at h;subst h;simp only[VR];exact⟨s,rfl,rfl,rfl⟩
 |.pointer none,a,h=>by simp only[valOf,gO] at h;subst h;simp[VR]
 |.pointer (some _),a,h=>by simp[valOf] at h
 |.slice none l c,a,h=>by
  unfold valOf at h
  split at h<;>simp_all
  subst h
  simp[VR]
 |.slice (some _) _ _,a,h=>by simp[valOf] at h
 |.map none,a,h=>by simp only[valOf,gO] at h;subst h;simp[VR]
 |.map (some _),a,h=>by simp[valOf] at h
 |.chan _,a,h=>by simp[valOf] at h
 |.func _ _ _,a,h=>by simp[valOf] at h
 |.nilFunc,a,h=>by simp only[valOf,gO] at h;subst h;simp[VR]
 |.iface _ _,a,h=>by simp[valOf] at h
 |.nilIface,a,h=>by simp only[valOf,gO] at h;subst h;simp[VR]
 |.agg ⟨cs⟩,a,h=>by
  unfold valOf at h
  split at h
  ·rename_i l z
   split at h
   ·rename_i hk
    cases h
    simp only[VR]
    exact⟨_,rfl,JY ρ cs l z,hk⟩
   cases h
  cases h
 |.tuple _,a,h=>by simp[valOf] at h
theorem JY(ρ:Ho):∀(l:List Value)(z:List an),zP l=some z→cw ρ z l
 |[],z,h=>by simp only[zP,gO] at h;subst h;rfl
 |v::r,z,h=>by
  unfold zP at h
  split at h
  ·rename_i x l A h2
   cases h
   exact⟨v,r,rfl,BZ ρ v x A,JY ρ r l h2⟩
  cases h
end
def yl(P:Program)(g:Nat):Bool:=match P.globals[g]?with|some v=>v.name== "strconv.ErrRange"|none=>false
def uu(P:Program)(ρ:Ho):Prop:=∀g,g<P.globals.size→∃h,ρ g 1=some h∧h.b8=g∧h.off=0∧(yl P g=true→h.ro=true∧h.mw=true)
def xR(P:Program)(w:World):Prop:=∀g,g<P.globals.size→g<w.heap.size∧(yl P g=true→∃z A,w.cell? ⟨g,0,none⟩=some (.iface z A))
structure AR(P:Program)(ρ:Ho)(nt:Nat)(E:Env)(a:Act):Prop where
 size:a.tmps.size=nt
 defers:a.defers=[]
 tmp:∀t v,E.get t=some v→∃cv,a.tmps[t.n]?=some cv∧VR ρ v cv
 rk:uu P ρ
theorem AR.mono{P:Program}{ρ ρ':Ho}{nt:Nat}{E:Env}{a:Act}(h:AR P ρ nt E a)(A:ρ.le ρ'):AR P ρ' nt E a:=
 ⟨h.size,h.defers,fun t v e=>let⟨cv,z,h2⟩:=h.tmp t v e;⟨cv,z,h2.mono A⟩,fun g G=>let⟨x,z,h2⟩:=h.rk g G;⟨x,A _ _ _ z,h2⟩⟩
theorem AR.put{P:Program}{ρ:Ho}{nt:Nat}{E:Env}{a:Act}(h:AR P ρ nt E a){d:Key}(z:d.n<nt){v:an}{cv:Value}(A:VR ρ v cv):AR P ρ nt (E.set d v) (a.put (some d.n) cv):=by
 refine⟨by simp[Act.put,h.size],by simp[Act.put,h.defers],fun t x e=>?_,h.rk⟩
 rw[T4.eO] at e
 split at e
 ·rename_i he
  subst he
  cases e
  exact⟨cv,by simp[Act.put,h.size,z],A⟩
 rename_i he
 obtain⟨y,G,k⟩:=h.tmp t x e
 exact⟨y,by simp only[Act.put];rw[Array.getElem?_setIfInBounds_ne (fun e=>he (Key.inj e.symm))];exact G,k⟩
section
variable{P:Program}{ρ:Ho}{nt:Nat}{E:Env}{a:Act}
theorem AR.b9(h:AR P ρ nt E a){x:Operand}{y:aF}{v:an}(ho:dc P x=some y)(z:y.ev E=some v):VR ρ v (a.eval x):=by
 cases x with
 |tmp t=>
  simp only[dc] at ho
  split at ho
  ·rename_i G
   cases ho
   obtain⟨cv,A,h2⟩:=h.tmp (pk t) v z
   rw[wa G] at A
   simp only[Act.eval]
   rw[uG,A]
   exact h2
  cases ho
 |const c=>
  simp only[dc] at ho
  split at ho
  ·rename_i w I
   cases ho
   cases z
   exact BZ ρ _ _ I
  cases ho
 |global g=>
  simp only[dc] at ho
  split at ho
  ·rename_i J
   cases ho
   cases z
   obtain⟨x,K,rfl,h2,_⟩:=h.rk g J
   simp only[VR,Act.eval]
   exact⟨x,K,by simp[h2]⟩
  cases ho
 |func f=>
  simp only[dc,gO] at ho
  subst ho
  cases z
  simp only[VR,Act.eval]
  exact⟨#[],#[],rfl,by simp only[cw],by simp only[cw]⟩
theorem AR.dA(h:AR P ρ nt E a):∀{xs:List Operand}{ys:List aF}{vs:List an},kW P xs=some ys→jF E ys=some vs→cw ρ vs (xs.map a.eval)
 |[],ys,vs,ho,A=>by
  simp only[kW,gO] at ho
  subst ho
  cases A
  rfl
 |x::r,ys,vs,ho,A=>by
  simp only[kW] at ho
  split at ho
  ·rename_i y l I J
   cases ho
   have z:ob (y.ev E) none (fun v=>ob (jF E l) none fun vs=>some (v::vs))=some vs:=A
   cases G:y.ev E with
   |none=>rw[G] at z;cases z
   |some v=>
    rw[G] at z
    cases h2:jF E l with
    |none=>rw[h2] at z;cases z
    |some K=>
     rw[h2] at z
     cases z
     exact⟨_,_,rfl,h.b9 I G,AR.dA h J h2⟩
  cases ho
end
def fb(P:Program)(o:Oper)(a:Act)(w:World)(Φ:Value→World→Prop):Prop:=
 (∃cv w',(execOp a.eval o).run P w= .ok (.value cv) w'∧Φ cv w')∨
 (∃w',(execOp a.eval o).run P w= .ok .skip w'∧Φ undef w')∨
 (∃f args,(execOp a.eval o).run P w= .ok (.enter f args) w∧Calls P f args w fun e w'=>∃cv,e= .returned cv∧Φ cv w')
theorem JD{P:Program}{o:Oper}{a:Act}{w:World}{Φ:Value→World→Prop}{K:Act→World→Prop}{Q:Exit→Act→World→Prop}
  (h:fb P o a w Φ) (hk:∀cv w',Φ cv w'→K (a.put o.dst cv) w'):o.wp P a w K Q:=by
 unfold Oper.wp
 rcases h with⟨cv,w',e,hp⟩|⟨w',e,hp⟩|⟨f,args,e,hp⟩
 ·rw[e];exact hk _ _ hp
 ·rw[e];exact hk _ _ hp
 rw[e]
 refine Calls.mono hp fun e w' he=>?_
 obtain⟨cv,rfl,hp⟩:=he
 exact hk _ _ hp
noncomputable def gy(C:Nat→Option dP)(H H':az)(f:Nat):Option dP:=
 open Classical in
 if H.next≤f∧f<H'.next then H'.t.get f else if H'.t.get f=H.t.get f then C f else H'.t.get f
def Wr(H':az)(f:Nat):Prop:=f∈H'.ws∨H'.bc≤f
def dT(ρ:Ho)(C:Nat→Option dP)(w:World)(H:az)(v:an)(H':az)(cv:Value)(w':World):Prop:=
 ∃ρ',VR ρ' v cv∧Ext (Wr H') H.next H'.next ρ ρ' w w'∧R ρ' (gy C H H') w'
theorem po(C:Nat→Option dP)(H:az):gy C H H=C:=by
 funext f
 unfold gy
 rw[aj (by omega),aq rfl]
theorem dT.pure{ρ:Ho}{C:Nat→Option dP}{w:World}{H:az}{v:an}{cv:Value}(z:R ρ C w)(A:VR ρ v cv):dT ρ C w H v H cv w:=
 ⟨ρ,A,Ext.refl _ _ _ _,by rw[po];exact z⟩
theorem Cg{a b:IntKind}(h:Nat.beq (dk a) (dk b)=true):a=b:=by cases a<;>cases b<;>first|rfl|cases h
theorem pG(a b:Int):lj a b=decide (a<b):=by
 rw[fQ,decide_eq_true_iff]
 cases a with
 |ofNat a=>cases b with
  |ofNat b=>simp only[lj,Nat.ble_eq,aZ];omega
  |negSucc b=>simp only[lj,aZ,lE,pR,false_iff];omega
 |negSucc a=>cases b with
  |ofNat b=>simp only[lj,aZ,lE,true_iff];omega
  |negSucc b=>simp only[lj,Nat.ble_eq,lE];omega
theorem tE(a b:Int):l7 a b=decide (a=b):=by
 rw[fQ,decide_eq_true_iff]
 cases a with
 |ofNat a=>cases b with
  |ofNat b=>simp only[l7,rn,aZ];omega
  |negSucc b=>simp only[l7,aZ,lE,pR,false_iff];omega
 |negSucc a=>cases b with
  |ofNat b=>simp only[l7,aZ,lE,pR,false_iff];omega
  |negSucc b=>simp only[l7,rn,lE];omega
theorem Jh(a b:List UInt8):pack (a++b)=pack a+256^a.length*pack b:=by
 induction a with
 |nil=>simp[pack]
 |cons x r z=>
  simp only[yz,pack,z,dj,yb]
  rw[Nat.mul_add,←nf,←Av,mI 256 (256^r.length)]
theorem Lr(a:List UInt8):pack a<256^a.length:=by
 induction a with
 |nil=>simp[pack]
 |cons x r z=>
  simp only[pack,dj,yb]
  have:x.toNat<256:=x.toNat_lt
  omega
theorem BK(l:List UInt8)(i:Nat):pack l/256^i=pack (l.drop i):=by
 induction i generalizing l with
 |zero=>simp
 |succ i z=>
  cases l with
  |nil=>simp[pack]
  |cons x r=>
   simp only[pack,List.drop_succ_cons]
   have A:x.toNat<256:=x.toNat_lt
   have e:(x.toNat+256*pack r)/256=pack r:=by omega
   rw[yb,mI (256^i) 256,←Nat.div_div_eq_div_mul,e,z]
theorem BL(l:List UInt8)(n:Nat):pack l % 256^n=pack (l.take n):=by
 by_cases h:n≤l.length
 ·have z:pack l=pack (l.take n)+256^n*pack (l.drop n):=by
   have:=Jh (l.take n) (l.drop n)
   rw[Eg,ng,Nat.min_eq_left h] at this
   exact this
  have h2:=Lr (l.take n)
  rw[ng,Nat.min_eq_left h] at h2
  rw[z,Nat.add_mul_mod_self_left,Aw h2]
 have h':l.length≤n:=by omega
 rw[qq h']
 refine Aw (mn (Lr l) ?_)
 exact Ax (by omega) h'
theorem HO(i:Nat):2^(8*i)=256^i:=by rw[Nat.pow_mul]
theorem Ot(v i:Nat):Nat.shiftRight v (Nat.mul 8 i)=v/256^i:=by
 show v>>>(8*i)=_
 rw[Nat.shiftRight_eq_div_pow,HO]
theorem Ji(l:List UInt8)(i:Nat)(h:i<l.length):vH (pack l) i=(l[i]).toNat:=by
 unfold vH
 rw[Ot,BK]
 show pack (l.drop i) % 256=_
 have z:=BL (l.drop i) 1
 rw[Ay] at z
 have e:(l.drop i).take 1=[l[i]]:=by rw[Az h];rfl
 rw[e] at z
 rw[z]
 show l[i].toNat+256*0=_
 omega
theorem Jj(l:List UInt8)(lo hi:Nat):xj (pack l) lo hi=pack ((l.drop lo).take (hi-lo)):=by
 unfold xj
 rw[Ot,BK,←BL]
 show _ % (1<<<(8*(hi-lo)))=_
 rw[Nat.shiftLeft_eq,sj,HO]
theorem Jk(a b:List UInt8):zH a.length (pack a) (pack b)=pack (a++b):=by
 unfold zH
 rw[Jh]
 show pack a+(pack b)<<<(8*a.length)=_
 rw[Nat.shiftLeft_eq,HO,mI]
theorem KI:∀{a b:List UInt8},a.length=b.length→pack a=pack b→a=b
 |[],[],_,_=>rfl
 |[],_::_,h,_=>by simp at h
 |_::_,[],h,_=>by simp at h
 |x::r,y::s,h,k=>by
  simp only[pack] at k
  have z:x.toNat<256:=x.toNat_lt
  have A:y.toNat<256:=y.toNat_lt
  have e1:x.toNat=y.toNat:=by omega
  have e2:pack r=pack s:=by omega
  rw[KI (by simpa using h) e2,UInt8.toNat_inj.1 e1]
theorem BF(a b:List UInt8):qZ a.length (pack a) b.length (pack b)=decide (a=b):=by
 unfold qZ
 rw[fQ,decide_eq_true_iff]
 constructor
 ·intro h
  split at h
  ·rename_i z
   exact KI (d8 z) (d8 h)
  cases h
 rintro rfl
 simp
theorem JE:∀(a b:List UInt8),strLt a.length (pack a) b.length (pack b)=Op.bytesLess a b
 |[],[]=>rfl
 |[],_::_=>rfl
 |x::r,[]=>rfl
 |x::r,y::s=>by
  have J:x.toNat<256:=x.toNat_lt
  have K:y.toNat<256:=y.toNat_lt
  have e1:Nat.mod (pack (x::r)) 256=x.toNat:=by show(x.toNat+256*pack r) % 256=_;omega
  have e2:Nat.mod (pack (y::s)) 256=y.toNat:=by show(y.toNat+256*pack s) % 256=_;omega
  have z:Nat.div (pack (x::r)) 256=pack r:=by show(x.toNat+256*pack r)/256=_;omega
  have A:Nat.div (pack (y::s)) 256=pack s:=by show(y.toNat+256*pack s)/256=_;omega
  have step:strLt (x::r).length (pack (x::r)) (y::s).length (pack (y::s))=
    match Nat.beq (Nat.mod (pack (x::r)) 256) (Nat.mod (pack (y::s)) 256) with
    |true=>strLt r.length (Nat.div (pack (x::r)) 256) s.length (Nat.div (pack (y::s)) 256)
    |false=>Nat.ble (Nat.succ (Nat.mod (pack (x::r)) 256)) (Nat.mod (pack (y::s)) 256):=rfl
  rw[step,e1,e2,z,A,JE r s]
  simp only[Op.bytesLess]
  by_cases h:x=y
  ·subst h
   have:¬(x<x):=by rw[AA];omega
   simp[this]
  have G:Nat.beq x.toNat y.toNat=false:=by
   rw[←ET,rn]
   exact fun e=>h (UInt8.toNat_inj.1 e)
  rw[G]
  have I:(x==y)=false:=by simpa using h
  simp only[I,Bool.false_and,Bool.or_false]
  rw[fQ,Nat.ble_eq,decide_eq_true_iff,AA]
  exact Iff.rfl
end Go.Ev
