/- Part 2 of rules for walks through the code of a program, and of such walks; what each part proves is said by its theorems. -/
import Derived.Test.YtdaamclhcpjdpaaGreatDoorT1
import GoSem.Core.Layout
import GoSem.ClaimKeys
set_option linter.unusedVariables false
set_option linter.unusedSimpArgs false
noncomputable section
set_option maxRecDepth 100000
set_option maxHeartbeats 4000000
namespace Go.Ev
mutual
def valOf:Value→Option ak
 |.bool b=>some (.bool b)
 |.int k n=>some (.int k n)
 |.string s=>some (.str s.size (pack s.data.toList))
 |.pointer none=>some .kj
 |.slice none 0 0=>some .fL
 |.nilIface=>some .ke
 |.nilFunc=>some .mO
 |.map none=>some .uR
 |.agg cs=>match GL cs.toList with
  |some l=>if l.all eI then some (.agg l) else none
  |none=>none
 |_=>none
def GL:List Value→Option (List ak)
 |[]=>some []
 |v::r=>match valOf v,GL r with
  |some a,some l=>some (a::l)
  |_,_=>none
end
def cellsOf:ak→Option (List ak)
 |.agg cs=>some cs
 |.tuple _=>none
 |.undef=>none
 |v=>some [v]
def ct(P:Program):Operand→Option aI
 |.tmp t=>if t<1296 then some (.t (pk t)) else none
 |.const v=>match valOf v with|some a=>some (.c a)|none=>none
 |.global g=>if g<P.globals.size then some (.c (.ptr g 1 0)) else none
 |.func f=>some (.c (.func f [] []))
def jM(P:Program):List Operand→Option (List aI)
 |[]=>some []
 |x::r=>match ct P x,jM P r with
  |some a,some l=>some (a::l)
  |_,_=>none
def zeroOf(P:Program)(t:TypeId):Option (List ak):=
 match P.info? t with
 |some i=>match i.zero with
  |some z=>match valOf z with
   |some v=>match cellsOf v with
    |some l=>if l.length=i.size∧0<i.size then some l else none
    |none=>none
   |none=>none
  |none=>none
 |none=>none
def pX(P:Program)(t:TypeId):Bool:=match P.underlying t with|some (.struct _)=>true|some (.array _ _)=>true|_=>false
def bad:bm:=.xR (.c .kj) []
def TY(P:Program):TypeDesc→Option E4
 |.bool=>some .bool
 |.pointer e=>match P.info? e with|some _=>some .ptr|none=>none
 |.slice _=>some .slice
 |.interface _=>some .iface
 |.func _ _ _=>some .func
 |.map _ _=>some .map
 |_=>none
def CT:Operand→Bool
 |.const _=>true
 |_=>false
def LI(x y:Operand):TypeDesc→Bool
 |.interface ms=>ms.isEmpty||CT x||CT y
 |_=>true
def KZ(P:Program)(g:TypeId→Option (List Nat)):Nat→List Field→Option (List Nat)
 |_,[]=>some []
 |off,f::r=>match g f.type with
  |some k=>if f.offset=off∧k.length=P.cellsOf f.type then
    match KZ P g (off+k.length) r with
    |some l=>some (k++l)
    |none=>none
   else none
  |none=>none
def xi(P:Program):Nat→TypeId→Option (List Nat)
 |0,_=>none
 |d+1,t=>match P.underlying t with
  |some .bool=>some [100]
  |some (.int k)=>some [cG k]
  |some .string=>some [101]
  |some (.struct fs)=>match KZ P (xi P d) 0 fs.toList with
   |some ks=>if ks.length=P.cellsOf t∧fs.all (·.name != "_")=true then some ks else none
   |none=>none
  |_=>none
def TZ(P:Program)(op:BinOp)(t:TypeId)(x y:aI):Option bm:=
 match xi P 12 t with
 |some ks=>if P.keyTypeAt 12 t=true∧P.eqGuardType P.depth t=false then
   match op with
   |.eql=>some (.eqv (.agg ks) false x y)
   |.neq=>some (.eqv (.agg ks) true x y)
   |_=>none
  else none
 |none=>none
def Vw(P:Program)(op:BinOp)(d:TypeDesc)(z A:Operand)(x y:aI):Option bm:=
 match TY P d with
 |some c=>if LI z A d=true then
   match op with
   |.eql=>some (.eqv c false x y)
   |.neq=>some (.eqv c true x y)
   |_=>none
  else none
 |none=>none
def afQ(P:Program)(op:BinOp)(t:TypeId)(z A:Operand)(x y:aI):Option bm:=
 match P.underlying t with
 |some (.int _)=>some (.bin op x y)
 |some .string=>some (.bin op x y)
 |some (.struct _)=>TZ P op t x y
 |some d=>Vw P op d z A x y
 |none=>none
def gI(P:Program)(t:TypeId):Option Nat:=match P.info? t,P.underlying t with|some i,some _=>if i.size≠0 then some i.size else none|_,_=>none
def K0(P:Program)(t:TypeId)(x:aI):Option bm:=
 match P.info? t with
 |some j=>if j.size≠0 then some (.xS t (P.cellsOf t) x) else none
 |none=>none
def QR(P:Program)(src dst:TypeId)(x:aI):Option bm:=
 match P.underlying src,P.underlying dst with
 |some .string,some (.slice e)=>match P.underlying e with
  |some (.int .u8)=>some (.Dk e x)
  |_=>none
 |some (.slice e),some .string=>match P.underlying e with
  |some (.int .u8)=>some (.xp x)
  |_=>none
 |some (.pointer t),some .unsafePointer=>K0 P t x
 |some .unsafePointer,some (.pointer t)=>K0 P t x
 |_,_=>none
def adi(P:Program)(src dst:TypeId)(x:aI):Option bm:=
 match P.underlying src,P.underlying dst with
 |some (.int _),some (.int k)=>some (.conv k x)
 |_,_=>QR P src dst x
def Dl(P:Program)(place:Nat→Option (Nat×Nat)):List (Nat×Operand)→Option (List (Nat×Nat×aI))
 |[]=>some []
 |(i,x)::r=>match place i,ct P x,Dl P place r with
  |some q,some y,some l=>some ((q.1,q.2,y)::l)
  |_,_,_=>none
def K1(P:Program):List (Nat×Operand)→Option (List (Nat×aI))
 |[]=>some []
 |(i,x)::r=>match ct P x,K1 P r with
  |some y,some l=>some ((i,y)::l)
  |_,_=>none
def nJ(P:Program):Option Operand→Option (Option aI)
 |none=>some none
 |some x=>match ct P x with|some y=>some (some y)|none=>none
def K2(z:List ak):Option (List (Nat×Nat×aI))→Option bm
 |some l=>if(l.all fun p=>decide (p.1+p.2.1≤z.length))=true then some (.build z l) else none
 |none=>none
def QS(P:Program)(t:TypeId)(parts:List (Nat×Operand)):Option bm:=
 match zeroOf P t with
 |some z=>match P.underlying t with
  |some (.struct fs)=>match fs.toList.mapM (fun f=>(P.info? f.type).map fun i=>(f.offset,i.size)) with
   |some places=>K2 z (Dl P (fun i=>places.toArray[i]?) parts)
   |none=>none
  |some (.array _ e)=>match P.info? e with
   |some A=>K2 z (Dl P (fun i=>some (i*A.size,A.size)) parts)
   |none=>none
  |_=>none
 |none=>none
def P0(P:Program)(t:TypeId)(A:Nat)(parts:List (Nat×Operand)):Option bm:=
 match P.underlying t with
 |some (.slice e)=>match P.info? e,zeroOf P e with
  |some i,some z=>match K1 P parts with
   |some l=>if A*i.size≤16777216 then some (.sM e i.size i.bytes A z l) else none
   |none=>none
  |_,_=>none
 |_=>none
def RU(P:Program)(t:TypeId)(a b:aI):Option bm:=
 match P.underlying t with
 |some (.slice e)=>match P.info? e,zeroOf P e with
  |some i,some z=>if i.bytes≠0 then some (.vJ e i.size i.bytes z a b) else none
  |_,_=>none
 |_=>none
def slArrOf(_:Program)(_:TypeId)(_:aI)(_ _:Option aI):Option bm:=none
def aaa(mx:Bool):List aI→Option bm
 |x::r=>some (.xo mx x r)
 |[]=>none
def otherOf(_:Program)(_:Op):Option bm:=none
def RV(P:Program)(c:Call):Option bm:=
 match c.callee,jM P c.args.toList with
 |.value f,some args=>match f with
  |.func f=>some (.call f args)
  |f=>match ct P f with|some y=>some (.xR y args)|none=>none
 |.builtin .len,some [x]=>match c.argTypes[0]?with
  |some t=>match P.underlying t with
   |some .string=>some (.tQ x)
   |some (.slice _)=>some (.len x)
   |some (.array n _)=>some (.IQ n)
   |_=>none
  |none=>none
 |.builtin .append,some [x,y]=>match c.argTypes[0]?,c.argTypes[1]?with
  |some t,some u=>match P.underlying t,P.underlying u with
   |some (.slice e),some (.slice _)=>match P.info? e,zeroOf P e with
    |some i,some _=>if i.bytes≠0 then some (.app e i.size i.bytes x y) else none
    |_,_=>none
   |some (.slice e),some .string=>match P.info? e,zeroOf P e with
    |some i,some _=>if i.size=1∧i.bytes=1 then some (.xn e x y) else none
    |_,_=>none
   |_,_=>none
  |_,_=>none
 |.builtin .clear,some [x]=>match c.argTypes[0]?with
  |some t=>match P.underlying t with
   |some (.slice e)=>match P.info? e,zeroOf P e with
    |some i,some z=>some (.copy i.size x (.c (.agg z)))
    |_,_=>none
   |_=>none
  |none=>none
 |.builtin .unsafeSliceData,some [x]=>some (.JL x)
 |.builtin .unsafeString,some [x,y]=>match c.argTypes.toList with
  |[A,_]=>match P.underlying A with
   |some (.pointer e)=>if P.cellsOf e=1 then some (.yQ e x y) else none
   |_=>none
  |_=>none
 |.builtin .min,some l=>aaa false l
 |.builtin .max,some l=>aaa true l
 |_,_=>none
def IZ(P:Program)(o:Op):Option bm:=
 match o with
 |.move x=>match ct P x with|some y=>some (.cj y)|none=>none
 |.assign x=>match ct P x with|some y=>some (.cj y)|none=>none
 |.pick c a b=>match ct P c,ct P a,ct P b with|some c,some a,some b=>some (.pick c a b)|_,_,_=>none
 |.alloc t=>match zeroOf P t,P.info? t with|some z,some i=>some (.pb t i.size i.bytes z)|_,_=>none
 |.box t x=>match gI P t,P.info? t,ct P x with|some n,some i,some y=>some (.box t n i.bytes y)|_,_,_=>none
 |.build t parts=>QS P t parts.toList
 |.buildSlice t G parts=>P0 P t G parts.toList
 |.load t a=>match gI P t,ct P a with|some n,some y=>some (.load n (pX P t) y)|_,_=>none
 |.store t a x=>match gI P t,ct P a,ct P x with|some n,some y,some z=>some (.store n y z)|_,_,_=>none
 |.nilCheck x=>match ct P x with|some y=>some (.rB y)|none=>none
 |.binOp op t x y _=>match ct P x,ct P y with|some a,some b=>afQ P op t x y a b|_,_=>none
 |.unOp op _ x=>match ct P x with|some y=>some (.un op y)|none=>none
 |.convert src dst x=>match ct P x with|some y=>adi P src dst y|none=>none
 |.makeInterface t x=>match P.underlying t,ct P x with
  |some (.interface _),_=>none
  |some _,some y=>some (.yP t y)
  |_,_=>none
 |.makeFunc (.func f) first eG=>match jM P first.toList,jM P eG.toList with|some fs,some l=>some (.yO f fs l)|_,_=>none
 |.makeSlice t G I=>match ct P G,ct P I with|some a,some b=>RU P t a b|_,_=>none
 |.slice t x lo hi none=>match P.underlying t,ct P x,nJ P lo,nJ P hi with
  |some .string,some x,some lo,some hi=>some (.HG x lo hi)
  |some (.slice e),some x,some lo,some hi=>match gI P e with|some n=>some (.yN n x lo hi)|none=>none
  |some _,some x,some lo,some hi=>slArrOf P t x lo hi
  |_,_,_,_=>none
 |.slice t x lo (some hi) (some mx)=>match P.underlying t,ct P x,nJ P lo,ct P hi,ct P mx with
  |some (.slice e),some x,some lo,some hi,some mx=>match gI P e with|some n=>some (.JK n x lo hi mx)|none=>none
  |_,_,_,_,_=>none
 |.fieldAddr s x f=>match P.underlying s,ct P x with
  |some (.struct fs),some y=>match fs[f]?with
   |some A=>match gI P A.type with|some _=>some (.dM y A.offset)|none=>none
   |none=>none
  |_,_=>none
 |.field s x f=>match P.underlying s,ct P x with
  |some (.struct fs),some y=>match fs[f]?with
   |some A=>match gI P A.type with|some n=>some (.sub y A.offset n (pX P A.type))|none=>none
   |none=>none
  |_,_=>none
 |.indexAddr t x i=>match P.underlying t,ct P x,ct P i with
  |some (.array k e),some x,some i=>match gI P e with|some n=>if 1<k then some (.AF k n x i) else none|none=>none
  |some (.slice e),some x,some i=>match gI P e with|some n=>some (.gQ n x i)|none=>none
  |_,_,_=>none
 |.index t x i=>match P.underlying t,ct P x,ct P i with
  |some (.array k e),some x,some i=>match gI P e with|some n=>some (.Di k n (pX P e) x i)|none=>none
  |some .string,some x,some i=>some (.Dj x i)
  |_,_,_=>none
 |.extract x i=>match ct P x with|some y=>some (.vI y i)|none=>none
 |.call c=>RV P c
 |o=>otherOf P o
def mf:bm→Bool
 |.pb ..|.box ..|.load ..|.store ..|.vJ ..|.sM ..|.app ..|.xn ..|.copy ..|.Dk ..|.xp ..|.call ..|.xR ..|.xS ..|.yQ ..=>false
 |_=>true
structure Hm where
 bz:Nat
 off:Nat
 room:Nat
 ro:Bool
 db:Bool:=false
abbrev Ho:=Nat→Nat→Option Hm
def I0(h:Hm)(a:Addr)(l cap o es:Nat):Prop:=
 (a=⟨h.bz,h.off+o,none⟩∧o+cap*es≤h.room)∨(l=0∧cap=0∧0<o)
mutual
def VR(ρ:Ho):ak→Value→Prop
 |.bool b,v=>v= .bool b
 |.int k n,v=>v= .int k n
 |.str l s,v=>∃b:ByteArray,v= .string b∧l=b.size∧s=pack b.data.toList
 |.ptr f g o,v=>∃h,ρ f g=some h∧v= .pointer (some ⟨h.bz,h.off+o,none⟩)
 |.kj,v=>v= .pointer none
 |.slice f g o l es,v=>∃h a cap,ρ f g=some h∧v= .slice (some a) l cap∧(l≤cap∧g*es≤o+cap*es)∧I0 h a l cap o es
 |.fL,v=>v= .slice none 0 0
 |.agg cs,v=>∃vs,v= .agg vs∧bQ ρ cs vs.toList∧cs.all eI=true
 |.tuple cs,v=>∃vs,v= .tuple vs∧bQ ρ cs vs.toList
 |.func f first eG,v=>∃fs vs,v= .func (.func f) fs vs∧bQ ρ first fs.toList∧bQ ρ eG vs.toList
 |.mO,v=>v= .nilFunc
 |.iface t a,v=>∃x,v= .iface t x∧VR ρ a x
 |.ke,v=>v= .nilIface
 |.map _,v=>∃a:Addr,v= .pointer (some a)
 |.uR,v=>v= .map none
 |.undef,v=>v=undef
def bQ(ρ:Ho):List ak→List Value→Prop
 |[],vs=>vs=[]
 |a::r,vs=>∃v t,vs=v::t∧VR ρ a v∧bQ ρ r t
end
def Ho.le(ρ ρ':Ho):Prop:=∀f g h,ρ f g=some h→ρ' f g=some h
theorem Ho.le_refl(ρ:Ho):ρ.le ρ:=fun _ _ _ h=>h
theorem Ho.le_trans{a b c:Ho}(h:a.le b)(k:b.le c):a.le c:=fun f g x z=>k f g x (h f g x z)
mutual
theorem VR.mono{ρ ρ':Ho}(z:ρ.le ρ'):∀{a:ak}{v:Value},VR ρ a v→VR ρ' a v
 |.bool _,_,h=>by simpa[VR] using h
 |.int _ _,_,h=>by simpa[VR] using h
 |.str _ _,_,h=>by simpa[VR] using h
 |.ptr _ _ _,_,h=>by
  simp only[VR] at h⊢;obtain⟨x,G,e⟩:=h;exact⟨x,z _ _ _ G,e⟩
 |.kj,_,h=>by simpa[VR] using h
 |.slice _ _ _ _ _,_,h=>by
  simp only[VR] at h⊢;obtain⟨x,a,c,G,e⟩:=h;exact⟨x,a,c,z _ _ _ G,e⟩
 |.fL,_,h=>by simpa[VR] using h
 |.agg cs,_,h=>by
  simp only[VR] at h⊢;obtain⟨vs,e,A,ho⟩:=h;exact⟨vs,e,bQ.mono z A,ho⟩
 |.tuple cs,_,h=>by
  simp only[VR] at h⊢;obtain⟨vs,e,A⟩:=h;exact⟨vs,e,bQ.mono z A⟩
 |.func _ _ cs,_,h=>by
  simp only[VR] at h⊢;obtain⟨fs,vs,e,I,A⟩:=h;exact⟨fs,vs,e,bQ.mono z I,bQ.mono z A⟩
 |.mO,_,h=>by simpa[VR] using h
 |.iface _ a,_,h=>by
  simp only[VR] at h⊢;obtain⟨x,e,A⟩:=h;exact⟨x,e,VR.mono z A⟩
 |.ke,_,h=>by simpa[VR] using h
 |.map _,_,h=>by simp only[VR] at h⊢;exact h
 |.uR,_,h=>by simpa[VR] using h
 |.undef,_,h=>by simpa[VR] using h
theorem bQ.mono{ρ ρ':Ho}(z:ρ.le ρ'):∀{a:List ak}{v:List Value},bQ ρ a v→bQ ρ' a v
 |[],_,h=>by simpa[bQ] using h
 |a::r,_,h=>by
  simp only[bQ] at h⊢;obtain⟨v,t,e,A,h2⟩:=h;exact⟨v,t,e,VR.mono z A,bQ.mono z h2⟩
end
theorem bQ.length{ρ:Ho}:∀{a:List ak}{v:List Value},bQ ρ a v→v.length=a.length
 |[],_,h=>by simp only[bQ] at h;subst h;rfl
 |a::r,_,h=>by
  simp only[bQ] at h;obtain⟨v,t,rfl,_,h2⟩:=h;simp[bQ.length h2]
theorem bQ.get{ρ:Ho}:∀{a:List ak}{v:List Value},bQ ρ a v→∀(i:Nat)(x:ak),a[i]?=some x→∃y,v[i]?=some y∧VR ρ x y
 |[],_,_,i,x,z=>by simp at z
 |a::r,_,h,i,x,z=>by
  simp only[bQ] at h;obtain⟨v,t,rfl,A,h2⟩:=h
  cases i with
  |zero=>simp at z;subst z;exact⟨v,rfl,A⟩
  |succ i=>simp at z;obtain⟨y,G,k⟩:=bQ.get h2 i x z;exact⟨y,by simpa using G,k⟩
theorem bQ.oN{ρ:Ho}:∀{a:List ak}{v:List Value},v.length=a.length→(∀(i:Nat)(x:ak),a[i]?=some x→∃y,v[i]?=some y∧VR ρ x y)→bQ ρ a v
 |[],v,z,_=>by simp only[bQ];exact o0 (by simpa using z)
 |a::r,[],z,_=>by simp at z
 |a::r,v::t,z,h=>by
  simp only[bQ];refine⟨v,t,rfl,?_,bQ.oN (by simpa using z) fun i x G=>?_⟩
  ·obtain⟨y,A,k⟩:=h 0 a rfl;simp at A;subst A;exact k
  obtain⟨y,A,k⟩:=h (i+1) x (by simpa using G);exact⟨y,by simpa using A,k⟩
theorem bQ.append{ρ:Ho}{a b:List ak}{v u:List Value}(h:bQ ρ a v)(k:bQ ρ b u):bQ ρ (a++b) (v++u):=by
 induction a generalizing v with
 |nil=>simp only[bQ] at h;subst h;exact k
 |cons x r z=>
  simp only[bQ] at h;obtain⟨y,t,rfl,A,h2⟩:=h;simp only[El,bQ];exact⟨y,t++u,rfl,A,z h2⟩
theorem bQ.take{ρ:Ho}{a:List ak}{v:List Value}(h:bQ ρ a v)(n:Nat):bQ ρ (a.take n) (v.take n):=by
 refine bQ.oN (by simp[h.length]) fun i x z=>?_
 rw[IH] at z
 split at z
 ·obtain⟨y,A,k⟩:=h.get i x z;exact⟨y,by rw[IH,bj (by assumption)];exact A,k⟩
 cases z
theorem bQ.drop{ρ:Ho}{a:List ak}{v:List Value}(h:bQ ρ a v)(n:Nat):bQ ρ (a.drop n) (v.drop n):=by
 refine bQ.oN (by simp[h.length]) fun i x z=>?_
 rw[II] at z;obtain⟨y,A,k⟩:=h.get _ x z;exact⟨y,by rw[II];exact A,k⟩
theorem VR.cells{ρ:Ho}{a:ak}{v:Value}{l:List ak}(h:VR ρ a v)(z:iD a=some l):bQ ρ l v.cells.toList∧l.all eI=true:=by
 have one:∀{x:ak}{y:Value},VR ρ x y→y.cells=#[y]→eI x=true→l=[x]→bQ ρ l y.cells.toList∧l.all eI=true:=by
  intro x y A G I L;subst L;rw[G];exact⟨⟨y,[],rfl,A,rfl⟩,by simp[I]⟩
 cases a<;>simp only[iD,eA,reduceCtorEq] at z
 case agg cs=>
  simp only[VR] at h;obtain⟨vs,rfl,M,ho⟩:=h;subst z;exact⟨M,ho⟩
 case bool b=>exact one h (by simp only[VR] at h;subst h;rfl) rfl z.symm
 case int k n=>exact one h (by simp only[VR] at h;subst h;rfl) rfl z.symm
 case str k n=>exact one h (by simp only[VR] at h;obtain⟨b,rfl,_⟩:=h;rfl) rfl z.symm
 case ptr f g o=>exact one h (by simp only[VR] at h;obtain⟨b,_,rfl⟩:=h;rfl) rfl z.symm
 case kj=>exact one h (by simp only[VR] at h;subst h;rfl) rfl z.symm
 case slice f g o l es=>exact one h (by simp only[VR] at h;obtain⟨_,_,_,_,rfl,_⟩:=h;rfl) rfl z.symm
 case fL=>exact one h (by simp only[VR] at h;subst h;rfl) rfl z.symm
 case func f fs c=>exact one h (by simp only[VR] at h;obtain⟨_,_,rfl,_⟩:=h;rfl) rfl z.symm
 case mO=>exact one h (by simp only[VR] at h;subst h;rfl) rfl z.symm
 case iface t x=>exact one h (by simp only[VR] at h;obtain⟨_,rfl,_⟩:=h;rfl) rfl z.symm
 case ke=>exact one h (by simp only[VR] at h;subst h;rfl) rfl z.symm
 case map f=>exact one h (by simp only[VR] at h;obtain⟨a,rfl⟩:=h;rfl) rfl z.symm
 case uR=>exact one h (by simp only[VR] at h;subst h;rfl) rfl z.symm
theorem VR.noAgg{ρ:Ho}{a:ak}{v:Value}(h:VR ρ a v)(z:eI a=true):(∀cs,v≠.agg cs)∧(∀cs,v≠.tuple cs):=by
 cases a<;>simp only[VR,eI,gK] at h z
 all_goals first
  |(subst h;exact⟨fun _=>by simp,fun _=>by simp⟩)
  |(obtain⟨_,rfl⟩:=h;exact⟨fun _=>by simp,fun _=>by simp⟩)
  |(obtain⟨_,rfl,_⟩:=h;exact⟨fun _=>by simp,fun _=>by simp⟩)
  |(obtain⟨_,_,rfl⟩:=h;exact⟨fun _=>by simp,fun _=>by simp⟩)
  |(obtain⟨_,_,rfl,_⟩:=h;exact⟨fun _=>by simp,fun _=>by simp⟩)
  |(obtain⟨_,_,_,_,rfl,_⟩:=h;exact⟨fun _=>by simp,fun _=>by simp⟩)
structure HW(ρ:Ho)(w:World)(h:Hm)(g elem es n fl:Nat)(cs:RT):Prop where
 row:∃c fz,w.heap[h.bz]?=some (.cells c elem fz)∧h.off+h.room≤c.size
 fits:g*es≤h.room
 cell:∀i,i<g→∃l,cs.get i=some l∧l.length=es∧∀j x,l[j]?=some x→eI x=true∧∃cv,w.cell? ⟨h.bz,h.off+i*es+j,none⟩=some cv∧VR ρ x cv
 DQ:fl=0→∀i,i<h.room→w.frozen? ⟨h.bz,h.off+i,none⟩=false
 Bg:fl≠1→∀i,n*es≤i→i<h.room→w.frozen? ⟨h.bz,h.off+i,none⟩=false
 tT:fl=0∨fl=2→h.off=0
 Cp:fl=0∨fl=2→∀c e fz,w.heap[h.bz]?=some (.cells c e fz)→fz.1=fz.2∨fz.2≤n*es
def Bh(ρ:Ho)(w:World)(h:Hm)(g:Nat):cV→Prop
 |.row elem es _ n lo fl cs=>0<es∧(h.ro=true→fl=1)∧g≤n∧(lo≤g→g≤n→HW ρ w h g elem es n fl cs)
 |.map _=>False
def E8(ρ:Ho)(w:World)(f:Nat)(h:Hm):Prop:=(∀g' h',ρ f g'=some h'→h'.ro=true)∧∃z A,w.cell? ⟨h.bz,h.off,none⟩=some (.iface z A)
structure R(ρ:Ho)(C:Nat→Option cV)(w:World):Prop where
 obj:∀f o,C f=some o→∀g h,ρ f g=some h→Bh ρ w h g o
 my:∀f g h f' g' h',ρ f g=some h→ρ f' g'=some h'→f≠f'→h.bz=h'.bz→h.ro=true∧h'.ro=true
 gE:∀f g h,ρ f g=some h→h.bz<w.heap.size
 uniq:∀f g h g' h',ρ f g=some h→ρ f g'=some h'→h.bz=h'.bz→h.off=h'.off
 db:∀f g h,ρ f g=some h→h.ro=true→h.db=true→E8 ρ w f h
structure Ext(W:Nat→Prop)(n0 n1:Nat)(ρ ρ':Ho)(w w':World):Prop where
 le:ρ.le ρ'
 gp:∀f g h,ρ' f g=some h→(∃g0 h0,ρ f g0=some h0)∨(n0≤f∧f<n1)
 bz:∀f g h,ρ' f g=some h→ρ f g=some h∨(w.heap.size≤h.bz∧h.ro=false)∨(∃g0 h0,ρ f g0=some h0∧h0.bz=h.bz∧h0.ro=h.ro)
 frame:∀b,b<w.heap.size→(∀f g h,ρ f g=some h→h.ro=false→W f→h.bz≠b)→w'.heap[b]?=w.heap[b]?
 size:w.heap.size≤w'.heap.size
 nn:n0≤n1
 os:w'.os=w.os
 tape:w'.tape=w.tape
 output:w'.output=w.output
theorem Ext.refl(W:Nat→Prop)(n:Nat)(ρ:Ho)(w:World):Ext W n n ρ ρ w w:=
 ⟨Ho.le_refl _,fun f g h e=>.inl ⟨g,h,e⟩,fun _ _ _ e=>.inl e,fun _ _ _=>rfl,bt _,bt _,rfl,rfl,rfl⟩
theorem Ext.mono{W z:Nat→Prop}{n0 n1:Nat}{ρ ρ':Ho}{w w':World}(h:Ext W n0 n1 ρ ρ' w w')(A:∀f,W f→z f):Ext z n0 n1 ρ ρ' w w':=
 ⟨h.le,h.gp,h.bz,fun b G k=>h.frame b G fun f g x I L M=>k f g x I L (A f M),h.size,h.nn,h.os,h.tape,h.output⟩
theorem Ext.trans{W:Nat→Prop}{n0 n1 U:Nat}{ρ z A:Ho}{w Y Z:World}(h:Ext W n0 n1 ρ z w Y)(k:Ext W n1 U z A Y Z):Ext W n0 U ρ A w Z:=by
 refine⟨Ho.le_trans h.le k.le,?_,?_,?_,eZ h.size k.size,eZ h.nn k.nn,k.os.trans h.os,k.tape.trans h.tape,k.output.trans h.output⟩
 ·intro f g x G;have h1:=h.nn;have h2:=k.nn;rcases k.gp f g x G with⟨g0,h0,e⟩|⟨a,b⟩
  ·rcases h.gp f g0 h0 e with e|⟨a,b⟩
   ·exact .inl e
   exact .inr ⟨a,aq⟩
  exact .inr ⟨aq,b⟩
 ·intro f g x G;rcases k.bz f g x G with e|⟨a,b⟩|⟨g0,h0,e,I,L⟩
  ·exact h.bz f g x e
  ·exact .inr (.inl ⟨eZ h.size a,b⟩)
  rcases h.bz f g0 h0 e with M|⟨a,b⟩|⟨g1,h1,M,e3,e4⟩
  ·exact .inr (.inr ⟨g0,h0,M,I,L⟩)
  ·exact .inr (.inl ⟨I▸a,L▸b⟩)
  exact .inr (.inr ⟨g1,h1,M,e3.trans I,e4.trans L⟩)
 intro b hb O;rw[k.frame b (jj hb h.size) ?_,h.frame b hb O];intro f g x G hr hw;rcases h.bz f g x G with e|⟨a,_⟩|⟨g0,h0,e,I,L⟩
 ·exact O f g x e hr hw
 ·intro hh;omega
 exact I▸O f g0 h0 e (L.trans hr) hw
theorem cell_of_heap{w w':World}{a:Addr}(h:w'.heap[a.block]?=w.heap[a.block]?):w'.cell? a=w.cell? a:=by simp only[World.cell?,h]
theorem E8.gg{ρ:Ho}{w w':World}{f:Nat}{h:Hm}(k:E8 ρ w f h)(z:w'.cell? ⟨h.bz,h.off,none⟩=w.cell? ⟨h.bz,h.off,none⟩):E8 ρ w' f h:=⟨k.1,by obtain⟨A,G,e⟩:=k.2;exact⟨A,G,z.trans e⟩⟩
theorem frozen_of_heap{w w':World}{a:Addr}(h:w'.heap[a.block]?=w.heap[a.block]?):w'.frozen? a=w.frozen? a:=by simp only[World.frozen?,h]
theorem HW.gg{ρ ρ':Ho}{w w':World}{h:Hm}{g elem es n fl:Nat}{cs:RT}(k:HW ρ w h g elem es n fl cs)(G:ρ.le ρ')(z:w'.heap[h.bz]?=w.heap[h.bz]?):
  HW ρ' w' h g elem es n fl cs:=by
 refine⟨by rw[z];exact k.row,k.fits,fun i hi=>?_,fun h0 i hi=>?_,fun h0 i hi I=>?_,k.tT,fun e c t fz A=>k.Cp e c t fz (by rw[←z];exact A)⟩
 ·obtain⟨l,e,L,M⟩:=k.cell i hi;refine⟨l,e,L,fun j x O=>?_⟩;obtain⟨o,cv,A,U⟩:=M j x O;exact⟨o,cv,by rw[cell_of_heap (w:=w) z];exact A,U.mono G⟩
 ·rw[frozen_of_heap (w:=w) z];exact k.DQ h0 i hi
 rw[frozen_of_heap (w:=w) z];exact k.Bg h0 i hi I
theorem Bh.gg{ρ ρ':Ho}{w w':World}{h:Hm}{g:Nat}{o:cV}(k:Bh ρ w h g o)(z:ρ.le ρ')(A:w'.heap[h.bz]?=w.heap[h.bz]?):Bh ρ' w' h g o:=by
 cases o with
 |row elem es aE n lo fl cs=>exact⟨k.1,k.2.1,k.2.2.1,fun a b=>(k.2.2.2 a b).gg z A⟩
 |map es=>exact k
theorem R.weaken{ρ:Ho}{C z:Nat→Option cV}{w:World}(h:R ρ C w)(G:∀f o,z f=some o→(∃g x,ρ f g=some x)→C f=some o):R ρ z w:=
 ⟨fun f o e g x A=>h.obj f o (G f o e ⟨g,x,A⟩) g x A,h.my,h.gE,h.uniq,h.db⟩
end Go.Ev
