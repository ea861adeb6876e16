/- Part 2 of rules for walks through the code of a program, and of such walks; what each part proves is said by its theorems. -/
import Derived.Test.YtmpoloiempjdpaaGreatS1
import GoSem.Core.Layout
import GoSem.ClaimKeys
import Derived.IntWalk
import Derived.Deep.AppendSrc
import Derived.RowKit3
set_option linter.unusedVariables false
set_option linter.unusedSimpArgs false
noncomputable section
set_option maxRecDepth 100000
set_option maxHeartbeats 4000000
namespace Go.Ev
mutual
def jC:Value→Option ai
 |.bool b=>some (.bool b)
 |.int k n=>some (.int k n)
 |.string s=>some (.str s.size (pack s.data.toList))
 |.pointer none=>some .mT
 |.slice none 0 0=>some .fV
 |.nilIface=>some .kJ
 |.nilFunc=>some .nF
 |.map none=>some .vl
 |.agg cs=>match GF cs.toList with
  |some l=>if l.all eQ then some (.agg l) else none
  |none=>none
 |_=>none
def GF:List Value→Option (List ai)
 |[]=>some []
 |v::r=>match jC v,GF r with
  |some a,some l=>some (a::l)
  |_,_=>none
end
def cellsOf:ai→Option (List ai)
 |.agg cs=>some cs
 |.tuple _=>none
 |.undef=>none
 |v=>some [v]
def cG(P:Program):Operand→Option aG
 |.tmp t=>if t<1296 then some (.t (pk t)) else none
 |.const v=>match jC v with|some a=>some (.c a)|none=>none
 |.global g=>if g<P.globals.size then some (.c (.ptr g 1 0)) else none
 |.func f=>some (.c (.func f [] []))
def ke(P:Program):List Operand→Option (List aG)
 |[]=>some []
 |x::r=>match cG P x,ke P r with
  |some a,some l=>some (a::l)
  |_,_=>none
def zeroOf(P:Program)(t:TypeId):Option (List ai):=
 match P.info? t with
 |some i=>match i.zero with
  |some z=>match jC z with
   |some v=>match cellsOf v with
    |some l=>if l.length=i.size∧0<i.size then some l else none
    |none=>none
   |none=>none
  |none=>none
 |none=>none
def qH(P:Program)(t:TypeId):Bool:=match P.underlying t with|some (.struct _)=>true|some (.array _ _)=>true|_=>false
def JS:br:=.sk (.c .mT) []
def Ud(P:Program):TypeDesc→Option EP
 |.bool=>some .bool
 |.pointer e=>match P.info? e with|some _=>some .ptr|none=>none
 |.slice _=>some .slice
 |.interface _=>some .iface
 |.func _ _ _=>some .func
 |.map _ _=>some .map
 |_=>none
def CJ:Operand→Bool
 |.const _=>true
 |_=>false
def LK(x y:Operand):TypeDesc→Bool
 |.interface ms=>ms.isEmpty||CJ x||CJ y
 |_=>true
def K5(P:Program)(g:TypeId→Option (List Nat)):Nat→List Field→Option (List Nat)
 |_,[]=>some []
 |off,f::r=>match g f.type with
  |some k=>if f.offset=off∧k.length=P.cellsOf f.type then
    match K5 P g (off+k.length) r with
    |some l=>some (k++l)
    |none=>none
   else none
  |none=>none
def xv(P:Program):Nat→TypeId→Option (List Nat)
 |0,_=>none
 |d+1,t=>match P.underlying t with
  |some .bool=>some [100]
  |some (.int k)=>some [cS k]
  |some .string=>some [101]
  |some (.struct fs)=>match K5 P (xv P d) 0 fs.toList with
   |some ks=>if ks.length=P.cellsOf t∧fs.all (·.name != "_")=true then some ks else none
   |none=>none
  |_=>none
def Ue(P:Program)(op:BinOp)(t:TypeId)(x y:aG):Option br:=
 match xv P 12 t with
 |some ks=>if P.keyTypeAt 12 t=true∧P.eqGuardType P.depth t=false then
   match op with
   |.eql=>some (.eqv (.agg ks) false x y)
   |.neq=>some (.eqv (.agg ks) true x y)
   |_=>none
  else none
 |none=>none
def Vz(P:Program)(op:BinOp)(d:TypeDesc)(z A:Operand)(x y:aG):Option br:=
 match Ud P d with
 |some c=>if LK z A d=true then
   match op with
   |.eql=>some (.eqv c false x y)
   |.neq=>some (.eqv c true x y)
   |_=>none
  else none
 |none=>none
def ags(P:Program)(op:BinOp)(t:TypeId)(z A:Operand)(x y:aG):Option br:=
 match P.underlying t with
 |some (.int _)=>some (.bin op x y)
 |some .string=>some (.bin op x y)
 |some (.struct _)=>Ue P op t x y
 |some d=>Vz P op d z A x y
 |none=>none
def gZ(P:Program)(t:TypeId):Option Nat:=match P.info? t,P.underlying t with|some i,some _=>if i.size≠0 then some i.size else none|_,_=>none
def Rz(P:Program)(src dst:TypeId)(x:aG):Option br:=
 match P.underlying src,P.underlying dst with
 |some (.slice e),some .string=>match P.underlying e with
  |some (.int .u8)=>some (.xE x)
  |_=>none
 |_,_=>none
def adQ(P:Program)(src dst:TypeId)(x:aG):Option br:=
 match P.underlying src,P.underlying dst with
 |some (.int _),some (.int k)=>some (.conv k x)
 |_,_=>Rz P src dst x
def C3(P:Program)(place:Nat→Option (Nat×Nat)):List (Nat×Operand)→Option (List (Nat×Nat×aG))
 |[]=>some []
 |(i,x)::r=>match place i,cG P x,C3 P place r with
  |some q,some y,some l=>some ((q.1,q.2,y)::l)
  |_,_,_=>none
def K6(P:Program):List (Nat×Operand)→Option (List (Nat×aG))
 |[]=>some []
 |(i,x)::r=>match cG P x,K6 P r with
  |some y,some l=>some ((i,y)::l)
  |_,_=>none
def oE(P:Program):Option Operand→Option (Option aG)
 |none=>some none
 |some x=>match cG P x with|some y=>some (some y)|none=>none
def K7(z:List ai):Option (List (Nat×Nat×aG))→Option br
 |some l=>if(l.all fun p=>decide (p.1+p.2.1≤z.length))=true then some (.build z l) else none
 |none=>none
def RA(P:Program)(t:TypeId)(parts:List (Nat×Operand)):Option br:=
 match zeroOf P t with
 |some z=>match P.underlying t with
  |some (.struct fs)=>match fs.toList.mapM (fun f=>(P.info? f.type).map fun i=>(f.offset,i.size)) with
   |some A=>K7 z (C3 P (fun i=>A.toArray[i]?) parts)
   |none=>none
  |some (.array _ e)=>match P.info? e with
   |some G=>K7 z (C3 P (fun i=>some (i*G.size,G.size)) parts)
   |none=>none
  |_=>none
 |none=>none
def QG(P:Program)(t:TypeId)(A:Nat)(parts:List (Nat×Operand)):Option br:=
 match P.underlying t with
 |some (.slice e)=>match P.info? e,zeroOf P e with
  |some i,some z=>match K6 P parts with
   |some l=>if A*i.size≤16777216 then some (.tK e i.size i.bytes A z l) else none
   |none=>none
  |_,_=>none
 |_=>none
def St(P:Program)(t:TypeId)(a b:aG):Option br:=
 match P.underlying t with
 |some (.slice e)=>match P.info? e,zeroOf P e with
  |some i,some z=>if i.bytes≠0 then some (.vT e i.size i.bytes z a b) else none
  |_,_=>none
 |_=>none
def slArrOf(_:Program)(_:TypeId)(_:aG)(_ _:Option aG):Option br:=none
def aaB(mx:Bool):List aG→Option br
 |x::r=>some (.xD mx x r)
 |[]=>none
def otherOf(_:Program)(_:Op):Option br:=none
def Su(P:Program)(c:Call):Option br:=
 match c.callee,ke P c.args.toList with
 |.value f,some args=>match f with
  |.func f=>some (.call f args)
  |f=>match cG P f with|some y=>some (.sk y args)|none=>none
 |.builtin .len,some [x]=>match c.argTypes[0]?with
  |some t=>match P.underlying t with
   |some .string=>some (.um x)
   |some (.slice _)=>some (.len x)
   |_=>none
  |none=>none
 |.builtin .append,some [x,y]=>match c.argTypes[0]?,c.argTypes[1]?with
  |some t,some u=>match P.underlying t,P.underlying u with
   |some (.slice e),some (.slice _)=>match P.info? e,zeroOf P e with
    |some i,some _=>if i.bytes≠0 then some (.app e i.size i.bytes x y) else none
    |_,_=>none
   |some (.slice e),some .string=>match P.info? e,zeroOf P e with
    |some i,some _=>if i.size=1∧i.bytes=1 then some (.xC e x y) else none
    |_,_=>none
   |_,_=>none
  |_,_=>none
 |.builtin .clear,some [x]=>match c.argTypes[0]?with
  |some t=>match P.underlying t with
   |some (.slice e)=>match P.info? e,zeroOf P e with
    |some i,some z=>some (.copy i.size x (.c (.agg z)))
    |_,_=>none
   |_=>none
  |none=>none
 |.builtin .min,some l=>aaB false l
 |.builtin .max,some l=>aaB true l
 |_,_=>none
def I1(P:Program)(o:Op):Option br:=
 match o with
 |.move x=>match cG P x with|some y=>some (.eb y)|none=>none
 |.assign x=>match cG P x with|some y=>some (.eb y)|none=>none
 |.pick c a b=>match cG P c,cG P a,cG P b with|some c,some a,some b=>some (.pick c a b)|_,_,_=>none
 |.alloc t=>match zeroOf P t,P.info? t with|some z,some i=>some (.pN t i.size i.bytes z)|_,_=>none
 |.box t x=>match gZ P t,P.info? t,cG P x with|some n,some i,some y=>some (.box t n i.bytes y)|_,_,_=>none
 |.build t parts=>RA P t parts.toList
 |.buildSlice t G parts=>QG P t G parts.toList
 |.load t a=>match gZ P t,cG P a with|some n,some y=>some (.load n (qH P t) y)|_,_=>none
 |.store t a x=>match gZ P t,cG P a,cG P x with|some n,some y,some z=>some (.store n y z)|_,_,_=>none
 |.nilCheck x=>match cG P x with|some y=>some (.sj y)|none=>none
 |.binOp op t x y _=>match cG P x,cG P y with|some a,some b=>ags P op t x y a b|_,_=>none
 |.unOp op _ x=>match cG P x with|some y=>some (.un op y)|none=>none
 |.convert src dst x=>match cG P x with|some y=>adQ P src dst y|none=>none
 |.makeInterface _ _=>none
 |.makeFunc (.func f) first dY=>match ke P first.toList,ke P dY.toList with|some fs,some l=>some (.yF f fs l)|_,_=>none
 |.makeSlice t G I=>match cG P G,cG P I with|some a,some b=>St P t a b|_,_=>none
 |.slice t x lo hi none=>match P.underlying t,cG P x,oE P lo,oE P hi with
  |some .string,some x,some lo,some hi=>some (.HC x lo hi)
  |some (.slice e),some x,some lo,some hi=>match gZ P e with|some n=>some (.sE n x lo hi)|none=>none
  |some _,some x,some lo,some hi=>slArrOf P t x lo hi
  |_,_,_,_=>none
 |.slice t x lo (some hi) (some mx)=>match P.underlying t,cG P x,oE P lo,cG P hi,cG P mx with
  |some (.slice e),some x,some lo,some hi,some mx=>match gZ P e with|some n=>some (.ER n x lo hi mx)|none=>none
  |_,_,_,_,_=>none
 |.fieldAddr s x f=>match P.underlying s,cG P x with
  |some (.struct fs),some y=>match fs[f]?with
   |some A=>match gZ P A.type with|some _=>some (.eY y A.offset)|none=>none
   |none=>none
  |_,_=>none
 |.field s x f=>match P.underlying s,cG P x with
  |some (.struct fs),some y=>match fs[f]?with
   |some A=>match gZ P A.type with|some n=>some (.sub y A.offset n (qH P A.type))|none=>none
   |none=>none
  |_,_=>none
 |.indexAddr t x i=>match P.underlying t,cG P x,cG P i with
  |some (.array k e),some x,some i=>match gZ P e with|some n=>if 1<k then some (.An k n x i) else none|none=>none
  |some (.slice e),some x,some i=>match gZ P e with|some n=>some (.kr n x i)|none=>none
  |_,_,_=>none
 |.index t x i=>match P.underlying t,cG P x,cG P i with
  |some (.array k e),some x,some i=>match gZ P e with|some n=>some (.C2 k n (qH P e) x i)|none=>none
  |some .string,some x,some i=>some (.Ao x i)
  |_,_,_=>none
 |.extract x i=>match cG P x with|some y=>some (.vS y i)|none=>none
 |.call c=>Su P c
 |o=>otherOf P o
def mV:br→Bool
 |.pN ..|.box ..|.load ..|.store ..|.vT ..|.tK ..|.app ..|.xC ..|.copy ..|.xE ..|.call ..|.sk ..=>false
 |_=>true
structure Hm where
 bG:Nat
 off:Nat
 room:Nat
 ro:Bool
 bK:Bool:=false
abbrev Ho:=Nat→Nat→Option Hm
def I2(h:Hm)(a:Addr)(l cap o es:Nat):Prop:=
 (a=⟨h.bG,h.off+o,none⟩∧o+cap*es≤h.room)∨(l=0∧cap=0∧0<o)
mutual
def VR(ρ:Ho):ai→Value→Prop
 |.bool b,v=>v= .bool b
 |.int k n,v=>v= .int k n
 |.str l s,v=>∃b:ByteArray,v= .string b∧l=b.size∧s=pack b.data.toList
 |.ptr f g o,v=>∃h,ρ f g=some h∧v= .pointer (some ⟨h.bG,h.off+o,none⟩)
 |.mT,v=>v= .pointer none
 |.slice f g o l es,v=>∃h a cap,ρ f g=some h∧v= .slice (some a) l cap∧(l≤cap∧g*es≤o+cap*es)∧I2 h a l cap o es
 |.fV,v=>v= .slice none 0 0
 |.agg cs,v=>∃vs,v= .agg vs∧bR ρ cs vs.toList∧cs.all eQ=true
 |.tuple cs,v=>∃vs,v= .tuple vs∧bR ρ cs vs.toList
 |.func f first dY,v=>∃fs vs,v= .func (.func f) fs vs∧bR ρ first fs.toList∧bR ρ dY vs.toList
 |.nF,v=>v= .nilFunc
 |.iface t a,v=>∃x,v= .iface t x∧VR ρ a x
 |.kJ,v=>v= .nilIface
 |.map _,v=>∃a:Addr,v= .pointer (some a)
 |.vl,v=>v= .map none
 |.undef,v=>v=undef
def bR(ρ:Ho):List ai→List Value→Prop
 |[],vs=>vs=[]
 |a::r,vs=>∃v t,vs=v::t∧VR ρ a v∧bR ρ r t
end
def Ho.le(ρ ρ':Ho):Prop:=∀f g h,ρ f g=some h→ρ' f g=some h
theorem Ho.le_refl(ρ:Ho):ρ.le ρ:=fun _ _ _ h=>h
theorem Ho.le_trans{a b c:Ho}(h:a.le b)(k:b.le c):a.le c:=fun f g x z=>k f g x (h f g x z)
mutual
theorem VR.mono{ρ ρ':Ho}(z:ρ.le ρ'):∀{a:ai}{v:Value},VR ρ a v→VR ρ' a v
 |.bool _,_,h=>by simpa[VR] using h
 |.int _ _,_,h=>by simpa[VR] using h
 |.str _ _,_,h=>by simpa[VR] using h
 |.ptr _ _ _,_,h=>by
  simp only[VR] at h⊢;obtain⟨x,G,e⟩:=h;exact⟨x,z _ _ _ G,e⟩
 |.mT,_,h=>by simpa[VR] using h
 |.slice _ _ _ _ _,_,h=>by
  simp only[VR] at h⊢;obtain⟨x,a,c,G,e⟩:=h;exact⟨x,a,c,z _ _ _ G,e⟩
 |.fV,_,h=>by simpa[VR] using h
 |.agg cs,_,h=>by
  simp only[VR] at h⊢;obtain⟨vs,e,A,ho⟩:=h;exact⟨vs,e,bR.mono z A,ho⟩
 |.tuple cs,_,h=>by
  simp only[VR] at h⊢;obtain⟨vs,e,A⟩:=h;exact⟨vs,e,bR.mono z A⟩
 |.func _ _ cs,_,h=>by
  simp only[VR] at h⊢;obtain⟨fs,vs,e,I,A⟩:=h;exact⟨fs,vs,e,bR.mono z I,bR.mono z A⟩
 |.nF,_,h=>by simpa[VR] using h
 |.iface _ a,_,h=>by
  simp only[VR] at h⊢;obtain⟨x,e,A⟩:=h;exact⟨x,e,VR.mono z A⟩
 |.kJ,_,h=>by simpa[VR] using h
 |.map _,_,h=>by simp only[VR] at h⊢;exact h
 |.vl,_,h=>by simpa[VR] using h
 |.undef,_,h=>by simpa[VR] using h
theorem bR.mono{ρ ρ':Ho}(z:ρ.le ρ'):∀{a:List ai}{v:List Value},bR ρ a v→bR ρ' a v
 |[],_,h=>by simpa[bR] using h
 |a::r,_,h=>by
  simp only[bR] at h⊢;obtain⟨v,t,e,A,h2⟩:=h;exact⟨v,t,e,VR.mono z A,bR.mono z h2⟩
end
theorem bR.length{ρ:Ho}:∀{a:List ai}{v:List Value},bR ρ a v→v.length=a.length
 |[],_,h=>by simp only[bR] at h;subst h;rfl
 |a::r,_,h=>by
  simp only[bR] at h;obtain⟨v,t,rfl,_,h2⟩:=h;simp[bR.length h2]
theorem bR.get{ρ:Ho}:∀{a:List ai}{v:List Value},bR ρ a v→∀(i:Nat)(x:ai),a[i]?=some x→∃y,v[i]?=some y∧VR ρ x y
 |[],_,_,i,x,z=>by simp at z
 |a::r,_,h,i,x,z=>by
  simp only[bR] at h;obtain⟨v,t,rfl,A,h2⟩:=h
  cases i with
  |zero=>simp at z;subst z;exact⟨v,rfl,A⟩
  |succ i=>simp at z;obtain⟨y,G,k⟩:=bR.get h2 i x z;exact⟨y,by simpa using G,k⟩
theorem bR.mW{ρ:Ho}:∀{a:List ai}{v:List Value},v.length=a.length→(∀(i:Nat)(x:ai),a[i]?=some x→∃y,v[i]?=some y∧VR ρ x y)→bR ρ a v
 |[],v,z,_=>by simp only[bR];exact su (by simpa using z)
 |a::r,[],z,_=>by simp at z
 |a::r,v::t,z,h=>by
  simp only[bR];refine⟨v,t,rfl,?_,bR.mW (by simpa using z) fun i x G=>?_⟩
  ·obtain⟨y,A,k⟩:=h 0 a rfl;simp at A;subst A;exact k
  obtain⟨y,A,k⟩:=h (i+1) x (by simpa using G);exact⟨y,by simpa using A,k⟩
theorem bR.append{ρ:Ho}{a b:List ai}{v u:List Value}(h:bR ρ a v)(k:bR ρ b u):bR ρ (a++b) (v++u):=by
 induction a generalizing v with
 |nil=>simp only[bR] at h;subst h;exact k
 |cons x r z=>
  simp only[bR] at h;obtain⟨y,t,rfl,A,h2⟩:=h;simp only[Bo,bR];exact⟨y,t++u,rfl,A,z h2⟩
theorem bR.take{ρ:Ho}{a:List ai}{v:List Value}(h:bR ρ a v)(n:Nat):bR ρ (a.take n) (v.take n):=by
 refine bR.mW (by simp[h.length]) fun i x z=>?_
 rw[Bp] at z
 split at z
 ·obtain⟨y,A,k⟩:=h.get i x z;exact⟨y,by rw[Bp,bg (by assumption)];exact A,k⟩
 cases z
theorem bR.drop{ρ:Ho}{a:List ai}{v:List Value}(h:bR ρ a v)(n:Nat):bR ρ (a.drop n) (v.drop n):=by
 refine bR.mW (by simp[h.length]) fun i x z=>?_
 rw[IP] at z;obtain⟨y,A,k⟩:=h.get _ x z;exact⟨y,by rw[IP];exact A,k⟩
theorem VR.cells{ρ:Ho}{a:ai}{v:Value}{l:List ai}(h:VR ρ a v)(z:iR a=some l):bR ρ l v.cells.toList∧l.all eQ=true:=by
 have one:∀{x:ai}{y:Value},VR ρ x y→y.cells=#[y]→eQ x=true→l=[x]→bR ρ l y.cells.toList∧l.all eQ=true:=by
  intro x y A G I L;subst L;rw[G];exact⟨⟨y,[],rfl,A,rfl⟩,by simp[I]⟩
 cases a<;>simp only[iR,eE,reduceCtorEq] at z
 case agg cs=>
  simp only[VR] at h;obtain⟨vs,rfl,M,ho⟩:=h;subst z;exact⟨M,ho⟩
 case bool b=>exact one h (by simp only[VR] at h;subst h;rfl) rfl z.symm
 case int k n=>exact one h (by simp only[VR] at h;subst h;rfl) rfl z.symm
 case str k n=>exact one h (by simp only[VR] at h;obtain⟨b,rfl,_⟩:=h;rfl) rfl z.symm
 case ptr f g o=>exact one h (by simp only[VR] at h;obtain⟨b,_,rfl⟩:=h;rfl) rfl z.symm
 case mT=>exact one h (by simp only[VR] at h;subst h;rfl) rfl z.symm
 case slice f g o l es=>exact one h (by simp only[VR] at h;obtain⟨_,_,_,_,rfl,_⟩:=h;rfl) rfl z.symm
 case fV=>exact one h (by simp only[VR] at h;subst h;rfl) rfl z.symm
 case func f fs c=>exact one h (by simp only[VR] at h;obtain⟨_,_,rfl,_⟩:=h;rfl) rfl z.symm
 case nF=>exact one h (by simp only[VR] at h;subst h;rfl) rfl z.symm
 case iface t x=>exact one h (by simp only[VR] at h;obtain⟨_,rfl,_⟩:=h;rfl) rfl z.symm
 case kJ=>exact one h (by simp only[VR] at h;subst h;rfl) rfl z.symm
 case map f=>exact one h (by simp only[VR] at h;obtain⟨a,rfl⟩:=h;rfl) rfl z.symm
 case vl=>exact one h (by simp only[VR] at h;subst h;rfl) rfl z.symm
theorem VR.noAgg{ρ:Ho}{a:ai}{v:Value}(h:VR ρ a v)(z:eQ a=true):(∀cs,v≠.agg cs)∧(∀cs,v≠.tuple cs):=by
 cases a<;>simp only[VR,eQ,gA] at h z
 all_goals first
  |(subst h;exact⟨fun _=>by simp,fun _=>by simp⟩)
  |(obtain⟨_,rfl⟩:=h;exact⟨fun _=>by simp,fun _=>by simp⟩)
  |(obtain⟨_,rfl,_⟩:=h;exact⟨fun _=>by simp,fun _=>by simp⟩)
  |(obtain⟨_,_,rfl⟩:=h;exact⟨fun _=>by simp,fun _=>by simp⟩)
  |(obtain⟨_,_,rfl,_⟩:=h;exact⟨fun _=>by simp,fun _=>by simp⟩)
  |(obtain⟨_,_,_,_,rfl,_⟩:=h;exact⟨fun _=>by simp,fun _=>by simp⟩)
structure HP(ρ:Ho)(w:World)(h:Hm)(g elem es n fl:Nat)(cs:RT):Prop where
 row:∃c fz,w.heap[h.bG]?=some (.cells c elem fz)∧h.off+h.room≤c.size
 fits:g*es≤h.room
 cell:∀i,i<g→∃l,cs.get i=some l∧l.length=es∧∀j x,l[j]?=some x→eQ x=true∧∃cv,w.cell? ⟨h.bG,h.off+i*es+j,none⟩=some cv∧VR ρ x cv
 DA:fl=0→∀i,i<h.room→w.frozen? ⟨h.bG,h.off+i,none⟩=false
 DB:fl≠1→∀i,n*es≤i→i<h.room→w.frozen? ⟨h.bG,h.off+i,none⟩=false
 I3:fl=0∨fl=2→h.off=0
 JT:fl=0∨fl=2→∀c e fz,w.heap[h.bG]?=some (.cells c e fz)→fz.1=fz.2∨fz.2≤n*es
def A0(ρ:Ho)(w:World)(h:Hm)(g:Nat):cX→Prop
 |.row elem es _ n lo fl cs=>0<es∧(h.ro=true→fl=1)∧g≤n∧(lo≤g→g≤n→HP ρ w h g elem es n fl cs)
 |.map _=>False
def EV(ρ:Ho)(w:World)(f:Nat)(h:Hm):Prop:=(∀g' h',ρ f g'=some h'→h'.ro=true)∧∃z A,w.cell? ⟨h.bG,h.off,none⟩=some (.iface z A)
structure R(ρ:Ho)(C:Nat→Option cX)(w:World):Prop where
 obj:∀f o,C f=some o→∀g h,ρ f g=some h→A0 ρ w h g o
 oY:∀f g h f' g' h',ρ f g=some h→ρ f' g'=some h'→f≠f'→h.bG=h'.bG→h.ro=true∧h'.ro=true
 hU:∀f g h,ρ f g=some h→h.bG<w.heap.size
 uniq:∀f g h g' h',ρ f g=some h→ρ f g'=some h'→h.bG=h'.bG→h.off=h'.off
 bK:∀f g h,ρ f g=some h→h.ro=true→h.bK=true→EV ρ w f h
structure Ext(W:Nat→Prop)(n0 n1:Nat)(ρ ρ':Ho)(w w':World):Prop where
 le:ρ.le ρ'
 gE:∀f g h,ρ' f g=some h→(∃g0 h0,ρ f g0=some h0)∨(n0≤f∧f<n1)
 bG:∀f g h,ρ' f g=some h→ρ f g=some h∨(w.heap.size≤h.bG∧h.ro=false)∨(∃g0 h0,ρ f g0=some h0∧h0.bG=h.bG∧h0.ro=h.ro)
 frame:∀b,b<w.heap.size→(∀f g h,ρ f g=some h→h.ro=false→W f→h.bG≠b)→w'.heap[b]?=w.heap[b]?
 size:w.heap.size≤w'.heap.size
 nn:n0≤n1
 os:w'.os=w.os
 tape:w'.tape=w.tape
 output:w'.output=w.output
theorem Ext.refl(W:Nat→Prop)(n:Nat)(ρ:Ho)(w:World):Ext W n n ρ ρ w w:=
 ⟨Ho.le_refl _,fun f g h e=>.inl ⟨g,h,e⟩,fun _ _ _ e=>.inl e,fun _ _ _=>rfl,bd _,bd _,rfl,rfl,rfl⟩
theorem Ext.mono{W z:Nat→Prop}{n0 n1:Nat}{ρ ρ':Ho}{w w':World}(h:Ext W n0 n1 ρ ρ' w w')(A:∀f,W f→z f):Ext z n0 n1 ρ ρ' w w':=
 ⟨h.le,h.gE,h.bG,fun b G k=>h.frame b G fun f g x I L M=>k f g x I L (A f M),h.size,h.nn,h.os,h.tape,h.output⟩
theorem Ext.trans{W:Nat→Prop}{n0 n1 U:Nat}{ρ z A:Ho}{w Y Z:World}(h:Ext W n0 n1 ρ z w Y)(k:Ext W n1 U z A Y Z):Ext W n0 U ρ A w Z:=by
 refine⟨Ho.le_trans h.le k.le,?_,?_,?_,eT h.size k.size,eT h.nn k.nn,k.os.trans h.os,k.tape.trans h.tape,k.output.trans h.output⟩
 ·intro f g x G;have h1:=h.nn;have h2:=k.nn;rcases k.gE f g x G with⟨g0,h0,e⟩|⟨a,b⟩
  ·rcases h.gE f g0 h0 e with e|⟨a,b⟩
   ·exact .inl e
   exact .inr ⟨a,an⟩
  exact .inr ⟨an,b⟩
 ·intro f g x G;rcases k.bG f g x G with e|⟨a,b⟩|⟨g0,h0,e,I,L⟩
  ·exact h.bG f g x e
  ·exact .inr (.inl ⟨eT h.size a,b⟩)
  rcases h.bG f g0 h0 e with M|⟨a,b⟩|⟨g1,h1,M,e3,e4⟩
  ·exact .inr (.inr ⟨g0,h0,M,I,L⟩)
  ·exact .inr (.inl ⟨I▸a,L▸b⟩)
  exact .inr (.inr ⟨g1,h1,M,e3.trans I,e4.trans L⟩)
 intro b hb O;rw[k.frame b (jn hb h.size) ?_,h.frame b hb O];intro f g x G hr hw;rcases h.bG f g x G with e|⟨a,_⟩|⟨g0,h0,e,I,L⟩
 ·exact O f g x e hr hw
 ·intro hh;omega
 exact I▸O f g0 h0 e (L.trans hr) hw
theorem cell_of_heap{w w':World}{a:Addr}(h:w'.heap[a.block]?=w.heap[a.block]?):w'.cell? a=w.cell? a:=by simp only[World.cell?,h]
theorem EV.gN{ρ:Ho}{w w':World}{f:Nat}{h:Hm}(k:EV ρ w f h)(z:w'.cell? ⟨h.bG,h.off,none⟩=w.cell? ⟨h.bG,h.off,none⟩):EV ρ w' f h:=⟨k.1,by obtain⟨A,G,e⟩:=k.2;exact⟨A,G,z.trans e⟩⟩
theorem frozen_of_heap{w w':World}{a:Addr}(h:w'.heap[a.block]?=w.heap[a.block]?):w'.frozen? a=w.frozen? a:=by simp only[World.frozen?,h]
theorem HP.gN{ρ ρ':Ho}{w w':World}{h:Hm}{g elem es n fl:Nat}{cs:RT}(k:HP ρ w h g elem es n fl cs)(G:ρ.le ρ')(z:w'.heap[h.bG]?=w.heap[h.bG]?):
  HP ρ' w' h g elem es n fl cs:=by
 refine⟨by rw[z];exact k.row,k.fits,fun i hi=>?_,fun h0 i hi=>?_,fun h0 i hi I=>?_,k.I3,fun e c t fz A=>k.JT e c t fz (by rw[←z];exact A)⟩
 ·obtain⟨l,e,L,M⟩:=k.cell i hi;refine⟨l,e,L,fun j x O=>?_⟩;obtain⟨o,cv,A,U⟩:=M j x O;exact⟨o,cv,by rw[cell_of_heap (w:=w) z];exact A,U.mono G⟩
 ·rw[frozen_of_heap (w:=w) z];exact k.DA h0 i hi
 rw[frozen_of_heap (w:=w) z];exact k.DB h0 i hi I
theorem A0.gN{ρ ρ':Ho}{w w':World}{h:Hm}{g:Nat}{o:cX}(k:A0 ρ w h g o)(z:ρ.le ρ')(A:w'.heap[h.bG]?=w.heap[h.bG]?):A0 ρ' w' h g o:=by
 cases o with
 |row elem es aC n lo fl cs=>exact⟨k.1,k.2.1,k.2.2.1,fun a b=>(k.2.2.2 a b).gN z A⟩
 |map es=>exact k
theorem R.weaken{ρ:Ho}{C z:Nat→Option cX}{w:World}(h:R ρ C w)(G:∀f o,z f=some o→(∃g x,ρ f g=some x)→C f=some o):R ρ z w:=
 ⟨fun f o e g x A=>h.obj f o (G f o e ⟨g,x,A⟩) g x A,h.oY,h.hU,h.uniq,h.bK⟩
theorem dM{β:Type}(k e:β):aJ true k e=k:=rfl
theorem chk_false{β:Type}(k e:β):aJ false k e=e:=rfl
theorem tQ{β:Type}(b:Bool)(k e:β):aJ b k e=if b=true then k else e:=by cases b<;>rfl
section
variable{v:ai}{H':ax}{n:Nat}
theorem fQ{b:Bool}{k:aD}(h:aJ b k (.err n)= .ok v H'):b=true∧k= .ok v H':=by
 cases b
 ·cases h
 exact⟨rfl,h⟩
theorem iV{α:Type}{o:Option α}{k:α→aD}(h:ob o (.err n) k= .ok v H'):∃x,o=some x∧k x= .ok v H':=by
 cases o with
 |none=>cases h
 |some x=>exact⟨x,rfl,h⟩
theorem eK{x:aG}{E:Env}{k:ai→aD}(h:bq x E (.err n) k= .ok v H'):∃a,x.ev E=some a∧k a= .ok v H':=by
 cases x with
 |t i=>exact iV h
 |c a=>exact⟨a,rfl,h⟩
theorem onBool_ok{a:ai}{k:Bool→aD}(h:vm a (.err n) k= .ok v H'):∃b,a= .bool b∧k b= .ok v H':=by
 cases a<;>first|cases h;done|exact⟨_,rfl,h⟩
theorem CK{a:ai}{k:IntKind→Int→aD}(h:fG a (.err n) k= .ok v H'):∃b i,a= .int b i∧k b i= .ok v H':=by
 cases a<;>first|cases h;done|exact⟨_,_,rfl,h⟩
theorem KR{a:ai}{k:Nat→Nat→aD}(h:kT a (.err n) k= .ok v H'):∃l s,a= .str l s∧k l s= .ok v H':=by
 cases a<;>first|cases h;done|exact⟨_,_,rfl,h⟩
theorem FE{a:ai}{k:Nat→Nat→Nat→aD}(h:jk a (.err n) k= .ok v H'):∃f g o,a= .ptr f g o∧k f g o= .ok v H':=by
 cases a<;>first|cases h;done|exact⟨_,_,_,rfl,h⟩
theorem xi{a:ai}{e:aD}{k:Nat→Nat→Nat→Nat→Nat→aD}(h:fy a (.err n) e k= .ok v H'):
  (a= .fV∧e= .ok v H')∨∃f g o l es,a= .slice f g o l es∧k f g o l es= .ok v H':=by
 cases a<;>first|cases h;done|exact .inr ⟨_,_,_,_,_,rfl,h⟩|exact .inl ⟨rfl,h⟩
theorem aaC{a:ai}{k:List ai→aD}(h:na a (.err n) k= .ok v H'):∃l,a= .agg l∧k l= .ok v H':=by
 cases a<;>first|cases h;done|exact⟨_,rfl,h⟩
theorem onTuple_ok{a:ai}{k:List ai→aD}(h:vd a (.err n) k= .ok v H'):∃l,a= .tuple l∧k l= .ok v H':=by
 cases a<;>first|cases h;done|exact⟨_,rfl,h⟩
theorem onFunc_ok{a:ai}{k:Nat→List ai→List ai→aD}(h:xF a (.err n) k= .ok v H'):∃f fs l,a= .func f fs l∧k f fs l= .ok v H':=by
 cases a<;>first|cases h;done|exact⟨_,_,_,rfl,h⟩
theorem KS{i:Int}{k:Nat→aD}(h:iU i (.err n) k= .ok v H'):∃m:Nat,i=(m:Int)∧k m= .ok v H':=by
 cases i with
 |ofNat m=>exact⟨m,rfl,h⟩
 |negSucc m=>cases h
theorem pt(l:List ai):gM l=l.length:=by
 induction l with
 |nil=>rfl
 |cons a r z=>show Nat.succ (gM r)=_;rw[z];rfl
theorem LL{a:ai}{m:Nat}{k:Nat→aD}(h:idx a m (.err n) k= .ok v H'):∃z i,a= .int z (i:Nat)∧i<m∧k i= .ok v H':=by
 obtain⟨z,i,rfl,h⟩:=CK h;obtain⟨j,rfl,h⟩:=KS h;obtain⟨A,h⟩:=fQ h;exact⟨z,j,rfl,aV A,h⟩
theorem adR{E:Env}{x:Option aG}{d y:Nat}{k:Nat→aD}(h:dT E x d y (.err n) k= .ok v H'):
  (x=none∧k d= .ok v H')∨∃z A i,x=some z∧z.ev E=some (.int A (i:Nat))∧i≤y∧k i= .ok v H':=by
 cases x with
 |none=>exact .inl ⟨rfl,h⟩
 |some z=>
  obtain⟨a,G,h⟩:=iV h;obtain⟨A,i,rfl,h⟩:=CK h;obtain⟨j,rfl,h⟩:=KS h;obtain⟨I,h⟩:=fQ h;exact .inr ⟨z,A,j,rfl,G,aV I,h⟩
theorem aaD{o:Option cX}{k:Nat→Nat→Nat→Nat→Nat→Nat→RT→aD}(h:kU o (.err n) k= .ok v H'):
  ∃elem es aC m lo fl cs,o=some (.row elem es aC m lo fl cs)∧k elem es aC m lo fl cs= .ok v H':=by
 cases o with
 |none=>cases h
 |some o=>cases o with
  |row=>exact⟨_,_,_,_,_,_,_,rfl,h⟩
  |map=>cases h
theorem RB{agg:Bool}{l:List ai}{k:ai→aD}(h:fT agg l (.err n) k= .ok v H'):
  (agg=true∧k (.agg l)= .ok v H')∨∃x,agg=false∧l=[x]∧k x= .ok v H':=by
 cases agg with
 |true=>exact .inl ⟨rfl,h⟩
 |false=>
  cases l with
  |nil=>cases h
  |cons x r=>cases r with
   |nil=>exact .inr ⟨x,rfl,rfl,h⟩
   |cons y s=>cases h
theorem FF{H:ax}{o:cX}{k:Nat→ax→aD}(h:H.alloc o k= .ok v H'):k H.next ⟨H.next+1,H.aS,H.ws,H.t.set H.next o⟩= .ok v H':=by
 cases H with
 |mk next aS ws t=>
  have h':ch next (fun f=>t.fH f o fun t=>k f ⟨Nat.succ f,aS,ws,t⟩)= .ok v H':=h;rw[fc,GT.jO] at h';exact h'
end
theorem LM(m n:Nat):uE m n=(m:Int) -(n:Int):=by
 unfold uE
 cases h:Nat.ble n m
 ·have:¬n≤m:=fun e=>by rw[fR e] at h;cases h
  show Int.negSucc (n-m-1)=_;rw[lk];omega
 have:n≤m:=aV h;show Int.ofNat (m-n)=_;rw[gm];omega
theorem addI_eq(x y:Int):aiQ x y=x+y:=by
 cases x with
 |ofNat m=>cases y with
  |ofNat n=>rfl
  |negSucc n=>show uE m (n+1)=_;rw[LM,lk,gm];omega
 |negSucc m=>cases y with
  |ofNat n=>show uE n (m+1)=_;rw[LM,lk,gm];omega
  |negSucc n=>show Int.negSucc (m+n+1)=_;rw[lk,lk,lk];omega
theorem subI_eq(x y:Int):aiR x y=x-y:=by
 cases x with
 |ofNat m=>cases y with
  |ofNat n=>show uE m n=_;rw[LM];rfl
  |negSucc n=>show Int.ofNat (m+(n+1))=_;rw[lk,gm,gm];omega
 |negSucc m=>cases y with
  |ofNat n=>show Int.negSucc (m+n)=_;rw[lk,lk,gm];omega
  |negSucc n=>show uE n m=_;rw[LM,lk,lk];omega
theorem LN(x y:Int):JQ x y=fu x y:=by cases x<;>cases y<;>rfl
theorem adS(x y:Int):Xj x y=mF x y:=by cases x<;>cases y<;>rfl
theorem w64_eq(n:Int):w64 n=IntKind.wrap .i64 n:=by
 cases n with
 |ofNat m=>
  show Bool.rec (motive:=fun _=>Int) (IntKind.wrap .i64 (.ofNat m)) (.ofNat m) (Nat.ble m 9223372036854775807)=_
  cases h:Nat.ble m 9223372036854775807
  ·rfl
  have:=aV h;exact(IntWalk.i64_in (Int.ofNat m) (by simp only[gm];omega)).symm
 |negSucc m=>
  show Bool.rec (motive:=fun _=>Int) (IntKind.wrap .i64 (.negSucc m)) (.negSucc m) (Nat.ble m 9223372036854775807)=_
  cases h:Nat.ble m 9223372036854775807
  ·rfl
  have:=aV h;exact(IntWalk.i64_in (Int.negSucc m) (by rw[lk];omega)).symm
theorem MF(mx:Nat)(k:IntKind)(z:∀n:Int,0≤n∧n≤mx→k.wrap n=n)(n:Int):wU mx k n=IntKind.wrap k n:=by
 cases n with
 |ofNat m=>
  show Bool.rec (motive:=fun _=>Int) (IntKind.wrap k (.ofNat m)) (.ofNat m) (Nat.ble m mx)=_
  cases h:Nat.ble m mx
  ·rfl
  have:=aV h;exact(z (Int.ofNat m) (by simp only[gm];omega)).symm
 |negSucc m=>rfl
theorem wrapQ_eq(k:IntKind)(n:Int):Ua k n=k.wrap n:=by
 cases k with
 |i8=>rfl
 |i16=>rfl
 |i32=>rfl
 |i64=>exact w64_eq n
 |u8=>exact MF _ _ IntWalk.u8_in n
 |u16=>exact MF _ _ IntWalk.u16_in n
 |u32=>exact MF _ _ IntWalk.u32_in n
 |u64=>exact MF _ _ IntWalk.u64_in n
theorem oz(k:IntKind)(n:Int):mf k n=k.wrap n:=by
 unfold mf
 split
 ·rename_i m
  split
  ·rename_i h;have h:=aV h;exact(IntWalk.i64_in (Int.ofNat m) (by simp only[gm];omega)).symm
  rfl
 ·rename_i m
  split
  ·rename_i h;have h:=aV h;exact(IntWalk.i64_in (Int.negSucc m) (by rw[lk];omega)).symm
  rfl
 rfl
theorem ZI{f:Int→Int→Int}{op:BinOp}(h:∀k a G b,fZ op k a G b=aJ (Nat.beq (cS k) (cS G)) (some (.int k (mf k (f a b)))) none)(a b:ai)(k:ai→aD):Sr f op a b k=nM op a b k:=by
 cases a<;>try rfl
 cases b<;>try rfl
 rename_i z x A y;show aJ (Nat.beq (cS z) (cS A)) (mb (Ua z (f x y)) fun r=>k (.int z r)) (.err 6)=ob (fZ op z x A y) (.err 6) fun v=>mU v k
 rw[h,xj,wrapQ_eq,←oz]
 cases Nat.beq (cS z) (cS A)
 ·rfl
 exact(xk (.int z (mf z (f x y))) k).symm
theorem CR{f:Int→Int→Bool}{op:BinOp}(h:∀k a G b,fZ op k a G b=aJ (Nat.beq (cS k) (cS G)) (some (.bool (f a b))) none)(a b:ai)(k:ai→aD):Bx f op a b k=nM op a b k:=by
 cases a<;>try rfl
 cases b<;>try rfl
 rename_i A x z y;show aJ (Nat.beq (cS A) (cS z)) (po (f x y) fun r=>k (.bool r)) (.err 6)=ob (fZ op A x z y) (.err 6) fun v=>mU v k
 rw[h]
 cases Nat.beq (cS A) (cS z)
 ·rfl
 refine Eq.trans ?_ (xk (.bool (f x y)) k).symm;show po (f x y) (fun r=>k (.bool r))=_
 cases f x y<;>rfl
theorem K8(op:BinOp)(a b:ai)(k:ai→aD):Ej op a b k=ob (Ei op a b) (.err 6) fun v=>mU v k:=by
 cases op with
 |add=>exact ZI (fun k a z b=>by rw[addI_eq];rfl) a b k
 |sub=>exact ZI (fun k a z b=>by rw[subI_eq];rfl) a b k
 |eql=>exact CR (fun k a z b=>by rw[adS];rfl) a b k
 |neq=>exact CR (fun k a z b=>by unfold neI;rw[adS];rfl) a b k
 |lss=>exact CR (fun k a z b=>by rw[LN];rfl) a b k
 |leq=>exact CR (fun k a z b=>by unfold leI;rw[LN];rfl) a b k
 |gtr=>exact CR (fun k a z b=>by unfold gtI;rw[LN];rfl) a b k
 |geq=>exact CR (fun k a z b=>by unfold geI;rw[LN];rfl) a b k
 |mul=>rfl
 |quo=>rfl
 |rem=>rfl
 |and=>rfl
 |or=>rfl
 |xor=>rfl
 |shl=>rfl
 |shr=>rfl
 |andNot=>rfl
structure VA(H:ax)(f g off n:Nat)(l:List ai):Prop where
 ex:∃elem es aC m lo fl cs x,H.t.get f=some (.row elem es aC m lo fl cs)∧lo≤g∧g≤m∧off % es+n≤es∧off/es<g∧cs.get (off/es)=some x∧
  ((l=x∧n=es)∨l=(x.drop (off % es)).take n)
theorem Uf{β:Type}{H:ax}{f g off n:Nat}{e:β}{k:List ai→β}{r:β}(h:rd H f g off n e k=r)(z:e≠r):∃l,VA H f g off n l∧k l=r:=by
 unfold rd at h
 cases ho:H.t.get f with
 |none=>rw[ho] at h;exact absurd h z
 |some o=>
  rw[ho] at h
  cases o with
  |map=>exact absurd h z
  |row elem es aC m lo fl cs=>
   simp only[kU,tQ] at h
   split at h
   ·rename_i O
    split at h
    ·rename_i h2
     split at h
     ·rename_i U
      split at h
      ·rename_i Y
       cases A:cs.get (Nat.div off es) with
       |none=>rw[A] at h;exact absurd h z
       |some x=>
        rw[A] at h;simp only[ob] at h;have G:=aV O;have I:=aV h2;have L:=aV U;have M:=aV Y
        split at h
        ·rename_i Z;exact⟨x,⟨_,_,_,_,_,_,_,x,ho,G,I,L,M,A,.inl ⟨rfl,cW Z⟩⟩,h⟩
        exact⟨_,⟨_,_,_,_,_,_,_,x,ho,G,I,L,M,A,.inr rfl⟩,h⟩
      exact absurd h z
     exact absurd h z
    exact absurd h z
   exact absurd h z
theorem KT(f:Nat)(l:List Nat):pO f l=true↔f∈l:=by
 induction l with
 |nil=>simp[pO]
 |cons x r z=>
  show aJ (Nat.beq f x) true (pO f r)=true↔_;rw[tQ]
  by_cases h:f=x
  ·simp[h]
  have:¬(Nat.beq f x=true):=by simpa[uD] using h
  simp[h,this,z]
theorem xl(f aS:Nat)(ws:List Nat)(x:Nat):x∈wrote f aS ws↔x∈ws∨(x=f∧f<aS):=by
 unfold wrote;rw[tQ,tQ]
 by_cases h:aS≤f
 ·rw[bg (fR h)];constructor
  ·exact .inl
  rintro(z|⟨_,z⟩)
  ·exact z
  omega
 have G:¬(Nat.ble aS f=true):=by simpa using h
 rw[aX G]
 by_cases A:pO f ws=true
 ·rw[bg A];rw[KT] at A;constructor
  ·exact .inl
  rintro(z|⟨rfl,_⟩)
  ·exact z
  exact A
 rw[aX A];simp only[sv];constructor
 ·rintro(rfl|z)
  ·exact .inr ⟨rfl,an⟩
  exact .inl z
 rintro(z|⟨rfl,_⟩)
 ·exact .inr z
 exact .inl rfl
structure aiS(H:ax)(f g off n:Nat)(new:List ai)(H':ax):Prop where
 ex:∃elem es aC lo cs x,H.t.get f=some (.row elem es aC g lo 0 cs)∧lo≤g∧off % es+n≤es∧off/es<g∧new.length=n∧cs.get (off/es)=some x∧
  H'=⟨H.next,H.aS,wrote f H.aS H.ws,H.t.set f (.row elem es aC g g 0 (cs.set (off/es) (if n=es then new else en x (off % es) new)))⟩
theorem A1{H:ax}{f g off n m:Nat}{new:List ai}{k:ax→aD}{v:ai}{H':ax}(h:wr H f g off n new (.err m) k= .ok v H'):∃H1,aiS H f g off n new H1∧k H1= .ok v H':=by
 cases H with
 |mk next aS ws t=>
  have h:=aaD h;obtain⟨elem,es,aC,mm,lo,fl,cs,ho,h⟩:=h;obtain⟨z,h⟩:=fQ h;obtain⟨h2,h⟩:=fQ h;obtain⟨I,h⟩:=fQ h;obtain⟨L,h⟩:=fQ h;obtain⟨M,h⟩:=fQ h;obtain⟨O,h⟩:=fQ h;obtain⟨x,U,A⟩:=iV h;rw[RT.jO,GT.jO] at A;have Y:=cW z;have Z:=cW h2;have G:=cW O;rw[pt] at G;clear h z h2;subst Y Z;refine⟨_,⟨elem,es,aC,lo,cs,x,ho,aV I,aV L,aV M,G,U,?_⟩,A⟩;rw[tQ];simp only[uD];rfl
structure eH(H H':ax):Prop where
 next:H.next≤H'.next
 aS:H'.aS=H.aS
 ws:∀f,f∈H.ws→f∈H'.ws
 same:∀f,f<H.aS→f∉H'.ws→H'.t.get f=H.t.get f
 wf:(∀f,H.next≤f→H.t.get f=none)→∀f,H'.next≤f→H'.t.get f=none
 gN:∀f,H.t.get f≠none→H'.t.get f≠none
theorem eH.refl(H:ax):eH H H:=⟨bd _,rfl,fun _ h=>h,fun _ _ _=>rfl,fun h=>h,fun _ h=>h⟩
theorem eH.trans{A B C:ax}(h:eH A B)(k:eH B C):eH A C:=
 ⟨eT h.next k.next,k.aS.trans h.aS,fun f z=>k.ws f (h.ws f z),fun f z G=>(k.same f (h.aS▸z) G).trans (h.same f z fun e=>G (k.ws f e)),fun x=>k.wf (h.wf x),fun f x=>k.gN f (h.gN f x)⟩
theorem eH.alloc{H:ax}(o:cX)(A:H.aS≤H.next):eH H ⟨H.next+1,H.aS,H.ws,H.t.set H.next o⟩:=
 ⟨Bq _,rfl,fun _ h=>h,fun f z _=>by show(H.t.set H.next o).get f=_;rw[GT.df,aX an],
  fun h f z=>by
  have z:H.next+1≤f:=z;show(H.t.set H.next o).get f=none;rw[GT.df,aX an];exact h f an,
  fun f z=>by
  show(H.t.set H.next o).get f≠none;rw[GT.df]
  split
  ·simp
  exact z⟩
theorem eH.write{H:ax}(f:Nat)(o:cX){A:cX}(h0:H.t.get f=some A):eH H ⟨H.next,H.aS,wrote f H.aS H.ws,H.t.set f o⟩:=
 ⟨bd _,rfl,fun x z=>(xl _ _ _ _).2 (.inl z),fun x z G=>by
  show(H.t.set f o).get x=_;rw[GT.df]
  split
  ·rename_i e;subst e;exact absurd ((xl _ _ _ _).2 (.inr ⟨rfl,z⟩)) G
  ·rfl,fun h x z=>by
  have z:H.next≤x:=z;show(H.t.set f o).get x=none;rw[GT.df]
  split
  ·rename_i e;subst e;rw[h x z] at h0;cases h0
  ·exact h x z,fun x z=>by
  show(H.t.set f o).get x≠none;rw[GT.df]
  split
  ·simp
  exact z⟩
def TM(H:ax)(r:aD):Prop:=∀v H',r= .ok v H'→eH H H'
theorem TM.err{H:ax}{n:Nat}:TM H (.err n):=fun _ _ h=>by cases h
theorem TM.ok{H:ax}{v:ai}:TM H (.ok v H):=fun _ _ h=>by cases h;exact eH.refl _
theorem TM.aJ{H:ax}{b:Bool}{k e:aD}(h:TM H k)(h':TM H e):TM H (aJ b k e):=by cases b;exact h';exact h
theorem TM.ob{H:ax}{α:Type}{o:Option α}{e:aD}{k:α→aD}(h:∀x,TM H (k x))(h':TM H e):TM H (ob o e k):=by cases o;exact h';exact h _
theorem TM.bq{H:ax}{x:aG}{E:Env}{e:aD}{k:ai→aD}(h:∀x,TM H (k x))(h':TM H e):TM H (bq x E e k):=by
 cases x with
 |t i=>exact TM.ob (o:=E.get i) h h'
 |c a=>exact h a
theorem TM.vm{H:ax}{a:ai}{e:aD}{k:Bool→aD}(h:∀x,TM H (k x))(h':TM H e):TM H (vm a e k):=by cases a<;>first|exact h'|exact h _
theorem TM.fG{H:ax}{a:ai}{e:aD}{k:IntKind→Int→aD}(h:∀x y,TM H (k x y))(h':TM H e):TM H (fG a e k):=by cases a<;>first|exact h'|exact h _ _
theorem TM.kT{H:ax}{a:ai}{e:aD}{k:Nat→Nat→aD}(h:∀x y,TM H (k x y))(h':TM H e):TM H (kT a e k):=by cases a<;>first|exact h'|exact h _ _
theorem TM.jk{H:ax}{a:ai}{e:aD}{k:Nat→Nat→Nat→aD}(h:∀x y z,TM H (k x y z))(h':TM H e):TM H (jk a e k):=by cases a<;>first|exact h'|exact h _ _ _
theorem TM.fy{H:ax}{a:ai}{e A:aD}{k:Nat→Nat→Nat→Nat→Nat→aD}(h:∀x y z u w,TM H (k x y z u w))(h2:TM H A)(h':TM H e):TM H (fy a e A k):=by cases a<;>first|exact h'|exact h2|exact h _ _ _ _ _
theorem TM.na{H:ax}{a:ai}{e:aD}{k:List ai→aD}(h:∀x,TM H (k x))(h':TM H e):TM H (na a e k):=by cases a<;>first|exact h'|exact h _
theorem TM.vd{H:ax}{a:ai}{e:aD}{k:List ai→aD}(h:∀x,TM H (k x))(h':TM H e):TM H (vd a e k):=by cases a<;>first|exact h'|exact h _
theorem TM.xF{H:ax}{a:ai}{e:aD}{k:Nat→List ai→List ai→aD}(h:∀x y z,TM H (k x y z))(h':TM H e):TM H (xF a e k):=by cases a<;>first|exact h'|exact h _ _ _
theorem TM.iU{H:ax}{i:Int}{e:aD}{k:Nat→aD}(h:∀x,TM H (k x))(h':TM H e):TM H (iU i e k):=by cases i;exact h _;exact h'
theorem TM.idx{H:ax}{a:ai}{n:Nat}{e:aD}{k:Nat→aD}(h:∀x,TM H (k x))(h':TM H e):TM H (idx a n e k):=TM.fG (fun _ _=>TM.iU (fun _=>TM.aJ (h _) h') h') h'
theorem TM.dT{H:ax}{E:Env}{x:Option aG}{d y:Nat}{e:aD}{k:Nat→aD}(h:∀x,TM H (k x))(h':TM H e):TM H (dT E x d y e k):=by
 cases x with
 |none=>exact h _
 |some z=>exact TM.ob (fun _=>TM.fG (fun _ _=>TM.iU (fun _=>TM.aJ (h _) h') h') h') h'
theorem TM.kU{H:ax}{o:Option cX}{e:aD}{k:Nat→Nat→Nat→Nat→Nat→Nat→RT→aD}(h:∀a b c d e f g,TM H (k a b c d e f g))(h':TM H e):TM H (kU o e k):=by
 cases o with
 |none=>exact h'
 |some o=>cases o with
  |row=>exact h _ _ _ _ _ _ _
  |map=>exact h'
theorem TM.fT{H:ax}{agg:Bool}{l:List ai}{e:aD}{k:ai→aD}(h:∀x,TM H (k x))(h':TM H e):TM H (fT agg l e k):=by
 refine TM.aJ (h _) ?_
 cases l with
 |nil=>exact h'
 |cons x r=>cases r with
  |nil=>exact h _
  |cons=>exact h'
theorem TM.ch{H:ax}{n:Nat}{k:Nat→aD}(h:∀x,TM H (k x)):TM H (ch n k):=by rw[fc];exact h _
theorem TM.mb{H:ax}{n:Int}{k:Int→aD}(h:∀x,TM H (k x)):TM H (mb n k):=by rw[xj];exact h _
theorem TM.mU{H:ax}{n:ai}{k:ai→aD}(h:∀x,TM H (k x)):TM H (mU n k):=by rw[xk];exact h _
theorem TM.po{H:ax}{n:Bool}{k:Bool→aD}(h:∀x,TM H (k x)):TM H (po n k):=by cases n<;>exact h _
theorem TM.Ej{H:ax}{op:BinOp}{a b:ai}:TM H (Ej op a b fun v=>.ok v H):=by rw[K8];exact TM.ob (fun _=>TM.mU fun _=>TM.ok) TM.err
theorem TM.Bz{H:ax}{t:HT}{n:Nat}{o:cX}{k:HT→aD}(h:TM H (k (t.set n o))):TM H (t.fH n o k):=by rw[GT.jO];exact h
theorem TM.fill{H:ax}{l:List (List ai)}{t:RT}{i:Nat}{k:RT→aD}(h:TM H (k (gJ l t i))):TM H (xW l t i k):=by rw[CI];exact h
theorem TM.rep{H:ax}{x:List ai}{n:Nat}{k:RT→aD}(h:TM H (k (oI x n))):TM H (By x n k):=by rw[K4];exact h
theorem TM.alloc{H:ax}{o:cX}{k:Nat→ax→aD}(G:H.aS≤H.next)(I:∀f z,∃v,k f z= .ok v z):TM H (H.alloc o k):=fun x H' h=>by
 have A:=FF h;obtain⟨v,L⟩:=I H.next ⟨H.next+1,H.aS,H.ws,H.t.set H.next o⟩;rw[L] at A;cases A;exact eH.alloc o G
theorem TM.rd{H:ax}{f g off n:Nat}{e:aD}{k:List ai→aD}(h:∀x,TM H (k x))(h':TM H e):TM H (rd H f g off n e k):=
 TM.kU (fun _ _ _ _ _ _ _=>TM.aJ (TM.aJ (TM.aJ (TM.aJ (TM.ob (fun _=>TM.aJ (h _) (h _)) h') h') h') h') h') h'
theorem TM.wrK{H:ax}{f g off n m:Nat}{new:List ai}{k:ax→aD}(A:∀z,∃v,k z= .ok v z):TM H (wr H f g off n new (.err m) k):=fun x H' h=>by
 obtain⟨H1,⟨_,_,_,_,_,_,G,_,_,_,_,_,e⟩,h⟩:=A1 h;obtain⟨v,I⟩:=A H1;rw[I] at h
 cases h
 subst e;exact eH.write f _ G
theorem TM.i7{H:ax}{elem es aC n:Nat}{new:List (List ai)}{x:ai}(z:H.aS≤H.next):TM H (i7 elem es aC n new H x):=by
 cases n with
 |zero=>exact TM.fy (fun _ _ _ _ _=>TM.ok) TM.ok TM.err
 |succ n=>
  refine TM.fy (fun f g off G c6=>?_) (TM.aJ (TM.fill (TM.alloc z (fun _ _=>⟨_,rfl⟩))) TM.err) TM.err;refine TM.aJ ?_ (TM.aJ (TM.aJ (TM.aJ (TM.aJ ?_ TM.err) TM.err) TM.err) TM.err)
  rotate_left
  ·cases new with
   |nil=>exact TM.err
   |cons row r=>exact TM.wrK (fun _=>⟨_,rfl⟩)
  cases H with
  |mk next aS ws t=>
   show TM _ (Ev.kU (t.get f) _ _)
   cases A:t.get f with
   |none=>exact TM.err
   |some ob=>cases ob with
    |map=>exact TM.err
    |row I L M O U a6 Y=>
   refine TM.aJ (TM.aJ (TM.aJ (TM.aJ (TM.aJ (TM.aJ (TM.aJ TM.err (TM.aJ (TM.aJ (TM.ch fun _=>TM.fill (TM.Bz ?_)) TM.err) TM.err)) TM.err) TM.err) TM.err) TM.err) TM.err) TM.err;exact fun v H' h=>by cases h;exact eH.write (H:=⟨next,aS,ws,t⟩) f _ A
theorem TM.wr{H:ax}{f g off n:Nat}{new:List ai}{v:ai}:TM H (wr H f g off n new (.err 5) fun H=>.ok v H):=fun x H' h=>by
 obtain⟨H1,⟨_,_,_,_,_,_,z,_,_,_,_,_,e⟩,h⟩:=A1 h
 cases h
 subst e;exact eH.write f _ z
theorem TM.clr{f g es:Nat}{z:List ai}:∀{n off:Nat}{H:ax},TM H (rn f g es z n off H)
 |0,_,_=>TM.ok
 |n+1,off,H=>fun x H' h=>by
  have h:Go.Ev.wr H f g off es z (aD.err 28) (fun H=>Go.Ev.ch (Nat.add off es) fun off=>rn f g es z n off H)=aD.ok x H':=h;obtain⟨H1,⟨_,_,_,_,_,_,A,_,_,_,_,_,e⟩,h⟩:=A1 h;rw[fc] at h;have h2:=TM.clr (n:=n) x H' h;subst e;exact(eH.write f _ A).trans h2
theorem TM.pN{H:ax}{a b c:Nat}{d:List ai}{E:Env}(z:H.aS≤H.next):TM H (AZ a b c d E H):=
 TM.alloc (o:=.row a b c 1 1 0 (.one d)) (k:=fun f H=>.ok (.ptr f 1 0) H) z (fun _ _=>⟨_,rfl⟩)
theorem TM.mG{H:ax}{f e:Nat}{v:ai}:TM H (mG f e H fun H=>.ok v H):=by
 cases H with
 |mk next aS ws t=>
  show TM _ (Ev.kU (t.get f) _ _)
  cases z:t.get f with
  |none=>exact TM.err
  |some ob=>cases ob with
   |map=>exact TM.err
   |row A G I L M a6 O=>
   refine TM.aJ (TM.aJ (TM.aJ (TM.Bz ?_) TM.err) TM.err) TM.err;exact fun v H' h=>by cases h;exact eH.write (H:=⟨next,aS,ws,t⟩) f _ z
theorem TM.ins{call:dQ}{H:ax}(z:H.aS≤H.next)(A:∀f a,TM H (call f a H))(E:Env)(o:br):TM H (o.ev call E H):=by
 cases o with
 |eb x=>exact TM.bq (fun _=>TM.ok) TM.err
 |pick c a b=>exact TM.bq (fun _=>TM.vm (fun _=>TM.aJ (TM.bq (fun _=>TM.ok) TM.err) (TM.bq (fun _=>TM.ok) TM.err)) TM.err) TM.err
 |pN a b c d=>exact TM.pN (E:=E) z
 |box a b c d=>exact TM.bq (fun _=>TM.ob (fun _=>TM.aJ (TM.pN (E:=E) z) TM.err) TM.err) TM.err
 |load a b c=>exact TM.bq (fun _=>TM.jk (fun _ _ _=>TM.rd (fun _=>TM.fT (fun _=>TM.ok) TM.err) TM.err) TM.err) TM.err
 |store a b c=>exact TM.bq (fun _=>TM.jk (fun _ _ _=>TM.bq (fun _=>TM.ob (fun _=>TM.wr) TM.err) TM.err) TM.err) TM.err
 |bin op x y=>exact TM.bq (fun _=>TM.bq (fun _=>TM.Ej) TM.err) TM.err
 |eqv c n x y=>exact TM.bq (fun _=>TM.bq (fun _=>TM.ob (fun _=>TM.po fun _=>TM.ok) TM.err) TM.err) TM.err
 |un op x=>exact TM.bq (fun _=>TM.ob (fun _=>TM.mU fun _=>TM.ok) TM.err) TM.err
 |eY x k=>exact TM.bq (fun _=>TM.jk (fun _ _ _=>TM.ch fun _=>TM.ok) TM.err) TM.err
 |sub x a b c=>exact TM.bq (fun _=>TM.na (fun _=>TM.aJ (TM.fT (fun _=>TM.ok) TM.err) TM.err) TM.err) TM.err
 |An a b x i=>exact TM.bq (fun _=>TM.jk (fun _ _ _=>TM.bq (fun _=>TM.idx (fun _=>TM.ch fun _=>TM.ok) TM.err) TM.err) TM.err) TM.err
 |kr a x i=>exact TM.bq (fun _=>TM.fy (fun _ _ _ _ _=>TM.bq (fun _=>TM.idx (fun _=>TM.ch fun _=>TM.ok) TM.err) TM.err) TM.err TM.err) TM.err
 |C2 a b c x i=>exact TM.bq (fun _=>TM.na (fun _=>TM.bq (fun _=>TM.idx (fun _=>TM.aJ (TM.fT (fun _=>TM.ok) TM.err) TM.err) TM.err) TM.err) TM.err) TM.err
 |Ao x i=>exact TM.bq (fun _=>TM.kT (fun _ _=>TM.bq (fun _=>TM.idx (fun _=>TM.ch fun _=>TM.ok) TM.err) TM.err) TM.err) TM.err
 |HC x a b=>exact TM.bq (fun _=>TM.kT (fun _ _=>TM.dT (fun _=>TM.dT (fun _=>TM.ch fun _=>TM.ch fun _=>TM.ok) TM.err) TM.err) TM.err) TM.err
 |sE n x a b=>exact TM.bq (fun _=>TM.fy (fun _ _ _ _ _=>TM.aJ (TM.dT (fun _=>TM.dT (fun _=>TM.ch fun _=>TM.ch fun _=>TM.ok) TM.err) TM.err) TM.err) (TM.dT (fun _=>TM.dT (fun _=>TM.ok) TM.err) TM.err) TM.err) TM.err
 |ER n x a b c=>exact TM.bq (fun _=>TM.fy (fun _ _ _ _ _=>TM.aJ (TM.dT (fun _=>TM.aJ (TM.dT (fun _=>TM.dT (fun _=>TM.ch fun _=>TM.ch fun _=>TM.ok) TM.err) TM.err) TM.err) TM.err) TM.err) TM.err TM.err) TM.err
 |vS x i=>exact TM.bq (fun _=>TM.vd (fun _=>TM.ob (fun _=>TM.ok) TM.err) TM.err) TM.err
 |sj x=>exact TM.bq (fun _=>TM.aJ TM.ok TM.err) TM.err
 |yF f fs l=>exact TM.ob (fun _=>TM.ob (fun _=>TM.ok) TM.err) TM.err
 |vT a b c d e f=>exact TM.bq (fun _=>TM.fG (fun _ _=>TM.iU (fun _=>TM.bq (fun _=>TM.fG (fun _ _=>TM.iU (fun _=>TM.aJ (TM.aJ (TM.aJ (TM.rep (TM.alloc z (fun _ _=>⟨_,rfl⟩))) TM.err) TM.err) TM.err) TM.err) TM.err) TM.err) TM.err) TM.err) TM.err
 |build a b=>exact TM.ob (fun _=>TM.ok) TM.err
 |tK a b c d e f=>exact TM.ob (fun _=>TM.alloc z (fun _ _=>⟨_,rfl⟩)) TM.err
 |len x=>exact TM.bq (fun _=>TM.fy (fun _ _ _ _ _=>TM.ok) TM.ok TM.err) TM.err
 |um x=>exact TM.bq (fun _=>TM.kT (fun _ _=>TM.ok) TM.err) TM.err
 |app a b c x y=>exact TM.bq (fun _=>TM.bq (fun _=>TM.fy (fun _ _ _ _ _=>TM.ob (fun _=>TM.i7 z) TM.err) (TM.i7 z) TM.err) TM.err) TM.err
 |xC a x y=>exact TM.bq (fun _=>TM.bq (fun _=>TM.kT (fun _ _=>TM.i7 z) TM.err) TM.err) TM.err
 |copy a b c=>exact TM.bq (fun _=>TM.fy (fun _ _ _ _ _=>TM.bq (fun _=>TM.na (fun _=>TM.aJ (TM.aJ TM.clr TM.err) TM.err) TM.err) TM.err) TM.ok TM.err) TM.err
 |xD a b c=>exact TM.bq (fun _=>TM.fG (fun _ _=>TM.ob (fun _=>TM.ob (fun _=>TM.ok) TM.err) TM.err) TM.err) TM.err
 |conv k x=>exact TM.bq (fun _=>TM.fG (fun _ _=>TM.mb fun _=>TM.ok) TM.err) TM.err
 |xE x=>exact TM.bq (fun _=>TM.fy (fun _ _ _ _ _=>TM.ob (fun _=>TM.ob (fun _=>TM.ch fun _=>TM.ok) TM.err) TM.err) TM.ok TM.err) TM.err
 |call f l=>exact TM.ob (fun _=>A _ _) TM.err
 |sk x l=>exact TM.bq (fun _=>TM.xF (fun _ _ _=>TM.ob (fun _=>A _ _) TM.err) TM.err) TM.err
mutual
theorem KU(ρ:Ho):∀(v:Value)(a:ai),jC v=some a→VR ρ a v
 |.bool b,a,h=>by simp only[jC,eE] at h;subst h;simp[VR]
 |.int k n,a,h=>by simp only[jC,eE] at h;subst h;simp[VR]
 |.float _ _,a,h=>by simp[jC] at h
 |.complex _ _ _,a,h=>by simp[jC] at h
 |.string s,a,h=>by simp only[jC,eE] at h;subst h;simp only[VR];exact⟨s,rfl,rfl,rfl⟩
 |.pointer none,a,h=>by simp only[jC,eE] at h;subst h;simp[VR]
 |.pointer (some _),a,h=>by simp[jC] at h
 |.slice none l c,a,h=>by
  unfold jC at h
  split at h<;>simp_all
  subst h;simp[VR]
 |.slice (some _) _ _,a,h=>by simp[jC] at h
 |.map none,a,h=>by simp only[jC,eE] at h;subst h;simp[VR]
 |.map (some _),a,h=>by simp[jC] at h
 |.chan _,a,h=>by simp[jC] at h
 |.func _ _ _,a,h=>by simp[jC] at h
 |.nilFunc,a,h=>by simp only[jC,eE] at h;subst h;simp[VR]
 |.iface _ _,a,h=>by simp[jC] at h
 |.nilIface,a,h=>by simp only[jC,eE] at h;subst h;simp[VR]
 |.agg ⟨cs⟩,a,h=>by
  unfold jC at h
  split at h
  ·rename_i l z
   split at h
   ·rename_i A
    cases h
    simp only[VR];exact⟨_,rfl,ZJ ρ cs l z,A⟩
   cases h
  cases h
 |.tuple _,a,h=>by simp[jC] at h
theorem ZJ(ρ:Ho):∀(l:List Value)(as:List ai),GF l=some as→bR ρ as l
 |[],as,h=>by simp only[GF,eE] at h;subst h;rfl
 |v::r,as,h=>by
  unfold GF at h
  split at h
  ·rename_i x l z h2
   cases h
   exact⟨v,r,rfl,KU ρ v x z,ZJ ρ r l h2⟩
  cases h
end
def I4(P:Program)(g:Nat):Bool:=match P.globals[g]?with|some v=>v.name== "strconv.ErrRange"|none=>false
def vE(P:Program)(ρ:Ho):Prop:=∀g,g<P.globals.size→∃h,ρ g 1=some h∧h.bG=g∧h.off=0∧(I4 P g=true→h.ro=true∧h.bK=true)
def xZ(P:Program)(w:World):Prop:=∀g,g<P.globals.size→g<w.heap.size∧(I4 P g=true→∃z A,w.cell? ⟨g,0,none⟩=some (.iface z A))
structure AR(P:Program)(ρ:Ho)(nt:Nat)(E:Env)(a:Act):Prop where
 size:a.tmps.size=nt
 defers:a.defers=[]
 tmp:∀t v,E.get t=some v→∃cv,a.tmps[t.n]?=some cv∧VR ρ v cv
 ru:vE P ρ
theorem AR.mono{P:Program}{ρ ρ':Ho}{nt:Nat}{E:Env}{a:Act}(h:AR P ρ nt E a)(A:ρ.le ρ'):AR P ρ' nt E a:=
 ⟨h.size,h.defers,fun t v e=>let⟨cv,z,h2⟩:=h.tmp t v e;⟨cv,z,h2.mono A⟩,fun g G=>let⟨x,z,h2⟩:=h.ru g G;⟨x,A _ _ _ z,h2⟩⟩
theorem AR.put{P:Program}{ρ:Ho}{nt:Nat}{E:Env}{a:Act}(h:AR P ρ nt E a){d:Key}(A:d.n<nt){v:ai}{cv:Value}(G:VR ρ v cv):AR P ρ nt (E.set d v) (a.put (some d.n) cv):=by
 refine⟨by simp[Act.put,h.size],by simp[Act.put,h.defers],fun t x e=>?_,h.ru⟩;rw[T4.df] at e
 split at e
 ·rename_i z;subst z
  cases e
  exact⟨cv,by simp[Act.put,h.size,A],G⟩
 rename_i z;obtain⟨y,I,k⟩:=h.tmp t x e;exact⟨y,by simp only[Act.put];rw[Array.getElem?_setIfInBounds_ne (fun e=>z (Key.inj e.symm))];exact I,k⟩
section
variable{P:Program}{ρ:Ho}{nt:Nat}{E:Env}{a:Act}
theorem AR.bC(h:AR P ρ nt E a){x:Operand}{y:aG}{v:ai}(ho:cG P x=some y)(z:y.ev E=some v):VR ρ v (a.eval x):=by
 cases x with
 |tmp t=>
  simp only[cG] at ho
  split at ho
  ·rename_i G
   cases ho
   obtain⟨cv,A,h2⟩:=h.tmp (pk t) v z;rw[Bw G] at A;simp only[Act.eval];rw[yz,A];exact h2
  cases ho
 |const c=>
  simp only[cG] at ho
  split at ho
  ·rename_i w I
   cases ho
   cases z
   exact KU ρ _ _ I
  cases ho
 |global g=>
  simp only[cG] at ho
  split at ho
  ·rename_i L
   cases ho
   cases z
   obtain⟨x,M,rfl,h2,_⟩:=h.ru g L;simp only[VR,Act.eval];exact⟨x,M,by simp[h2]⟩
  cases ho
 |func f=>
  simp only[cG,eE] at ho;subst ho
  cases z
  simp only[VR,Act.eval];exact⟨#[],#[],rfl,by simp only[bR],by simp only[bR]⟩
theorem AR.dg(h:AR P ρ nt E a):∀{I:List Operand}{ys:List aG}{vs:List ai},ke P I=some ys→iK E ys=some vs→bR ρ vs (I.map a.eval)
 |[],ys,vs,ho,A=>by
  simp only[ke,eE] at ho;subst ho
  cases A
  rfl
 |x::r,ys,vs,ho,A=>by
  simp only[ke] at ho
  split at ho
  ·rename_i y l L M
   cases ho
   have z:ob (y.ev E) none (fun v=>ob (iK E l) none fun vs=>some (v::vs))=some vs:=A
   cases G:y.ev E with
   |none=>rw[G] at z;cases z
   |some v=>
    rw[G] at z
    cases h2:iK E l with
    |none=>rw[h2] at z;cases z
    |some O=>
     rw[h2] at z
     cases z
     exact⟨_,_,rfl,h.bC L G,AR.dg h M h2⟩
  cases ho
end
def eI(P:Program)(o:Oper)(a:Act)(w:World)(Φ:Value→World→Prop):Prop:=
 (∃cv w',(execOp a.eval o).run P w= .ok (.value cv) w'∧Φ cv w')∨
 (∃w',(execOp a.eval o).run P w= .ok .skip w'∧Φ undef w')∨
 (∃f args,(execOp a.eval o).run P w= .ok (.enter f args) w∧Calls P f args w fun e w'=>∃cv,e= .returned cv∧Φ cv w')
theorem Zj{P:Program}{o:Oper}{a:Act}{w:World}{Φ:Value→World→Prop}{K:Act→World→Prop}{Q:Exit→Act→World→Prop}
  (h:eI P o a w Φ) (A:∀cv w',Φ cv w'→K (a.put o.dst cv) w'):o.wp P a w K Q:=by
 unfold Oper.wp;rcases h with⟨cv,w',e,z⟩|⟨w',e,z⟩|⟨f,args,e,z⟩
 ·rw[e];exact A _ _ z
 ·rw[e];exact A _ _ z
 rw[e];refine Calls.mono z fun e w' G=>?_
 obtain⟨cv,rfl,z⟩:=G;exact A _ _ z
def ep(C:Nat→Option cX)(H H':ax)(f:Nat):Option cX:=
 open Classical in
 if H.next≤f∧f<H'.next then H'.t.get f else if H'.t.get f=H.t.get f then C f else H'.t.get f
def Wr(H':ax)(f:Nat):Prop:=f∈H'.ws∨H'.aS≤f
def c9(ρ:Ho)(C:Nat→Option cX)(w:World)(H:ax)(v:ai)(H':ax)(cv:Value)(w':World):Prop:=
 ∃ρ',VR ρ' v cv∧Ext (Wr H') H.next H'.next ρ ρ' w w'∧R ρ' (ep C H H') w'
theorem rU(C:Nat→Option cX)(H:ax):ep C H H=C:=by
 funext f
 unfold ep;rw[aX an,bg rfl]
theorem c9.pure{ρ:Ho}{C:Nat→Option cX}{w:World}{H:ax}{v:ai}{cv:Value}(z:R ρ C w)(A:VR ρ v cv):c9 ρ C w H v H cv w:=
 ⟨ρ,A,Ext.refl _ _ _ _,by rw[rU];exact z⟩
theorem K9{a b:IntKind}(h:Nat.beq (cS a) (cS b)=true):a=b:=by cases a<;>cases b<;>first|rfl|cases h
theorem oF(a b:Int):fu a b=decide (a<b):=by
 rw[yA,decide_eq_true_iff]
 cases a with
 |ofNat a=>cases b with
  |ofNat b=>simp only[fu,Nat.ble_eq,gm];omega
  |negSucc b=>simp only[fu,gm,lk,gA,false_iff];omega
 |negSucc a=>cases b with
  |ofNat b=>simp only[fu,gm,lk,true_iff];omega
  |negSucc b=>simp only[fu,Nat.ble_eq,lk];omega
theorem vo(a b:Int):mF a b=decide (a=b):=by
 rw[yA,decide_eq_true_iff]
 cases a with
 |ofNat a=>cases b with
  |ofNat b=>simp only[mF,uD,gm];omega
  |negSucc b=>simp only[mF,gm,lk,gA,false_iff];omega
 |negSucc a=>cases b with
  |ofNat b=>simp only[mF,gm,lk,gA,false_iff];omega
  |negSucc b=>simp only[mF,uD,lk];omega
theorem Y2(a b:List UInt8):pack (a++b)=pack a+256^a.length*pack b:=by
 induction a with
 |nil=>simp[pack]
 |cons x r z=>
  simp only[Bo,pack,z,gB,NF];rw[Nat.mul_add,←lp,←Nat.mul_assoc,re 256 (256^r.length)]
theorem abC(a:List UInt8):pack a<256^a.length:=by
 induction a with
 |nil=>simp[pack]
 |cons x r z=>
  simp only[pack,gB,NF];have:x.toNat<256:=x.toNat_lt;omega
theorem ZK(l:List UInt8)(i:Nat):pack l/256^i=pack (l.drop i):=by
 induction i generalizing l with
 |zero=>simp
 |succ i z=>
  cases l with
  |nil=>simp[pack]
  |cons x r=>
   simp only[pack,List.drop_succ_cons];have A:x.toNat<256:=x.toNat_lt;have e:(x.toNat+256*pack r)/256=pack r:=by omega
   rw[NF,re (256^i) 256,←Nat.div_div_eq_div_mul,e,z]
theorem ZL(l:List UInt8)(n:Nat):pack l % 256^n=pack (l.take n):=by
 by_cases h:n≤l.length
 ·have z:pack l=pack (l.take n)+256^n*pack (l.drop n):=by
   have:=Y2 (l.take n) (l.drop n);rw[Ea,iD,Nat.min_eq_left h] at this;exact this
  have h2:=abC (l.take n);rw[iD,Nat.min_eq_left h] at h2;rw[z,Nat.add_mul_mod_self_left,Eb h2]
 have h':l.length≤n:=by omega
 rw[rf h'];refine Eb (jn (abC l) ?_);exact Nat.pow_le_pow_right an h'
theorem VB(i:Nat):2^(8*i)=256^i:=by rw[Nat.pow_mul]
theorem aiT(v i:Nat):Nat.shiftRight v (Nat.mul 8 i)=v/256^i:=by
 show v>>>(8*i)=_;rw[Nat.shiftRight_eq_div_pow,VB]
theorem Y3(l:List UInt8)(i:Nat)(h:i<l.length):pw (pack l) i=(l[i]).toNat:=by
 unfold pw;rw[aiT,ZK];show pack (l.drop i) % 256=_;have z:=ZL (l.drop i) 1;rw[lm36] at z;have e:(l.drop i).take 1=[l[i]]:=by rw[Br h];rfl
 rw[e] at z;rw[z];show l[i].toNat+256*0=_;omega
theorem strSub_pack(l:List UInt8)(lo hi:Nat):Sp (pack l) lo hi=pack ((l.drop lo).take (hi-lo)):=by
 unfold Sp;rw[aiT,ZK,←ZL];show _ % (1<<<(8*(hi-lo)))=_;rw[Nat.shiftLeft_eq,Bs,VB]
theorem Y4(a b:List UInt8):Gw a.length (pack a) (pack b)=pack (a++b):=by
 unfold Gw;rw[Y2];show pack a+(pack b)<<<(8*a.length)=_;rw[Nat.shiftLeft_eq,VB,re]
theorem aaE:∀{a b:List UInt8},a.length=b.length→pack a=pack b→a=b
 |[],[],_,_=>rfl
 |[],_::_,h,_=>by simp at h
 |_::_,[],h,_=>by simp at h
 |x::r,y::s,h,k=>by
  simp only[pack] at k;have G:x.toNat<256:=x.toNat_lt;have I:y.toNat<256:=y.toNat_lt;have z:x.toNat=y.toNat:=by omega
  have A:pack r=pack s:=by omega
  rw[aaE (by simpa using h) A,UInt8.toNat_inj.1 z]
theorem KA(a b:List UInt8):AY a.length (pack a) b.length (pack b)=decide (a=b):=by
 unfold AY;rw[yA,decide_eq_true_iff];constructor
 ·intro h
  split at h
  ·rename_i z;exact aaE (cW z) (cW h)
  cases h
 rintro rfl;simp
theorem Zk:∀(a b:List UInt8),strLt a.length (pack a) b.length (pack b)=Op.bytesLess a b
 |[],[]=>rfl
 |[],_::_=>rfl
 |x::r,[]=>rfl
 |x::r,y::s=>by
  have O:x.toNat<256:=x.toNat_lt;have U:y.toNat<256:=y.toNat_lt;have z:Nat.mod (pack (x::r)) 256=x.toNat:=by show(x.toNat+256*pack r) % 256=_;omega
  have A:Nat.mod (pack (y::s)) 256=y.toNat:=by show(y.toNat+256*pack s) % 256=_;omega
  have G:Nat.div (pack (x::r)) 256=pack r:=by show(x.toNat+256*pack r)/256=_;omega
  have I:Nat.div (pack (y::s)) 256=pack s:=by show(y.toNat+256*pack s)/256=_;omega
  have step:strLt (x::r).length (pack (x::r)) (y::s).length (pack (y::s))=
    match Nat.beq (Nat.mod (pack (x::r)) 256) (Nat.mod (pack (y::s)) 256) with
    |true=>strLt r.length (Nat.div (pack (x::r)) 256) s.length (Nat.div (pack (y::s)) 256)
    |false=>Nat.ble (Nat.succ (Nat.mod (pack (x::r)) 256)) (Nat.mod (pack (y::s)) 256):=rfl
  rw[step,z,A,G,I,Zk r s];simp only[Op.bytesLess]
  by_cases h:x=y
  ·subst h;have:¬(x<x):=by rw[IQ];omega
   simp[this]
  have L:Nat.beq x.toNat y.toNat=false:=by
   rw[←Pr,uD];exact fun e=>h (UInt8.toNat_inj.1 e)
  rw[L];have M:(x==y)=false:=by simpa using h
  simp only[M,Bool.false_and,Bool.or_false];rw[yA,Nat.ble_eq,decide_eq_true_iff,IQ];exact fS
end Go.Ev
