/- Part 2 of rules for walks through the code of a program, and of such walks; what each part proves is said by its theorems. -/
import Derived.Test.YtmpoloiempjdpaaGreatR1
import GoSem.Core.Layout
import GoSem.ClaimKeys
set_option linter.unusedVariables false
set_option linter.unusedSimpArgs false
noncomputable section
set_option maxRecDepth 100000
set_option maxHeartbeats 4000000
namespace Go.Ev
mutual
def jr:Value→Option aj
 |.bool b=>some (.bool b)
 |.int k n=>some (.int k n)
 |.string s=>some (.str s.size (pack s.data.toList))
 |.pointer none=>some .mI
 |.slice none 0 0=>some .fR
 |.nilIface=>some .kA
 |.nilFunc=>some .ns
 |.map none=>some .uX
 |.agg cs=>match Gt cs.toList with
  |some l=>if l.all eM then some (.agg l) else none
  |none=>none
 |_=>none
def Gt:List Value→Option (List aj)
 |[]=>some []
 |v::r=>match jr v,Gt r with
  |some a,some l=>some (a::l)
  |_,_=>none
end
def cellsOf:aj→Option (List aj)
 |.agg cs=>some cs
 |.tuple _=>none
 |.undef=>none
 |v=>some [v]
def cB(P:Program):Operand→Option aG
 |.tmp t=>if t<1296 then some (.t (pk t)) else none
 |.const v=>match jr v with|some a=>some (.c a)|none=>none
 |.global g=>if g<P.globals.size then some (.c (.ptr g 1 0)) else none
 |.func f=>some (.c (.func f [] []))
def jX(P:Program):List Operand→Option (List aG)
 |[]=>some []
 |x::r=>match cB P x,jX P r with
  |some a,some l=>some (a::l)
  |_,_=>none
def zeroOf(P:Program)(t:TypeId):Option (List aj):=
 match P.info? t with
 |some i=>match i.zero with
  |some z=>match jr z with
   |some v=>match cellsOf v with
    |some l=>if l.length=i.size∧0<i.size then some l else none
    |none=>none
   |none=>none
  |none=>none
 |none=>none
def qp(P:Program)(t:TypeId):Bool:=match P.underlying t with|some (.struct _)=>true|some (.array _ _)=>true|_=>false
def Jz:bq:=.tB (.c .mI) []
def Ud(P:Program):TypeDesc→Option EG
 |.bool=>some .bool
 |.pointer e=>match P.info? e with|some _=>some .ptr|none=>none
 |.slice _=>some .slice
 |.interface _=>some .iface
 |.func _ _ _=>some .func
 |.map _ _=>some .map
 |_=>none
def Cs:Operand→Bool
 |.const _=>true
 |_=>false
def Lq(x y:Operand):TypeDesc→Bool
 |.interface ms=>ms.isEmpty||Cs x||Cs y
 |_=>true
def KP(P:Program)(g:TypeId→Option (List Nat)):Nat→List Field→Option (List Nat)
 |_,[]=>some []
 |off,f::r=>match g f.type with
  |some k=>if f.offset=off∧k.length=P.cellsOf f.type then
    match KP P g (off+k.length) r with
    |some l=>some (k++l)
    |none=>none
   else none
  |none=>none
def xi(P:Program):Nat→TypeId→Option (List Nat)
 |0,_=>none
 |d+1,t=>match P.underlying t with
  |some .bool=>some [100]
  |some (.int k)=>some [cK k]
  |some .string=>some [101]
  |some (.struct fs)=>match KP P (xi P d) 0 fs.toList with
   |some ks=>if ks.length=P.cellsOf t∧fs.all (·.name != "_")=true then some ks else none
   |none=>none
  |_=>none
def Ue(P:Program)(op:BinOp)(t:TypeId)(x y:aG):Option bq:=
 match xi P 12 t with
 |some ks=>if P.keyTypeAt 12 t=true∧P.eqGuardType P.depth t=false then
   match op with
   |.eql=>some (.eqv (.agg ks) false x y)
   |.neq=>some (.eqv (.agg ks) true x y)
   |_=>none
  else none
 |none=>none
def VH(P:Program)(op:BinOp)(d:TypeDesc)(z A:Operand)(x y:aG):Option bq:=
 match Ud P d with
 |some c=>if Lq z A d=true then
   match op with
   |.eql=>some (.eqv c false x y)
   |.neq=>some (.eqv c true x y)
   |_=>none
  else none
 |none=>none
def agG(P:Program)(op:BinOp)(t:TypeId)(z A:Operand)(x y:aG):Option bq:=
 match P.underlying t with
 |some (.int _)=>some (.bin op x y)
 |some .string=>some (.bin op x y)
 |some (.struct _)=>Ue P op t x y
 |some d=>VH P op d z A x y
 |none=>none
def gR(P:Program)(t:TypeId):Option Nat:=match P.info? t,P.underlying t with|some i,some _=>if i.size≠0 then some i.size else none|_,_=>none
def Q5(P:Program)(src dst:TypeId)(x:aG):Option bq:=
 match P.underlying src,P.underlying dst with
 |some (.slice e),some .string=>match P.underlying e with
  |some (.int .u8)=>some (.xn x)
  |_=>none
 |_,_=>none
def adV(P:Program)(src dst:TypeId)(x:aG):Option bq:=
 match P.underlying src,P.underlying dst with
 |some (.int _),some (.int k)=>some (.conv k x)
 |_,_=>Q5 P src dst x
def CQ(P:Program)(place:Nat→Option (Nat×Nat)):List (Nat×Operand)→Option (List (Nat×Nat×aG))
 |[]=>some []
 |(i,x)::r=>match place i,cB P x,CQ P place r with
  |some q,some y,some l=>some ((q.1,q.2,y)::l)
  |_,_,_=>none
def KQ(P:Program):List (Nat×Operand)→Option (List (Nat×aG))
 |[]=>some []
 |(i,x)::r=>match cB P x,KQ P r with
  |some y,some l=>some ((i,y)::l)
  |_,_=>none
def ot(P:Program):Option Operand→Option (Option aG)
 |none=>some none
 |some x=>match cB P x with|some y=>some (some y)|none=>none
def KR(z:List aj):Option (List (Nat×Nat×aG))→Option bq
 |some l=>if(l.all fun p=>decide (p.1+p.2.1≤z.length))=true then some (.build z l) else none
 |none=>none
def Q6(P:Program)(t:TypeId)(parts:List (Nat×Operand)):Option bq:=
 match zeroOf P t with
 |some z=>match P.underlying t with
  |some (.struct fs)=>match fs.toList.mapM (fun f=>(P.info? f.type).map fun i=>(f.offset,i.size)) with
   |some A=>KR z (CQ P (fun i=>A.toArray[i]?) parts)
   |none=>none
  |some (.array _ e)=>match P.info? e with
   |some G=>KR z (CQ P (fun i=>some (i*G.size,G.size)) parts)
   |none=>none
  |_=>none
 |none=>none
def Qf(P:Program)(t:TypeId)(A:Nat)(parts:List (Nat×Operand)):Option bq:=
 match P.underlying t with
 |some (.slice e)=>match P.info? e,zeroOf P e with
  |some i,some z=>match KQ P parts with
   |some l=>if A*i.size≤16777216 then some (.tb e i.size i.bytes A z l) else none
   |none=>none
  |_,_=>none
 |_=>none
def R'(P:Program)(t:TypeId)(a b:aG):Option bq:=
 match P.underlying t with
 |some (.slice e)=>match P.info? e,zeroOf P e with
  |some i,some z=>if i.bytes≠0 then some (.vI e i.size i.bytes z a b) else none
  |_,_=>none
 |_=>none
def slArrOf(_:Program)(_:TypeId)(_:aG)(_ _:Option aG):Option bq:=none
def aaG(mx:Bool):List aG→Option bq
 |x::r=>some (.xm mx x r)
 |[]=>none
def otherOf(_:Program)(_:Op):Option bq:=none
def Sa(P:Program)(c:Call):Option bq:=
 match c.callee,jX P c.args.toList with
 |.value f,some args=>match f with
  |.func f=>some (.call f args)
  |f=>match cB P f with|some y=>some (.tB y args)|none=>none
 |.builtin .len,some [x]=>match c.argTypes[0]?with
  |some t=>match P.underlying t with
   |some .string=>some (.tX x)
   |some (.slice _)=>some (.len x)
   |_=>none
  |none=>none
 |.builtin .append,some [x,y]=>match c.argTypes[0]?,c.argTypes[1]?with
  |some t,some u=>match P.underlying t,P.underlying u with
   |some (.slice e),some (.slice _)=>match P.info? e,zeroOf P e with
    |some i,some _=>if i.bytes≠0 then some (.app e i.size i.bytes x y) else none
    |_,_=>none
   |some (.slice e),some .string=>match P.info? e,zeroOf P e with
    |some i,some _=>if i.size=1∧i.bytes=1 then some (.xl e x y) else none
    |_,_=>none
   |_,_=>none
  |_,_=>none
 |.builtin .clear,some [x]=>match c.argTypes[0]?with
  |some t=>match P.underlying t with
   |some (.slice e)=>match P.info? e,zeroOf P e with
    |some i,some z=>some (.copy i.size x (.c (.agg z)))
    |_,_=>none
   |_=>none
  |none=>none
 |.builtin .min,some l=>aaG false l
 |.builtin .max,some l=>aaG true l
 |_,_=>none
def ID(P:Program)(o:Op):Option bq:=
 match o with
 |.move x=>match cB P x with|some y=>some (.d8 y)|none=>none
 |.assign x=>match cB P x with|some y=>some (.d8 y)|none=>none
 |.pick c a b=>match cB P c,cB P a,cB P b with|some c,some a,some b=>some (.pick c a b)|_,_,_=>none
 |.alloc t=>match zeroOf P t,P.info? t with|some z,some i=>some (.pI t i.size i.bytes z)|_,_=>none
 |.box t x=>match gR P t,P.info? t,cB P x with|some n,some i,some y=>some (.box t n i.bytes y)|_,_,_=>none
 |.build t parts=>Q6 P t parts.toList
 |.buildSlice t G parts=>Qf P t G parts.toList
 |.load t a=>match gR P t,cB P a with|some n,some y=>some (.load n (qp P t) y)|_,_=>none
 |.store t a x=>match gR P t,cB P a,cB P x with|some n,some y,some z=>some (.store n y z)|_,_,_=>none
 |.nilCheck x=>match cB P x with|some y=>some (.rT y)|none=>none
 |.binOp op t x y _=>match cB P x,cB P y with|some a,some b=>agG P op t x y a b|_,_=>none
 |.unOp op _ x=>match cB P x with|some y=>some (.un op y)|none=>none
 |.convert src dst x=>match cB P x with|some y=>adV P src dst y|none=>none
 |.makeInterface _ _=>none
 |.makeFunc (.func f) first eo=>match jX P first.toList,jX P eo.toList with|some fs,some l=>some (.yv f fs l)|_,_=>none
 |.makeSlice t G I=>match cB P G,cB P I with|some a,some b=>R' P t a b|_,_=>none
 |.slice t x lo hi none=>match P.underlying t,cB P x,ot P lo,ot P hi with
  |some .string,some x,some lo,some hi=>some (.Hi x lo hi)
  |some (.slice e),some x,some lo,some hi=>match gR P e with|some n=>some (.tW n x lo hi)|none=>none
  |some _,some x,some lo,some hi=>slArrOf P t x lo hi
  |_,_,_,_=>none
 |.slice t x lo (some hi) (some mx)=>match P.underlying t,cB P x,ot P lo,cB P hi,cB P mx with
  |some (.slice e),some x,some lo,some hi,some mx=>match gR P e with|some n=>some (.Jw n x lo hi mx)|none=>none
  |_,_,_,_,_=>none
 |.fieldAddr s x f=>match P.underlying s,cB P x with
  |some (.struct fs),some y=>match fs[f]?with
   |some A=>match gR P A.type with|some _=>some (.eR y A.offset)|none=>none
   |none=>none
  |_,_=>none
 |.field s x f=>match P.underlying s,cB P x with
  |some (.struct fs),some y=>match fs[f]?with
   |some A=>match gR P A.type with|some n=>some (.sub y A.offset n (qp P A.type))|none=>none
   |none=>none
  |_,_=>none
 |.indexAddr t x i=>match P.underlying t,cB P x,cB P i with
  |some (.array k e),some x,some i=>match gR P e with|some n=>if 1<k then some (.Ab k n x i) else none|none=>none
  |some (.slice e),some x,some i=>match gR P e with|some n=>some (.j0 n x i)|none=>none
  |_,_,_=>none
 |.index t x i=>match P.underlying t,cB P x,cB P i with
  |some (.array k e),some x,some i=>match gR P e with|some n=>some (.CO k n (qp P e) x i)|none=>none
  |some .string,some x,some i=>some (.CP x i)
  |_,_,_=>none
 |.extract x i=>match cB P x with|some y=>some (.vH y i)|none=>none
 |.call c=>Sa P c
 |o=>otherOf P o
def mK:bq→Bool
 |.pI ..|.box ..|.load ..|.store ..|.vI ..|.tb ..|.app ..|.xl ..|.copy ..|.xn ..|.call ..|.tB ..=>false
 |_=>true
structure Hm where
 bE:Nat
 off:Nat
 room:Nat
 ro:Bool
 bP:Bool:=false
abbrev Ho:=Nat→Nat→Option Hm
def IE(h:Hm)(a:Addr)(l cap o es:Nat):Prop:=
 (a=⟨h.bE,h.off+o,none⟩∧o+cap*es≤h.room)∨(l=0∧cap=0∧0<o)
mutual
def VR(ρ:Ho):aj→Value→Prop
 |.bool b,v=>v= .bool b
 |.int k n,v=>v= .int k n
 |.str l s,v=>∃b:ByteArray,v= .string b∧l=b.size∧s=pack b.data.toList
 |.ptr f g o,v=>∃h,ρ f g=some h∧v= .pointer (some ⟨h.bE,h.off+o,none⟩)
 |.mI,v=>v= .pointer none
 |.slice f g o l es,v=>∃h a cap,ρ f g=some h∧v= .slice (some a) l cap∧(l≤cap∧g*es≤o+cap*es)∧IE h a l cap o es
 |.fR,v=>v= .slice none 0 0
 |.agg cs,v=>∃vs,v= .agg vs∧bO ρ cs vs.toList∧cs.all eM=true
 |.tuple cs,v=>∃vs,v= .tuple vs∧bO ρ cs vs.toList
 |.func f first eo,v=>∃fs vs,v= .func (.func f) fs vs∧bO ρ first fs.toList∧bO ρ eo vs.toList
 |.ns,v=>v= .nilFunc
 |.iface t a,v=>∃x,v= .iface t x∧VR ρ a x
 |.kA,v=>v= .nilIface
 |.map _,v=>∃a:Addr,v= .pointer (some a)
 |.uX,v=>v= .map none
 |.undef,v=>v=undef
def bO(ρ:Ho):List aj→List Value→Prop
 |[],vs=>vs=[]
 |a::r,vs=>∃v t,vs=v::t∧VR ρ a v∧bO ρ r t
end
def Ho.le(ρ ρ':Ho):Prop:=∀f g h,ρ f g=some h→ρ' f g=some h
theorem Ho.le_refl(ρ:Ho):ρ.le ρ:=fun _ _ _ h=>h
theorem Ho.le_trans{a b c:Ho}(h:a.le b)(k:b.le c):a.le c:=fun f g x z=>k f g x (h f g x z)
mutual
theorem VR.mono{ρ ρ':Ho}(z:ρ.le ρ'):∀{a:aj}{v:Value},VR ρ a v→VR ρ' a v
 |.bool _,_,h=>by simpa[VR] using h
 |.int _ _,_,h=>by simpa[VR] using h
 |.str _ _,_,h=>by simpa[VR] using h
 |.ptr _ _ _,_,h=>by
  simp only[VR] at h⊢;obtain⟨x,G,e⟩:=h;exact⟨x,z _ _ _ G,e⟩
 |.mI,_,h=>by simpa[VR] using h
 |.slice _ _ _ _ _,_,h=>by
  simp only[VR] at h⊢;obtain⟨x,a,c,G,e⟩:=h;exact⟨x,a,c,z _ _ _ G,e⟩
 |.fR,_,h=>by simpa[VR] using h
 |.agg cs,_,h=>by
  simp only[VR] at h⊢;obtain⟨vs,e,A,ho⟩:=h;exact⟨vs,e,bO.mono z A,ho⟩
 |.tuple cs,_,h=>by
  simp only[VR] at h⊢;obtain⟨vs,e,A⟩:=h;exact⟨vs,e,bO.mono z A⟩
 |.func _ _ cs,_,h=>by
  simp only[VR] at h⊢;obtain⟨fs,vs,e,I,A⟩:=h;exact⟨fs,vs,e,bO.mono z I,bO.mono z A⟩
 |.ns,_,h=>by simpa[VR] using h
 |.iface _ a,_,h=>by
  simp only[VR] at h⊢;obtain⟨x,e,A⟩:=h;exact⟨x,e,VR.mono z A⟩
 |.kA,_,h=>by simpa[VR] using h
 |.map _,_,h=>by simp only[VR] at h⊢;exact h
 |.uX,_,h=>by simpa[VR] using h
 |.undef,_,h=>by simpa[VR] using h
theorem bO.mono{ρ ρ':Ho}(z:ρ.le ρ'):∀{a:List aj}{v:List Value},bO ρ a v→bO ρ' a v
 |[],_,h=>by simpa[bO] using h
 |a::r,_,h=>by
  simp only[bO] at h⊢;obtain⟨v,t,e,A,h2⟩:=h;exact⟨v,t,e,VR.mono z A,bO.mono z h2⟩
end
theorem bO.length{ρ:Ho}:∀{a:List aj}{v:List Value},bO ρ a v→v.length=a.length
 |[],_,h=>by simp only[bO] at h;subst h;rfl
 |a::r,_,h=>by
  simp only[bO] at h;obtain⟨v,t,rfl,_,h2⟩:=h;simp[bO.length h2]
theorem bO.get{ρ:Ho}:∀{a:List aj}{v:List Value},bO ρ a v→∀(i:Nat)(x:aj),a[i]?=some x→∃y,v[i]?=some y∧VR ρ x y
 |[],_,_,i,x,z=>by simp at z
 |a::r,_,h,i,x,z=>by
  simp only[bO] at h;obtain⟨v,t,rfl,A,h2⟩:=h
  cases i with
  |zero=>simp at z;subst z;exact⟨v,rfl,A⟩
  |succ i=>simp at z;obtain⟨y,G,k⟩:=bO.get h2 i x z;exact⟨y,by simpa using G,k⟩
theorem bO.nx{ρ:Ho}:∀{a:List aj}{v:List Value},v.length=a.length→(∀(i:Nat)(x:aj),a[i]?=some x→∃y,v[i]?=some y∧VR ρ x y)→bO ρ a v
 |[],v,z,_=>by simp only[bO];exact sb (by simpa using z)
 |a::r,[],z,_=>by simp at z
 |a::r,v::t,z,h=>by
  simp only[bO];refine⟨v,t,rfl,?_,bO.nx (by simpa using z) fun i x G=>?_⟩
  ·obtain⟨y,A,k⟩:=h 0 a rfl;simp at A;subst A;exact k
  obtain⟨y,A,k⟩:=h (i+1) x (by simpa using G);exact⟨y,by simpa using A,k⟩
theorem bO.append{ρ:Ho}{a b:List aj}{v u:List Value}(h:bO ρ a v)(k:bO ρ b u):bO ρ (a++b) (v++u):=by
 induction a generalizing v with
 |nil=>simp only[bO] at h;subst h;exact k
 |cons x r z=>
  simp only[bO] at h;obtain⟨y,t,rfl,A,h2⟩:=h;simp only[A9,bO];exact⟨y,t++u,rfl,A,z h2⟩
theorem bO.take{ρ:Ho}{a:List aj}{v:List Value}(h:bO ρ a v)(n:Nat):bO ρ (a.take n) (v.take n):=by
 refine bO.nx (by simp[h.length]) fun i x z=>?_
 rw[A'] at z
 split at z
 ·obtain⟨y,A,k⟩:=h.get i x z;exact⟨y,by rw[A',bg (by assumption)];exact A,k⟩
 cases z
theorem bO.drop{ρ:Ho}{a:List aj}{v:List Value}(h:bO ρ a v)(n:Nat):bO ρ (a.drop n) (v.drop n):=by
 refine bO.nx (by simp[h.length]) fun i x z=>?_
 rw[Ip] at z;obtain⟨y,A,k⟩:=h.get _ x z;exact⟨y,by rw[Ip];exact A,k⟩
theorem VR.cells{ρ:Ho}{a:aj}{v:Value}{l:List aj}(h:VR ρ a v)(z:iL a=some l):bO ρ l v.cells.toList∧l.all eM=true:=by
 have one:∀{x:aj}{y:Value},VR ρ x y→y.cells=#[y]→eM x=true→l=[x]→bO ρ l y.cells.toList∧l.all eM=true:=by
  intro x y A G I L;subst L;rw[G];exact⟨⟨y,[],rfl,A,rfl⟩,by simp[I]⟩
 cases a<;>simp only[iL,eC,reduceCtorEq] at z
 case agg cs=>
  simp only[VR] at h;obtain⟨vs,rfl,M,ho⟩:=h;subst z;exact⟨M,ho⟩
 case bool b=>exact one h (by simp only[VR] at h;subst h;rfl) rfl z.symm
 case int k n=>exact one h (by simp only[VR] at h;subst h;rfl) rfl z.symm
 case str k n=>exact one h (by simp only[VR] at h;obtain⟨b,rfl,_⟩:=h;rfl) rfl z.symm
 case ptr f g o=>exact one h (by simp only[VR] at h;obtain⟨b,_,rfl⟩:=h;rfl) rfl z.symm
 case mI=>exact one h (by simp only[VR] at h;subst h;rfl) rfl z.symm
 case slice f g o l es=>exact one h (by simp only[VR] at h;obtain⟨_,_,_,_,rfl,_⟩:=h;rfl) rfl z.symm
 case fR=>exact one h (by simp only[VR] at h;subst h;rfl) rfl z.symm
 case func f fs c=>exact one h (by simp only[VR] at h;obtain⟨_,_,rfl,_⟩:=h;rfl) rfl z.symm
 case ns=>exact one h (by simp only[VR] at h;subst h;rfl) rfl z.symm
 case iface t x=>exact one h (by simp only[VR] at h;obtain⟨_,rfl,_⟩:=h;rfl) rfl z.symm
 case kA=>exact one h (by simp only[VR] at h;subst h;rfl) rfl z.symm
 case map f=>exact one h (by simp only[VR] at h;obtain⟨a,rfl⟩:=h;rfl) rfl z.symm
 case uX=>exact one h (by simp only[VR] at h;subst h;rfl) rfl z.symm
theorem VR.noAgg{ρ:Ho}{a:aj}{v:Value}(h:VR ρ a v)(z:eM a=true):(∀cs,v≠.agg cs)∧(∀cs,v≠.tuple cs):=by
 cases a<;>simp only[VR,eM,gU] at h z
 all_goals first
  |(subst h;exact⟨fun _=>by simp,fun _=>by simp⟩)
  |(obtain⟨_,rfl⟩:=h;exact⟨fun _=>by simp,fun _=>by simp⟩)
  |(obtain⟨_,rfl,_⟩:=h;exact⟨fun _=>by simp,fun _=>by simp⟩)
  |(obtain⟨_,_,rfl⟩:=h;exact⟨fun _=>by simp,fun _=>by simp⟩)
  |(obtain⟨_,_,rfl,_⟩:=h;exact⟨fun _=>by simp,fun _=>by simp⟩)
  |(obtain⟨_,_,_,_,rfl,_⟩:=h;exact⟨fun _=>by simp,fun _=>by simp⟩)
structure Hz(ρ:Ho)(w:World)(h:Hm)(g elem es n fl:Nat)(cs:RT):Prop where
 row:∃c fz,w.heap[h.bE]?=some (.cells c elem fz)∧h.off+h.room≤c.size
 fits:g*es≤h.room
 cell:∀i,i<g→∃l,cs.get i=some l∧l.length=es∧∀j x,l[j]?=some x→eM x=true∧∃cv,w.cell? ⟨h.bE,h.off+i*es+j,none⟩=some cv∧VR ρ x cv
 Dm:fl=0→∀i,i<h.room→w.frozen? ⟨h.bE,h.off+i,none⟩=false
 Dn:fl≠1→∀i,n*es≤i→i<h.room→w.frozen? ⟨h.bE,h.off+i,none⟩=false
 IF:fl=0∨fl=2→h.off=0
 JA:fl=0∨fl=2→∀c e fz,w.heap[h.bE]?=some (.cells c e fz)→fz.1=fz.2∨fz.2≤n*es
def AL(ρ:Ho)(w:World)(h:Hm)(g:Nat):cV→Prop
 |.row elem es _ n lo fl cs=>0<es∧(h.ro=true→fl=1)∧g≤n∧(lo≤g→g≤n→Hz ρ w h g elem es n fl cs)
 |.map _=>False
def EK(ρ:Ho)(w:World)(f:Nat)(h:Hm):Prop:=(∀g' h',ρ f g'=some h'→h'.ro=true)∧∃z A,w.cell? ⟨h.bE,h.off,none⟩=some (.iface z A)
structure R(ρ:Ho)(C:Nat→Option cV)(w:World):Prop where
 obj:∀f o,C f=some o→∀g h,ρ f g=some h→AL ρ w h g o
 oQ:∀f g h f' g' h',ρ f g=some h→ρ f' g'=some h'→f≠f'→h.bE=h'.bE→h.ro=true∧h'.ro=true
 gY:∀f g h,ρ f g=some h→h.bE<w.heap.size
 uniq:∀f g h g' h',ρ f g=some h→ρ f g'=some h'→h.bE=h'.bE→h.off=h'.off
 bP:∀f g h,ρ f g=some h→h.ro=true→h.bP=true→EK ρ w f h
structure Ext(W:Nat→Prop)(n0 n1:Nat)(ρ ρ':Ho)(w w':World):Prop where
 le:ρ.le ρ'
 gy:∀f g h,ρ' f g=some h→(∃g0 h0,ρ f g0=some h0)∨(n0≤f∧f<n1)
 bE:∀f g h,ρ' f g=some h→ρ f g=some h∨(w.heap.size≤h.bE∧h.ro=false)∨(∃g0 h0,ρ f g0=some h0∧h0.bE=h.bE∧h0.ro=h.ro)
 frame:∀b,b<w.heap.size→(∀f g h,ρ f g=some h→h.ro=false→W f→h.bE≠b)→w'.heap[b]?=w.heap[b]?
 size:w.heap.size≤w'.heap.size
 nn:n0≤n1
 os:w'.os=w.os
 tape:w'.tape=w.tape
 output:w'.output=w.output
theorem Ext.refl(W:Nat→Prop)(n:Nat)(ρ:Ho)(w:World):Ext W n n ρ ρ w w:=
 ⟨Ho.le_refl _,fun f g h e=>.inl ⟨g,h,e⟩,fun _ _ _ e=>.inl e,fun _ _ _=>rfl,bf _,bf _,rfl,rfl,rfl⟩
theorem Ext.mono{W z:Nat→Prop}{n0 n1:Nat}{ρ ρ':Ho}{w w':World}(h:Ext W n0 n1 ρ ρ' w w')(A:∀f,W f→z f):Ext z n0 n1 ρ ρ' w w':=
 ⟨h.le,h.gy,h.bE,fun b G k=>h.frame b G fun f g x I L M=>k f g x I L (A f M),h.size,h.nn,h.os,h.tape,h.output⟩
theorem Ext.trans{W:Nat→Prop}{n0 n1 U:Nat}{ρ z A:Ho}{w Y Z:World}(h:Ext W n0 n1 ρ z w Y)(k:Ext W n1 U z A Y Z):Ext W n0 U ρ A w Z:=by
 refine⟨Ho.le_trans h.le k.le,?_,?_,?_,eO h.size k.size,eO h.nn k.nn,k.os.trans h.os,k.tape.trans h.tape,k.output.trans h.output⟩
 ·intro f g x G;have h1:=h.nn;have h2:=k.nn;rcases k.gy f g x G with⟨g0,h0,e⟩|⟨a,b⟩
  ·rcases h.gy f g0 h0 e with e|⟨a,b⟩
   ·exact .inl e
   exact .inr ⟨a,al⟩
  exact .inr ⟨al,b⟩
 ·intro f g x G;rcases k.bE f g x G with e|⟨a,b⟩|⟨g0,h0,e,I,L⟩
  ·exact h.bE f g x e
  ·exact .inr (.inl ⟨eO h.size a,b⟩)
  rcases h.bE f g0 h0 e with M|⟨a,b⟩|⟨g1,h1,M,e3,e4⟩
  ·exact .inr (.inr ⟨g0,h0,M,I,L⟩)
  ·exact .inr (.inl ⟨I▸a,L▸b⟩)
  exact .inr (.inr ⟨g1,h1,M,e3.trans I,e4.trans L⟩)
 intro b hb O;rw[k.frame b (jh hb h.size) ?_,h.frame b hb O];intro f g x G hr hw;rcases h.bE f g x G with e|⟨a,_⟩|⟨g0,h0,e,I,L⟩
 ·exact O f g x e hr hw
 ·intro hh;omega
 exact I▸O f g0 h0 e (L.trans hr) hw
theorem cell_of_heap{w w':World}{a:Addr}(h:w'.heap[a.block]?=w.heap[a.block]?):w'.cell? a=w.cell? a:=by simp only[World.cell?,h]
theorem EK.gJ{ρ:Ho}{w w':World}{f:Nat}{h:Hm}(k:EK ρ w f h)(z:w'.cell? ⟨h.bE,h.off,none⟩=w.cell? ⟨h.bE,h.off,none⟩):EK ρ w' f h:=⟨k.1,by obtain⟨A,G,e⟩:=k.2;exact⟨A,G,z.trans e⟩⟩
theorem frozen_of_heap{w w':World}{a:Addr}(h:w'.heap[a.block]?=w.heap[a.block]?):w'.frozen? a=w.frozen? a:=by simp only[World.frozen?,h]
theorem Hz.gJ{ρ ρ':Ho}{w w':World}{h:Hm}{g elem es n fl:Nat}{cs:RT}(k:Hz ρ w h g elem es n fl cs)(G:ρ.le ρ')(z:w'.heap[h.bE]?=w.heap[h.bE]?):
  Hz ρ' w' h g elem es n fl cs:=by
 refine⟨by rw[z];exact k.row,k.fits,fun i hi=>?_,fun h0 i hi=>?_,fun h0 i hi I=>?_,k.IF,fun e c t fz A=>k.JA e c t fz (by rw[←z];exact A)⟩
 ·obtain⟨l,e,L,M⟩:=k.cell i hi;refine⟨l,e,L,fun j x O=>?_⟩;obtain⟨o,cv,A,U⟩:=M j x O;exact⟨o,cv,by rw[cell_of_heap (w:=w) z];exact A,U.mono G⟩
 ·rw[frozen_of_heap (w:=w) z];exact k.Dm h0 i hi
 rw[frozen_of_heap (w:=w) z];exact k.Dn h0 i hi I
theorem AL.gJ{ρ ρ':Ho}{w w':World}{h:Hm}{g:Nat}{o:cV}(k:AL ρ w h g o)(z:ρ.le ρ')(A:w'.heap[h.bE]?=w.heap[h.bE]?):AL ρ' w' h g o:=by
 cases o with
 |row elem es aD n lo fl cs=>exact⟨k.1,k.2.1,k.2.2.1,fun a b=>(k.2.2.2 a b).gJ z A⟩
 |map es=>exact k
theorem R.weaken{ρ:Ho}{C z:Nat→Option cV}{w:World}(h:R ρ C w)(G:∀f o,z f=some o→(∃g x,ρ f g=some x)→C f=some o):R ρ z w:=
 ⟨fun f o e g x A=>h.obj f o (G f o e ⟨g,x,A⟩) g x A,h.oQ,h.gY,h.uniq,h.bP⟩
end Go.Ev
