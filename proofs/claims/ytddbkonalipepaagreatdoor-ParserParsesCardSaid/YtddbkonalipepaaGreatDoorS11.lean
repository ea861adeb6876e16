/- Part 11 of rules for walks through the code of a program, and of such walks; what each part proves is said by its theorems. -/
import Derived.Test.YtddbkonalipepaaGreatDoorS10
import Derived.ChangeStays
set_option linter.unusedVariables false
set_option linter.unusedSimpArgs false
namespace Go.Ev
open Go
inductive qC where
 |i (k:IntKind)
 |b
 |s
 |sl (row:List qC)
mutual
def qC.fits:qC→DC→Prop
 |.i k,d=>∃n,d= .i k n∧(Lit.int k n).wf=true
 |.b,d=>∃b,d= .b b
 |.s,d=>∃bs:List UInt8,d= .s bs.length (pack bs)∧bs.length≤maxLen
 |.sl row,d=>d= .nil∨∃rows,d= .sl rows∧rows.length≤maxLen∧∀r,r∈rows→lQ row r
def lQ:List qC→List DC→Prop
 |[],l=>l=[]
 |p::ps,l=>∃d r,l=d::r∧p.fits d∧lQ ps r
end
mutual
def vJ(P:Program):Nat→TypeId→List qC
 |0,_=>[]
 |n+1,t=>match P.underlying t with
  |some .bool=>[.b]
  |some (.int k)=>[.i k]
  |some .string=>[.s]
  |some (.slice e)=>[.sl (vJ P n e)]
  |some (.struct z)=>z.toList.flatMap fun f=>vJ P n f.type
  |_=>[]
end
theorem I3:∀{ps z:List qC}{l m:List DC},lQ ps l→lQ z m→lQ (ps++z) (l++m)
 |[],z,l,m,h,k=>by simp only[lQ] at h;subst h;exact k
 |p::ps,z,l,m,h,k=>by
  simp only[lQ] at h
  obtain⟨d,r,rfl,A,h2⟩:=h
  simp only[yz,lQ]
  exact⟨d,_,rfl,A,I3 h2 k⟩
section
variable{H:Type}{enc:TypeId×Value→H}{P:Program}{w:World}{base:Nat}{held:Bool}
theorem Jz{m n:Nat}{cs:List Value}(z:∀t cs x,jr P m t=true→DataW.trod enc P w base (fun _=>true) held n t cs=some x→lQ (vJ P m t) (ik x.1)):
  ∀(A:List Field)(off:Nat)(xs:List (DataW H×List MemPlace)),tm P (jr P m) A off cs.length=true→xs.length=A.length→
   (∀(i:Nat)(f:Field),A[i]?=some f→DataW.trod enc P w base (fun _=>true) held n f.type ((cs.drop f.offset).take (P.cellsOf f.type))=xs[i]?)→lQ (A.flatMap fun f=>vJ P m f.type) (uy (xs.map (·.1)))
 |[],off,xs,h,G,_=>by
  obtain rfl:xs=[]:=sG G
  simp only[fw,uy,List.flatMap_nil,lQ]
 |f::r,off,xs,h,G,J=>by
  cases xs with
  |nil=>simp at G
  |cons x0 K=>
   simp only[tm,fv] at h
   obtain⟨⟨h1,h2⟩,O⟩:=h
   have I:=J 0 f rfl
   have U:=z _ _ x0 h2 (by simpa using I)
   have Y:=Jz z r (off+P.cellsOf f.type) K O (by simpa using G) fun i g Z=>by simpa using J (i+1) g (by simpa using Z)
   simpa only[ez,uy,List.flatMap_cons] using I3 U Y
theorem TN:∀(m:Nat)(fuel:Nat)(t:TypeId)(cs:List Value)(x:DataW H×List MemPlace),jr P m t=true→DataW.trod enc P w base (fun _=>true) held fuel t cs=some x→lQ (vJ P m t) (ik x.1):=by
 intro m
 induction m with
 |zero=>intro fuel t cs x h;simp[jr] at h
 |succ m J=>
  intro fuel t cs x h A
  unfold jr at h
  unfold vJ
  split at h
  ·rename_i z
   obtain⟨b,rfl,rfl⟩:=DataW.trod_bool z A
   try rw[z]
   simp only[ik,lQ,qC.fits]
   exact⟨_,_,rfl,⟨b,rfl⟩,rfl⟩
  ·rename_i k z
   obtain⟨n,rfl,rfl,Y⟩:=DataW.trod_int z A
   try rw[z]
   simp only[ik,lQ,qC.fits]
   exact⟨_,_,rfl,⟨n,rfl,Y⟩,rfl⟩
  ·rename_i z
   obtain⟨s,rfl,rfl,Z⟩:=DataW.trod_string z A
   try rw[z]
   simp only[ik,lQ,qC.fits]
   exact⟨_,_,rfl,⟨_,rfl,by rw[nh];exact Z⟩,rfl⟩
  ·rename_i e z
   simp only[fv] at h
   obtain⟨⟨_,h1⟩,h2⟩:=h
   try rw[z]
   rcases DataW.trod_slice z A with⟨rfl,rfl⟩|⟨a,len,cap,elems,rest,n,rfl,rfl,rfl,_,K,O,G,k5,_,_⟩
   ·simp only[ik,lQ,qC.fits]
    exact⟨_,_,rfl,.inl rfl,rfl⟩
   simp only[ik,lQ,qC.fits]
   refine⟨_,_,rfl,.inr ⟨_,rfl,by rw[BJ];simp only[cF];omega,fun r U=>?_⟩,rfl⟩
   rw[BJ,List.map_map] at U
   obtain⟨x,A,rfl⟩:=List.mem_map.1 U
   obtain⟨i,hi⟩:=HB A
   have I:i<len:=by rw[←G];exact(List.getElem?_eq_some_iff.1 hi).1
   have h:=k5 i I
   rw[hi] at h
   obtain⟨cs,c1,c2⟩:=Option.bind_eq_some_iff.1 h
   exact J n e cs x h2 c2
  ·rename_i fs z
   obtain⟨xs,n,rfl,rfl,K,O,G⟩:=DataW.trod_struct z A
   try rw[z]
   simp only[ik]
   exact Jz (cs:=cs) (fun t cs x hk A=>J n t cs x hk A) fs.toList 0 xs (by rw[K];exact h) (by simpa using O) (fun i f hf=>G i f (by simpa using hf))
  cases h
theorem RW{m:Nat}:∀(A:List TypeId)(vs:List Value)(z:List (DataW H))(ps:List MemPlace),DataW.TrodAll enc P w base (fun _=>true) held A vs z ps→(A.all (jr P m))=true→
  z.length=A.length∧∀(i:Nat)(t:TypeId)(d:DataW H),A[i]?=some t→z[i]?=some d→lQ (vJ P m t) (ik d)
 |[],vs,z,ps,h,_=>by
  cases vs with
  |cons=>cases z<;>simp[DataW.TrodAll] at h
  |nil=>cases z with
   |cons=>simp[DataW.TrodAll] at h
   |nil=>exact⟨rfl,fun i t d h=>by simp at h⟩
 |t::A,vs,z,ps,h,G=>by
  cases vs with
  |nil=>cases z<;>simp[DataW.TrodAll] at h
  |cons v vs=>cases z with
   |nil=>simp[DataW.TrodAll] at h
   |cons d z=>
    simp only[DataW.TrodAll] at h
    obtain⟨p,q,⟨fuel,J⟩,h2,rfl⟩:=h
    simp only[Em,fv] at G
    obtain⟨K,O⟩:=RW A vs z q h2 G.2
    refine⟨by simp[K],fun i t' U hi I=>?_⟩
    cases i with
    |zero=>simp at hi I;subst hi;subst I;exact TN m fuel t _ _ G.1 J
    |succ i=>exact O i t' U (by simpa using hi) (by simpa using I)
end
@[reducible] def oM(d x:Key):bo:=⟨some d,none,none,.nV (.t x)⟩
@[reducible] def oC(d:Key)(v:an):bo:=⟨some d,none,none,.nV (.c v)⟩
@[reducible] def oG(d g:Key)(b:Bool)(x:Key):bo:=⟨some d,some (g,b),none,.nV (.t x)⟩
@[reducible] def oP(d:Key)(i:bE):bo:=⟨some d,none,none,i⟩
@[reducible] def oN(i:bE):bo:=⟨none,none,none,i⟩
@[reducible] def oQ(d:Key)(l:List Nat)(i:bE):bo:=⟨some d,none,some l,i⟩
@[reducible] def oX(d g:Key)(b:Bool)(i:bE):bo:=⟨some d,some (g,b),none,i⟩
@[reducible] def cR(l:List bo):IC:=.region false l
@[reducible] def cD(l:List bo):IC:=.region true l
@[reducible] def t0:aF:=.t ah
@[reducible] def t1:aF:=.t aW
@[reducible] def t2:aF:=.t aB
@[reducible] def t3:aF:=.t aA
@[reducible] def nI(n:Nat):an:=.int .i64 (.ofNat n)
open Go
section
variable{P:Program}
theorem JA{ok:TypeId→Bool}:∀{z:List Field}{off n:Nat},tm P ok z off n=true→(∀f∈z,ok f.type=true)∧n=off+(z.map fun f=>P.cellsOf f.type).sum∧∀(j:Nat)f,z[j]?=some f→f.offset=off+((z.take j).map fun f=>P.cellsOf f.type).sum
 |[],off,n,h=>by
  have h:off=n:=d8 h
  subst h
  exact⟨fun f h=>by simp at h,by simp,fun j f h=>by simp at h⟩
 |f::r,off,n,h=>by
  simp only[tm,fv] at h
  obtain⟨⟨A,h2⟩,J⟩:=h
  have A:f.offset=off:=d8 A
  obtain⟨K,O,U⟩:=JA J
  refine⟨fun g G=>?_,by rw[O];simp only[ez,List.sum_cons];omega,fun j g I=>?_⟩
  ·rcases List.mem_cons.1 G with rfl|G
   ·exact h2
   exact K g G
  cases j with
  |zero=>simp at I;subst I;simpa using A
  |succ j=>
   rw[U j g (by simpa using I)]
   simp only[xB,ez,List.sum_cons]
   omega
def Bl(P:Program)(t:TypeId):Prop:=∃m,jr P m t=true
theorem Bl.kids:Kids P (Bl P):=by
 refine⟨fun{t e}⟨m,h⟩z=>?_,fun{t e}⟨m,h⟩z=>?_,fun{t e n}⟨m,h⟩z=>?_,fun{t O}⟨m,h⟩z=>?_,fun{t k e}⟨m,h⟩z=>?_⟩
 all_goals cases m with
  |zero=>simp[jr] at h
  |succ m=>?_
 ·unfold jr at h;rw[z] at h;simp at h
 ·unfold jr at h
  rw[z] at h
  simp only[fv] at h
  exact⟨m,h.2⟩
 ·unfold jr at h;rw[z] at h;simp at h
 ·unfold jr at h
  rw[z] at h
  obtain⟨A,G,I⟩:=JA h
  exact⟨fun f J=>⟨m,A f J⟩,by rw[G,jS],fun j f K=>by rw[I j f K,jS]⟩
 unfold jr at h;rw[z] at h;simp at h
theorem Bl.pos{t e:TypeId}(h:Bl P t)(z:P.underlying t=some (.slice e)):0<P.cellsOf e:=by
 obtain⟨m,h⟩:=h
 cases m with
 |zero=>simp[jr] at h
 |succ m=>
  unfold jr at h
  rw[z] at h
  simp only[fv] at h
  exact bS h.1.2
variable{H:Type}{enc:TypeId×Value→H}{w w':World}{base:Nat}{Pt:Nat→Bool}
theorem Kept.TO{m:Nat}(hk:Kept w w')(G:∀b,b<w.heap.size→Pt b=true):∀{I:List TypeId}{vs:List Value}{z:List (DataW H)}{ps:List MemPlace},I.all (jr P m)=true→DataW.TrodAll enc P w base (fun _=>true) true I vs z ps→DataW.TrodAll enc P w' base Pt true I vs z ps
 |[],vs,z,ps,_,h=>by
  cases vs with
  |cons=>cases z<;>simp[DataW.TrodAll] at h
  |nil=>cases z with
   |cons=>simp[DataW.TrodAll] at h
   |nil=>exact h
 |t::I,vs,z,ps,J,h=>by
  cases vs with
  |nil=>cases z<;>simp[DataW.TrodAll] at h
  |cons v vs=>cases z with
   |nil=>simp[DataW.TrodAll] at h
   |cons d z=>
    simp only[Em,fv] at J
    simp only[DataW.TrodAll] at h⊢
    obtain⟨p,q,⟨fuel,K⟩,h2,rfl⟩:=h
    refine⟨p,q,⟨fuel,DataW.trod_stays Bl.kids (fun h=>h.pos) (fun h=>by cases h) ⟨m,J.1⟩ K (fun x A=>hk.sameAt (DataW.trod_lt _ _ _ _ K x A)) fun x A=>G _ (DataW.trod_lt _ _ _ _ K x A)⟩,hk.TO G J.2 h2,rfl⟩
end
open Go
def cJ(bs:List UInt8):DC:=.s bs.length (pack bs)
section
variable{T:bf}{H0:Nat→Nat}{X0:Nat→Prop}{VE eb:b0}{B B':br}{E:Env}{H H':az}{β:Nat→Nat}{X:Nat→Prop}
variable{W:List Nat}{Q:VV→br→Prop}
theorem Rel.WN(z:Rel H0 X0 VE B E H β){x:aF}{l v:Nat}(A:x.vv VE=some (.d (.s l v))):x.ev E=some (.str l v):=by
 obtain⟨_,G,h2⟩:=z.b9 A
 simp only[aN,cM] at h2
 rw[G,h2]
theorem Rel.str(z:Rel H0 X0 VE B E H β){x:aF}{bs:List UInt8}(A:x.vv VE=some (.d (cJ bs))):x.ev E=some (.str bs.length (pack bs)):=z.WN A
theorem Rel.wm(z:Rel H0 X0 VE B E H β){x:aF}{k:IntKind}{n:Int}(A:x.vv VE=some (.d (.i k n))):x.ev E=some (.int k n):=by
 obtain⟨_,G,h2⟩:=z.b9 A
 simp only[aN,cM] at h2
 rw[G,h2]
theorem fH{x i:aF}{bs:List UInt8}{k:IntKind}{j:Nat}{c:UInt8}(I:x.vv VE=some (.d (cJ bs)))(hi:i.vv VE=some (.d (.i k (j:Int))))(J:bs[j]?=some c)(K:Q (.d (.i .u8 (c.toNat:Nat))) B):VI T (.rZ x i) VE B [] Q:=fun _ _ _ _ _ A=>by
 have O:=A.str I
 have h2:=A.wm hi
 obtain⟨z,U⟩:=List.getElem?_eq_some_iff.1 J
 refine fZ (v:=.int .u8 (.ofNat c.toNat)) (fun call=>?_) (eW A (v:=.d (.i .u8 (c.toNat:Nat))) (by simp only[aN,cM];rfl) K)
 show bA x _ (.err 14) (fun v=>jQ v (.err 14) fun l s=>bA i _ (.err 14) fun G=>Ev.idx G l (.err 14) fun j=>dp (vH s j) fun b=>.ok (.int .u8 (.ofNat b)) _)=_
 rw[dm,O,df]
 show bA i _ (.err 14) (fun G=>Ev.idx G bs.length (.err 14) fun j=>dp (vH (pack bs) j) fun b=>.ok (.int .u8 (.ofNat b)) _)=_
 rw[dm,h2,df]
 show aH (Nat.ble (Nat.succ j) bs.length) (dp (vH (pack bs) j) fun b=>aD.ok (.int .u8 (.ofNat b)) _) (aD.err 14)=_
 rw[show Nat.ble (Nat.succ j) bs.length=true from jA z,fV,iq,Ji bs j z,U]
def EJ(VE:b0):Option aF→Nat→Nat→Prop
 |none,d,n=>n=d
 |some x,_,n=>∃k,x.vv VE=some (.d (.i k (n:Int)))
theorem LN(A:Rel H0 X0 VE B E H β){x:Option aF}{d n y:Nat}(z:EJ VE x d n)(G:n≤y)(I:d≤y){e:aD}{k:Nat→aD}:gQ E x d y e k=k n:=by
 cases x with
 |none=>simp only[EJ] at z;subst z;rfl
 |some x=>
  obtain⟨J,z⟩:=z
  have h2:=A.wm z
  show ob (x.ev E) e (fun v=>gN v e fun _ i=>jd i e fun n=>aH (Nat.ble n y) (k n) e)=_
  rw[h2,df]
  show aH (Nat.ble n y) (k n) e=_
  rw[jA G,fV]
theorem j0{x:aF}{lo hi:Option aF}{bs:List UInt8}{l h:Nat}(I:x.vv VE=some (.d (cJ bs)))(J:EJ VE hi bs.length h)(K:EJ VE lo 0 l)(A:l≤h)(G:h≤bs.length)(O:Q (.d (cJ ((bs.drop l).take (h-l)))) B):VI T (.iM x lo hi) VE B [] Q:=fun _ _ _ _ _ z=>by
 have U:=z.str I
 have hlen:((bs.drop l).take (h-l)).length=h-l:=by rw[ng,iL];omega
 refine fZ (v:=.str (h-l) (xj (pack bs) l h)) (fun call=>?_) (eW z (v:=.d (cJ ((bs.drop l).take (h-l)))) (by simp only[aN,cJ,cM,Jj,hlen]) O)
 show bA x _ (.err 15) (fun v=>jQ v (.err 15) fun l s=>gQ _ hi l l (.err 15) fun h=>gQ _ lo 0 h (.err 15) fun lo=>dp (Nat.sub h lo) fun n=>dp (xj s lo h) fun s=>.ok (.str n s) _)=_
 rw[dm,U,df]
 show gQ _ hi bs.length bs.length (.err 15) (fun h=>gQ _ lo 0 h (.err 15) fun lo=>dp (Nat.sub h lo) fun n=>dp (xj (pack bs) lo h) fun s=>.ok (.str n s) _)=_
 rw[LN z J G (bY _),LN z K A (dh _),iq,iq]
 rfl
theorem TP{x y:aF}{a b:List UInt8}(A:x.vv VE=some (.d (cJ a)))(G:y.vv VE=some (.d (cJ b)))(I:a.length+b.length≤4611686018427387904)(J:Q (.d (cJ (a++b))) B):VI T (.bin .add x y) VE B [] Q:=fun _ _ _ _ _ z=>
 w7 (z.str A) (z.str G) (v:=.str (a.length+b.length) (zH a.length (pack a) (pack b))) (by
  show aH (Nat.ble (Nat.add a.length b.length) 4611686018427387904) (some (an.str (Nat.add a.length b.length) (zH a.length (pack a) (pack b)))) none=_
  rw[show Nat.ble (Nat.add a.length b.length) 4611686018427387904=true from jA I];rfl)
  (eW z (v:=.d (cJ (a++b))) (by simp only[aN,cJ,cM,bJ,Jk]) J)
theorem oj{x y:aF}{a b:List UInt8}(A:x.vv VE=some (.d (cJ a)))(G:y.vv VE=some (.d (cJ b)))(I:Q (.d (.b (decide (a=b)))) B):VI T (.bin .eql x y) VE B [] Q:=fun _ _ _ _ _ z=>
 w7 (z.str A) (z.str G) (v:=.bool (qZ a.length (pack a) b.length (pack b))) rfl (eW z (v:=.d (.b (decide (a=b)))) (by simp only[aN,cM,BF]) I)
theorem SN{x y:aF}{a b:List UInt8}(A:x.vv VE=some (.d (cJ a)))(G:y.vv VE=some (.d (cJ b)))(I:Q (.d (.b (!decide (a=b)))) B):VI T (.bin .neq x y) VE B [] Q:=fun _ _ _ _ _ z=>
 w7 (z.str A) (z.str G) (v:=.bool (!qZ a.length (pack a) b.length (pack b))) rfl (eW z (v:=.d (.b (!decide (a=b)))) (by simp only[aN,cM,BF]) I)
theorem vh{x:aF}{bs:List UInt8}(A:x.vv VE=some (.d (cJ bs)))(G:Q (.d (.i .i64 (bs.length:Nat))) B):VI T (.o3 x) VE B [] Q:=fun _ _ _ _ _ z=>
 KR (z.str A) (eW z (v:=.d (.i .i64 (bs.length:Nat))) (by simp only[aN,cM]) G)
theorem xr{op:BinOp}{x y:aF}{k:IntKind}{a b:Int}{r:Bool}(A:x.vv VE=some (.d (.i k a)))(G:y.vv VE=some (.d (.i k b)))(h:iT op k a k b=some (.bool r))(I:Q (.d (.b r)) B):VI T (.bin op x y) VE B [] Q:=fun _ _ _ _ _ z=>
 w7 (z.wm A) (z.wm G) (v:=.bool r) h (eW z (v:=.d (.b r)) (by simp only[aN,cM]) I)
theorem GO{x y:aF}{k:IntKind}{a b:Int}(z:x.vv VE=some (.d (.i k a)))(A:y.vv VE=some (.d (.i k b)))(G:Q (.d (.b (decide (a<b)))) B):VI T (.bin .lss x y) VE B [] Q:=xr z A (by rw[←pG];cases k<;>rfl) G
theorem r8{x y:aF}{k:IntKind}{a b:Int}(z:x.vv VE=some (.d (.i k a)))(A:y.vv VE=some (.d (.i k b)))(G:Q (.d (.b (decide (b<a)))) B):VI T (.bin .gtr x y) VE B [] Q:=xr z A (by rw[←pG];cases k<;>rfl) G
theorem Kr(a b:Int):(!decide (a<b))=decide (b≤a):=by
 by_cases h:a<b
 ·simp[h,Int.not_le.2 h]
 simp[h,Int.not_lt.1 h]
theorem pH{x y:aF}{k:IntKind}{a b:Int}(z:x.vv VE=some (.d (.i k a)))(A:y.vv VE=some (.d (.i k b)))(G:Q (.d (.b (decide (a≤b)))) B):VI T (.bin .leq x y) VE B [] Q:=xr z A (r:=!decide (b<a)) (by rw[←pG];cases k<;>rfl) (by rw[Kr];exact G)
theorem zT{x y:aF}{k:IntKind}{a b:Int}(z:x.vv VE=some (.d (.i k a)))(A:y.vv VE=some (.d (.i k b)))(G:Q (.d (.b (decide (b≤a)))) B):VI T (.bin .geq x y) VE B [] Q:=xr z A (r:=!decide (a<b)) (by rw[←pG];cases k<;>rfl) (by rw[Kr];exact G)
theorem hH{x y:aF}{k:IntKind}{a b:Int}(z:x.vv VE=some (.d (.i k a)))(A:y.vv VE=some (.d (.i k b)))(G:Q (.d (.b (decide (a=b)))) B):VI T (.bin .eql x y) VE B [] Q:=xr z A (by rw[←tE];cases k<;>rfl) G
theorem iu{x y:aF}{k:IntKind}{a b:Int}(z:x.vv VE=some (.d (.i k a)))(A:y.vv VE=some (.d (.i k b)))(G:Q (.d (.b (!decide (a=b)))) B):VI T (.bin .neq x y) VE B [] Q:=xr z A (by rw[←tE];cases k<;>rfl) G
theorem zf{op:BinOp}{x y:aF}{k:IntKind}{a b r:Int}(A:x.vv VE=some (.d (.i k a)))(G:y.vv VE=some (.d (.i k b)))(h:iT op k a k b=some (.int k r))(I:Q (.d (.i k r)) B):VI T (.bin op x y) VE B [] Q:=fun _ _ _ _ _ z=>
 w7 (z.wm A) (z.wm G) (v:=.int k r) h (eW z (v:=.d (.i k r)) (by simp only[aN,cM]) I)
theorem Cm{x y:aF}{k:IntKind}{a b:Int}(z:x.vv VE=some (.d (.i k a)))(A:y.vv VE=some (.d (.i k b)))(G:Q (.d (.i k (k.wrap (a+b)))) B):VI T (.bin .add x y) VE B [] Q:=zf z A (by rw[←mX];cases k<;>rfl) G
theorem Gt{x y:aF}{k:IntKind}{a b:Int}(z:x.vv VE=some (.d (.i k a)))(A:y.vv VE=some (.d (.i k b)))(G:Q (.d (.i k (k.wrap (a-b)))) B):VI T (.bin .sub x y) VE B [] Q:=zf z A (by rw[←mX];cases k<;>rfl) G
theorem LO{x y:aF}{k:IntKind}{a b:Int}(z:x.vv VE=some (.d (.i k a)))(A:y.vv VE=some (.d (.i k b)))(G:Q (.d (.i k (k.wrap (a*b)))) B):VI T (.bin .mul x y) VE B [] Q:=zf z A (by rw[←mX];cases k<;>rfl) G
theorem TQ{x y:aF}{k:IntKind}{a b:Int}(z:x.vv VE=some (.d (.i k a)))(A:y.vv VE=some (.d (.i k b)))(h0:l7 b 0=false)(G:Q (.d (.i k (k.wrap (a.tdiv b)))) B):VI T (.bin .quo x y) VE B [] Q:=zf z A (by
 have:iT .quo k a k b=aH (Nat.beq (dk k) (dk k)) (aH (l7 b 0) none (some (.int k (lT k (a.tdiv b))))) none:=rfl
 rw[this,h0,←mX,show Nat.beq (dk k) (dk k)=true from iZ _];rfl) G
theorem TR{x y:aF}{k:IntKind}{a b:Int}(z:x.vv VE=some (.d (.i k a)))(A:y.vv VE=some (.d (.i k b)))(h0:l7 b 0=false)(G:Q (.d (.i k (a.tmod b))) B):VI T (.bin .rem x y) VE B [] Q:=zf z A (by
 have:iT .rem k a k b=aH (Nat.beq (dk k) (dk k)) (aH (l7 b 0) none (some (.int k (a.tmod b)))) none:=rfl
 rw[this,h0,show Nat.beq (dk k) (dk k)=true from iZ _];rfl) G
theorem LP{x:aF}{k:IntKind}{a:Int}(A:x.vv VE=some (.d (.i k a)))(G:Q (.d (.i k (k.wrap (0-a)))) B):VI T (.un .neg x) VE B [] Q:=fun _ _ _ _ _ z=>
 Mz (z.wm A) (v:=.int k (lT k (0-a))) rfl (eW z (v:=.d (.i k (k.wrap (0-a)))) (by simp only[aN,cM,mX]) G)
theorem wrap_i64{a:Int}(z: -9223372036854775808≤a)(h2:a≤9223372036854775807):IntKind.i64.wrap a=a:=wrap64 z h2
theorem gi{x y:aF}{a b:Int}(z:x.vv VE=some (.d (.i .i64 a)))(A:y.vv VE=some (.d (.i .i64 b)))(G: -9223372036854775808≤a-b)(h2:a-b≤9223372036854775807)(I:Q (.d (.i .i64 (a-b))) B):VI T (.bin .sub x y) VE B [] Q:=
 Gt z A (by rw[wrap_i64 G h2];exact I)
theorem jL{x y:aF}{a b:Int}(z:x.vv VE=some (.d (.i .i64 a)))(A:y.vv VE=some (.d (.i .i64 b)))(G: -9223372036854775808≤a+b)(h2:a+b≤9223372036854775807)(I:Q (.d (.i .i64 (a+b))) B):VI T (.bin .add x y) VE B [] Q:=
 Cm z A (by rw[wrap_i64 G h2];exact I)
theorem TS{x:aF}{off n:Nat}{l:List VV}(A:x.vv VE=some (.agg l))(G:Nat.ble (off+n) l.length=true)(I:Q (.agg ((l.drop off).take n)) B):VI T (.sub x off n true) VE B [] Q:=fun _ _ _ _ _ z=>by
 obtain⟨_,J,h2⟩:=z.b9 A
 simp only[aN] at h2
 obtain⟨cs,rfl,h2⟩:=h2
 refine fZ (v:=.agg ((cs.drop off).take n)) (fun call=>?_) (eW z (v:=.agg ((l.drop off).take n)) (by simp only[aN];exact⟨_,rfl,(h2.drop off).take n⟩) I)
 show bA x _ (.err 10) (fun v=>oT v (.err 10) fun cs=>aH (Nat.ble (Nat.add off n) (jg cs)) (iG true ((cs.drop off).take n) (.err 10) fun v=>.ok v _) (.err 10))=_
 rw[dm,J,df]
 show aH (Nat.ble (Nat.add off n) (jg cs)) (iG true ((cs.drop off).take n) (aD.err 10) fun v=>aD.ok v _) (aD.err 10)=_
 rw[oq,h2.length,show Nat.ble (Nat.add off n) l.length=true from G];rfl
theorem Cn{x:aF}{off:Nat}{l:List VV}{v:VV}(G:x.vv VE=some (.agg l))(I:l[off]?=some v)(J:Q v B):VI T (.sub x off 1 false) VE B [] Q:=fun _ _ _ _ _ z=>by
 obtain⟨_,K,h2⟩:=z.b9 G
 simp only[aN] at h2
 obtain⟨cs,rfl,h2⟩:=h2
 obtain⟨a,O,U⟩:=h2.get I
 obtain⟨A,Y⟩:=List.getElem?_eq_some_iff.1 O
 refine fZ (v:=a) (fun call=>?_) (eW z U J)
 show bA x _ (.err 10) (fun v=>oT v (.err 10) fun cs=>aH (Nat.ble (Nat.add off 1) (jg cs)) (iG false ((cs.drop off).take 1) (.err 10) fun v=>.ok v _) (.err 10))=_
 rw[dm,K,df]
 show aH (Nat.ble (Nat.add off 1) (jg cs)) (iG false ((cs.drop off).take 1) (aD.err 10) fun v=>aD.ok v _) (aD.err 10)=_
 rw[oq,show Nat.ble (Nat.add off 1) cs.length=true from jA A,fV,Az A,xB,HC,Y]
 rfl
theorem TU{f:Nat}{l:List aF}{eD:List VV}(A:iW VE l=some eD)(G:Q (.fn f eD) B):VI T (.nR f [] l) VE B [] Q:=fun _ _ _ _ _ z=>by
 obtain⟨vs,I,h2⟩:=vg z A
 refine fZ (v:=.func f [] vs) (fun call=>?_) (eW z (v:=.fn f eD) (by simp only[aN];exact⟨vs,rfl,h2⟩) G)
 show ob (jF _ l) (aD.err 20) (fun vs=>aD.ok (.func f [] vs) _)=_
 rw[I,df]
theorem pj{x:aF}{b o:Nat}(G:x.vv VE=some (.vp b o))(I:Q (.vp b o) B):VI T (.oR x) VE B [] Q:=fun _ _ _ _ _ z=>by
 obtain⟨a,J,h2⟩:=z.b9 G
 have A:=h2
 simp only[aN] at A
 refine fZ (v:=a) (fun call=>?_) (eW z h2 I)
 show bA x _ (.err 19) (fun v=>aH (w4 v) (.ok v _) (.err 19))=_
 rw[dm,J,df,A];rfl
theorem RX{x:aF}{row:List DC}{o:Nat}(G:x.vv VE=some (.rp row o))(I:Q (.rp row o) B):VI T (.oR x) VE B [] Q:=fun _ _ _ _ _ A=>by
 obtain⟨a,J,h2⟩:=A.b9 G
 have z:=h2
 simp only[aN] at z
 obtain⟨f,g,q,l,z,_⟩:=z
 refine fZ (v:=a) (fun call=>?_) (eW A h2 I)
 show bA x _ (.err 19) (fun v=>aH (w4 v) (.ok v _) (.err 19))=_
 rw[dm,J,df,z];rfl
theorem RY{x:aF}{b g q o es:Nat}(G:x.vv VE=some (.bp b g q o es))(I:Q (.bp b g q o es) B):VI T (.oR x) VE B [] Q:=fun _ _ _ _ _ z=>by
 obtain⟨a,J,h2⟩:=z.b9 G
 have A:=h2
 simp only[aN] at A
 refine fZ (v:=a) (fun call=>?_) (eW z h2 I)
 show bA x _ (.err 19) (fun v=>aH (w4 v) (.ok v _) (.err 19))=_
 rw[dm,J,df,A];rfl
theorem RZ{x:aF}{f:Nat}{c:List VV}(G:x.vv VE=some (.fn f c))(I:Q (.fn f c) B):VI T (.oR x) VE B [] Q:=fun _ _ _ _ _ A=>by
 obtain⟨a,J,h2⟩:=A.b9 G
 have z:=h2
 simp only[aN] at z
 obtain⟨cs,z,_⟩:=z
 refine fZ (v:=a) (fun call=>?_) (eW A h2 I)
 show bA x _ (.err 19) (fun v=>aH (w4 v) (.ok v _) (.err 19))=_
 rw[dm,J,df,z];rfl
theorem TV{t:Nat}{x:aF}{v:VV}(A:x.vv VE=some v)(G:Q .jq B):VI T (.uJ t x) VE B [] Q:=fun _ _ _ _ _ z=>by
 obtain⟨a,I,_⟩:=z.b9 A
 refine fZ (v:=.iface t a) (fun call=>?_) (eW z (v:=.jq) (by simp only[aN];exact⟨_,_,rfl⟩) G)
 show bA x _ (.err 21) (fun v=>.ok (.iface t v) _)=_
 rw[dm,I,df]
def Hk:VV→Option Bool
 |.k .gA=>some true
 |.jq=>some false
 |_=>none
theorem SO{neg:Bool}{x y:aF}{v:VV}{t:Bool}(I:x.vv VE=some v)(J:y.vv VE=some (.k .gA))(z:Hk v=some t)(K:Q (.d (.b (Bool.xor neg t))) B):VI T (.eqv .iface neg x y) VE B [] Q:=fun _ _ _ _ _ A=>by
 obtain⟨a,O,h2⟩:=A.b9 I
 obtain⟨c,U,G⟩:=A.b9 J
 simp only[aN] at G
 subst G
 have he:ns .iface a .gA=some t:=by
  cases v with
  |jq=>simp only[aN] at h2;obtain⟨_,_,rfl⟩:=h2;cases z;rfl
  |k x=>
   simp only[aN] at h2
   subst h2
   cases a<;>simp only[Hk,reduceCtorEq,gO] at z
   subst z;rfl
  |_=>cases z
 exact Tw O U he (eW A (v:=.d (.b (Bool.xor neg t))) (by simp only[aN,cM]) K)
end
@[reducible] def dI(x:Int):VV:=.d (.i .i64 x)
@[reducible] def dS(x:List UInt8):VV:=.d (cJ x)
@[reducible] def dB(x:Bool):VV:=.d (.b x)
@[reducible] def dN:VV:=.d .nil
@[reducible] def d0:VV:=.d (.i .i64 0)
@[reducible] def i0:DC:=.i .i64 0
end Go.Ev
