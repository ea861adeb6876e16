/- Part 11 of rules for walks through the code of a program, and of such walks; what each part proves is said by its theorems. -/
import Derived.Test.YtijnechfhdlgiaaGreatDoorS10
import Derived.ChangeStays
set_option linter.unusedVariables false
set_option linter.unusedSimpArgs false
noncomputable section
set_option maxRecDepth 100000
set_option maxHeartbeats 4000000
namespace Go.Ev
open Go
theorem sound_true{T:bd}{f:Nat}(A:T.ft.get f=none)(h2:T.xt.get f=some 2):Sound T f [] fun r=>r= .d (.b true):=by
 intro H0 X H β l G z
 simp only[bu] at z
 subst z
 refine⟨1,.bool true,H,fun lf n _ h=>?_,.d (.b true),[],β,.refl,G,by simp only[aP,cY],by simp only[VV.nb],rfl⟩
 obtain⟨n,rfl⟩:∃n',n=n'+1:=⟨n-1,ah⟩
 show ob (T.ft.get f) (ob (T.xt.get f) (.err (Nat.add 10000 f)) fun c=>rB c [] H) _=_
 rw[A,h2]
 rfl
section
variable{H:Type}{enc:TypeId×Value→H}{P:Program}{w w':World}{base:Nat}{sp:Nat→Bool}{held:Bool}
theorem Kept.sameAt(hk:Kept w w'){p:MemPlace}(hp:p.block<w.heap.size):w.sameAt w' p:=by
 cases p with
 |cell b off=>exact cell_of_heap (a:=⟨b,off,none⟩) (hk.pY b hp)
 |map b=>exact hk.pY b hp
theorem law_runs{T:bd}{f m:Nat}{g:Func}{fn:bH}{A:List TypeId}{args:Array Value}{G:List (DataW H)}{ps:List MemPlace}{w1:World}{r:Reach}{b1:Nat}
  (hT:HU P T.ft) (I:PJ P T.xt) (z:P.follows .mixedOrders=true) (hf:P.funcs[f]?=some g) (hg:xz P g=some fn) (J:T.ft.get f=some fn)
  (K:zO P w) (hz:0<w.heap.size) (hA:DataW.TrodAll enc P w base (fun _=>true) held A args.toList G ps) (O:A.all (jD P m)=true)
  (U:∀(j:Nat)t v,A[j]?=some t→args.toList[j]?=some v→Value.okWide P w1 r b1 t v) (hs:Sound T f (Ch P A G) fun r=>r= .d (.b true)):
  Calls P f args w fun e w'=>e= .returned (.bool true)∧Kept w w':=by
 obtain⟨n,ρ,t,Y,_,h2,h3,h4⟩:=Lp hz A args.toList G ps hA O U _ _ _ (RS.start (P:=P) (w:=w) (bR _) K)
 have Z:i6 (mu n t) pc (mu n t) (XB pc [] fun _=>0):=⟨bR _,fun f _ I=>⟨fun k=>I (Ol f k),rfl⟩⟩
 obtain⟨N,v,H',k1,rv,_,_,_,_,k3,_,rfl⟩:=hs (fun _=>0) pc (mu n t) (fun _=>0) Y (Rel.start (dp _) (fun _ h=>h.elim)) (bu.lift Z h4)
 simp only[aP,cY] at k3
 subst k3
 have k4:=k1 N (N+1) (bR _) (tS _)
 have k5:ob (T.ft.get f) (ob (T.xt.get f) (.err (Nat.add 10000 f)) fun c=>rB c Y (mu n t)) (fun fn=>t6 (T.call N N) N fn Y (mu n t))= .ok (.bool true) H':=k4
 rw[J,dk] at k5
 refine Calls.mono (Tp (Oh z hT I N) z hf hg h2 k5 h3) fun e w'⟨cv,ρ',he,hv,hk⟩=>?_
 simp only[VR] at hv
 subst hv
 exact⟨he,hk⟩
end
inductive oh where
 |i (k:IntKind)
 |b
 |s
 |sl (row:List oh)
mutual
def oh.fits:oh→DC→Prop
 |.i k,d=>∃n,d= .i k n∧(Lit.int k n).wf=true
 |.b,d=>∃b,d= .b b
 |.s,d=>∃bs:List UInt8,d= .s bs.length (pack bs)∧bs.length≤maxLen
 |.sl row,d=>d= .nil∨∃rows,d= .sl rows∧rows.length≤maxLen∧∀r,r∈rows→jF row r
def jF:List oh→List DC→Prop
 |[],l=>l=[]
 |p::ps,l=>∃d r,l=d::r∧p.fits d∧jF ps r
end
mutual
def vf(P:Program):Nat→TypeId→List oh
 |0,_=>[]
 |n+1,t=>match P.underlying t with
  |some .bool=>[.b]
  |some (.int k)=>[.i k]
  |some .string=>[.s]
  |some (.slice e)=>[.sl (vf P n e)]
  |some (.struct z)=>z.toList.flatMap fun f=>vf P n f.type
  |some (.array k e)=>(uf P k e).flatMap fun f=>vf P n f.type
  |_=>[]
end
theorem KE:∀{ps z:List oh}{l m:List DC},jF ps l→jF z m→jF (ps++z) (l++m)
 |[],z,l,m,h,k=>by simp only[jF] at h;subst h;exact k
 |p::ps,z,l,m,h,k=>by
  simp only[jF] at h
  obtain⟨d,r,rfl,A,h2⟩:=h
  simp only[As,jF]
  exact⟨d,_,rfl,A,KE h2 k⟩
section
variable{H:Type}{enc:TypeId×Value→H}{P:Program}{w:World}{base:Nat}{held:Bool}
theorem G1{m n:Nat}{cs:List Value}(z:∀t cs x,jD P m t=true→DataW.trod enc P w base (fun _=>true) held n t cs=some x→jF (vf P m t) (iw x.1)):
  ∀(A:List Field)(off:Nat)(xs:List (DataW H×List MemPlace)),tb P (jD P m) A off cs.length=true→xs.length=A.length→
   (∀(i:Nat)(f:Field),A[i]?=some f→DataW.trod enc P w base (fun _=>true) held n f.type ((cs.drop f.offset).take (P.cellsOf f.type))=xs[i]?)→jF (A.flatMap fun f=>vf P m f.type) (vJ (xs.map (·.1)))
 |[],off,xs,h,G,_=>by
  obtain rfl:xs=[]:=um G
  simp only[gj,vJ,List.flatMap_nil,jF]
 |f::r,off,xs,h,G,J=>by
  cases xs with
  |nil=>simp at G
  |cons x0 K=>
   simp only[tb,fE] at h
   obtain⟨⟨h1,h2⟩,O⟩:=h
   have I:=J 0 f rfl
   have U:=z _ _ x0 h2 (by simpa using I)
   have Y:=G1 z r (off+P.cellsOf f.type) K O (by simpa using G) fun i g Z=>by simpa using J (i+1) g (by simpa using Z)
   simpa only[e7,vJ,List.flatMap_cons] using KE U Y
theorem V6:∀(m:Nat)(fuel:Nat)(t:TypeId)(cs:List Value)(x:DataW H×List MemPlace),jD P m t=true→DataW.trod enc P w base (fun _=>true) held fuel t cs=some x→jF (vf P m t) (iw x.1):=by
 intro m
 induction m with
 |zero=>intro fuel t cs x h;simp[jD] at h
 |succ m K=>
  intro fuel t cs x h A
  unfold jD at h
  unfold vf
  split at h
  ·rename_i z
   obtain⟨b,rfl,rfl⟩:=DataW.trod_bool z A
   try rw[z]
   simp only[iw,jF,oh.fits]
   exact⟨_,_,rfl,⟨b,rfl⟩,rfl⟩
  ·rename_i k z
   obtain⟨n,rfl,rfl,hw⟩:=DataW.trod_int z A
   try rw[z]
   simp only[iw,jF,oh.fits]
   exact⟨_,_,rfl,⟨n,rfl,hw⟩,rfl⟩
  ·rename_i z
   obtain⟨s,rfl,rfl,hl⟩:=DataW.trod_string z A
   try rw[z]
   simp only[iw,jF,oh.fits]
   exact⟨_,_,rfl,⟨_,rfl,by rw[nW];exact hl⟩,rfl⟩
  ·rename_i e z
   simp only[fE] at h
   obtain⟨⟨_,Y⟩,h2⟩:=h
   try rw[z]
   rcases DataW.trod_slice z A with⟨rfl,rfl⟩|⟨a,len,cap,elems,rest,n,rfl,rfl,rfl,_,I,J,G,k5,_,_⟩
   ·simp only[iw,jF,oh.fits]
    exact⟨_,_,rfl,.inl rfl,rfl⟩
   simp only[iw,jF,oh.fits]
   refine⟨_,_,rfl,.inr ⟨_,rfl,by rw[DH];simp only[ca];omega,fun r Z=>?_⟩,rfl⟩
   rw[DH,E7] at Z
   obtain⟨x,A,rfl⟩:=List.mem_map.1 Z
   obtain⟨i,hi⟩:=Jf A
   have O:i<len:=by rw[←G];exact(List.getElem?_eq_some_iff.1 hi).1
   have h:=k5 i O
   rw[hi] at h
   obtain⟨cs,c1,c2⟩:=Option.bind_eq_some_iff.1 h
   exact K n e cs x h2 c2
  ·rename_i fs z
   obtain⟨xs,n,rfl,rfl,I,J,G⟩:=DataW.trod_struct z A
   try rw[z]
   simp only[iw]
   exact G1 (cs:=cs) (fun t cs x hk A=>K n t cs x hk A) fs.toList 0 xs (by rw[I];exact h) (by simpa using J) (fun i f U=>G i f (by simpa using U))
  ·rename_i k e z
   simp only[fE] at h
   obtain⟨xs,n,rfl,rfl,I,J,G⟩:=DataW.trod_array z A
   try rw[z]
   simp only[iw]
   exact G1 (cs:=cs) (fun t cs x hk A=>K n t cs x hk A) (uf P k e) 0 xs (by rw[I];exact h.2) (by rw[J];unfold uf;rw[ca,II]) (fun i f U=>by obtain⟨hi,Y,h2⟩:=MR U;rw[Y,h2];exact G i hi)
  cases h
theorem Ub{m:Nat}:∀(A:List TypeId)(vs:List Value)(z:List (DataW H))(ps:List MemPlace),DataW.TrodAll enc P w base (fun _=>true) held A vs z ps→(A.all (jD P m))=true→
  z.length=A.length∧∀(i:Nat)(t:TypeId)(d:DataW H),A[i]?=some t→z[i]?=some d→jF (vf P m t) (iw d)
 |[],vs,z,ps,h,_=>by
  cases vs with
  |cons=>cases z<;>simp[DataW.TrodAll] at h
  |nil=>cases z with
   |cons=>simp[DataW.TrodAll] at h
   |nil=>exact⟨rfl,fun i t d h=>by simp at h⟩
 |t::A,vs,z,ps,h,G=>by
  cases vs with
  |nil=>cases z<;>simp[DataW.TrodAll] at h
  |cons v vs=>cases z with
   |nil=>simp[DataW.TrodAll] at h
   |cons d z=>
    simp only[DataW.TrodAll] at h
    obtain⟨p,q,⟨fuel,J⟩,h2,rfl⟩:=h
    simp only[FZ,fE] at G
    obtain⟨K,O⟩:=Ub A vs z q h2 G.2
    refine⟨by simp[K],fun i t' U hi I=>?_⟩
    cases i with
    |zero=>simp at hi I;subst hi;subst I;exact V6 m fuel t _ _ G.1 J
    |succ i=>exact O i t' U (by simpa using hi) (by simpa using I)
end
theorem V7{α:Type}{row:List oh}{e:α→List DC}(h:∀r,jF row r→∃a,r=e a){d:DC}(z:oh.fits (.sl row) d):∃o:Option (List α),d=rn e o:=by
 simp only[oh.fits] at z
 rcases z with rfl|⟨rows,rfl, -,A⟩
 ·exact⟨none,rfl⟩
 have:∃l:List α,rows=l.map e:=by
  induction rows with
  |nil=>exact⟨[],rfl⟩
  |cons r rs G=>
   obtain⟨a,rfl⟩:=h r (A r (lh ..))
   obtain⟨l,rfl⟩:=G (fun r k=>A r (oR _ k))
   exact⟨a::l,rfl⟩
 obtain⟨l,rfl⟩:=this
 exact⟨some l,rfl⟩
@[reducible] def oM(d x:Key):bA:=⟨some d,none,none,.o4 (.t x)⟩
@[reducible] def oC(d:Key)(v:ax):bA:=⟨some d,none,none,.o4 (.c v)⟩
@[reducible] def oG(d g:Key)(b:Bool)(x:Key):bA:=⟨some d,some (g,b),none,.o4 (.t x)⟩
@[reducible] def oP(d:Key)(i:bP):bA:=⟨some d,none,none,i⟩
@[reducible] def oN(i:bP):bA:=⟨none,none,none,i⟩
@[reducible] def oQ(d:Key)(l:List Nat)(i:bP):bA:=⟨some d,none,some l,i⟩
@[reducible] def oX(d g:Key)(b:Bool)(i:bP):bA:=⟨some d,some (g,b),none,i⟩
@[reducible] def cR(l:List bA):IC:=.region false l
@[reducible] def cD(l:List bA):IC:=.region true l
@[reducible] def t0:aI:=.t af
@[reducible] def t1:aI:=.t aN
@[reducible] def t2:aI:=.t aB
@[reducible] def t3:aI:=.t aA
@[reducible] def nI(n:Nat):ax:=.int .i64 (.ofNat n)
section
variable{P:Program}
theorem G2{ok:TypeId→Bool}:∀{z:List Field}{off n:Nat},tb P ok z off n=true→(∀f∈z,ok f.type=true)∧n=off+(z.map fun f=>P.cellsOf f.type).sum∧∀(j:Nat)f,z[j]?=some f→f.offset=off+((z.take j).map fun f=>P.cellsOf f.type).sum
 |[],off,n,h=>by
  have h:off=n:=eH h
  subst h
  exact⟨fun f h=>by simp at h,by simp,fun j f h=>by simp at h⟩
 |f::r,off,n,h=>by
  simp only[tb,fE] at h
  obtain⟨⟨A,h2⟩,J⟩:=h
  have A:f.offset=off:=eH A
  obtain⟨K,O,U⟩:=G2 J
  refine⟨fun g G=>?_,by rw[O];simp only[e7,List.sum_cons];omega,fun j g I=>?_⟩
  ·rcases List.mem_cons.1 G with rfl|G
   ·exact h2
   exact K g G
  cases j with
  |zero=>simp at I;subst I;simpa using A
  |succ j=>
   rw[U j g (by simpa using I)]
   simp only[xb,e7,List.sum_cons]
   omega
def De(P:Program)(t:TypeId):Prop:=∃m,jD P m t=true
theorem De.kids:Kids P (De P):=by
 refine⟨fun{t e}⟨m,h⟩z=>?_,fun{t e}⟨m,h⟩z=>?_,fun{t e n}⟨m,h⟩z=>?_,fun{t U}⟨m,h⟩z=>?_,fun{t k e}⟨m,h⟩z=>?_⟩
 all_goals cases m with
  |zero=>simp[jD] at h
  |succ m=>?_
 ·unfold jD at h;rw[z] at h;simp at h
 ·unfold jD at h
  rw[z] at h
  simp only[fE] at h
  exact⟨m,h.2⟩
 ·unfold jD at h
  rw[z] at h
  simp only[fE] at h
  refine⟨⟨m,h.1⟩,?_⟩
  rw[(G2 h.2).2.1,jR]
  unfold uf
  rw[E7,show((fun f:Field=>P.cellsOf f.type)∘fun i=>Field.mk default e (i*P.cellsOf e) default default default default)=fun _=>P.cellsOf e from rfl]
  clear h z
  generalize P.cellsOf e=c
  induction n with
  |zero=>simp
  |succ n A=>rw[List.range_succ,dx,List.sum_append,A,F3];simp
 ·unfold jD at h
  rw[z] at h
  obtain⟨G,I,J⟩:=G2 h
  exact⟨fun f K=>⟨m,G f K⟩,by rw[I,jR],fun j f O=>by rw[J j f O,jR]⟩
 unfold jD at h;rw[z] at h;simp at h
theorem De.pos{t e:TypeId}(h:De P t)(z:P.underlying t=some (.slice e)):0<P.cellsOf e:=by
 obtain⟨m,h⟩:=h
 cases m with
 |zero=>simp[jD] at h
 |succ m=>
  unfold jD at h
  rw[z] at h
  simp only[fE] at h
  exact b0 h.1.2
variable{H:Type}{enc:TypeId×Value→H}{w w':World}{base:Nat}{Rr:Nat→Bool}
theorem Kept.V8{m:Nat}(hk:Kept w w')(G:∀b,b<w.heap.size→Rr b=true):∀{I:List TypeId}{vs:List Value}{z:List (DataW H)}{ps:List MemPlace},I.all (jD P m)=true→DataW.TrodAll enc P w base (fun _=>true) true I vs z ps→DataW.TrodAll enc P w' base Rr true I vs z ps
 |[],vs,z,ps,_,h=>by
  cases vs with
  |cons=>cases z<;>simp[DataW.TrodAll] at h
  |nil=>cases z with
   |cons=>simp[DataW.TrodAll] at h
   |nil=>exact h
 |t::I,vs,z,ps,J,h=>by
  cases vs with
  |nil=>cases z<;>simp[DataW.TrodAll] at h
  |cons v vs=>cases z with
   |nil=>simp[DataW.TrodAll] at h
   |cons d z=>
    simp only[FZ,fE] at J
    simp only[DataW.TrodAll] at h⊢
    obtain⟨p,q,⟨fuel,K⟩,h2,rfl⟩:=h
    refine⟨p,q,⟨fuel,DataW.trod_stays De.kids (fun h=>h.pos) (fun h=>by cases h) ⟨m,J.1⟩ K (fun x A=>hk.sameAt (DataW.trod_lt _ _ _ _ K x A)) fun x A=>G _ (DataW.trod_lt _ _ _ _ K x A)⟩,hk.V8 G J.2 h2,rfl⟩
end
def cl(bs:List UInt8):DC:=.s bs.length (pack bs)
section
variable{T:bd}{H0:Nat→Nat}{X0:Nat→Prop}{VE eB:cj}{B B':bw}{E:Env}{H H':aE}{β:Nat→Nat}{X:Nat→Prop}
variable{W:List Nat}{Q:VV→bw→Prop}
theorem Rel.Y5(z:Rel H0 X0 VE B E H β){x:aI}{l v:Nat}(A:x.vv VE=some (.d (.s l v))):x.ev E=some (.str l v):=by
 obtain⟨_,G,h2⟩:=z.ch A
 simp only[aP,cY] at h2
 rw[G,h2]
theorem Rel.str(z:Rel H0 X0 VE B E H β){x:aI}{bs:List UInt8}(A:x.vv VE=some (.d (cl bs))):x.ev E=some (.str bs.length (pack bs)):=z.Y5 A
theorem Rel.rG(z:Rel H0 X0 VE B E H β){x:aI}{k:IntKind}{n:Int}(A:x.vv VE=some (.d (.i k n))):x.ev E=some (.int k n):=by
 obtain⟨_,G,h2⟩:=z.ch A
 simp only[aP,cY] at h2
 rw[G,h2]
theorem fR{x i:aI}{bs:List UInt8}{k:IntKind}{j:Nat}{c:UInt8}(I:x.vv VE=some (.d (cl bs)))(hi:i.vv VE=some (.d (.i k (j:Int))))(J:bs[j]?=some c)(K:Q (.d (.i .u8 (c.toNat:Nat))) B):VI T (.tu x i) VE B [] Q:=fun _ _ _ _ _ A=>by
 have O:=A.str I
 have h2:=A.rG hi
 obtain⟨z,U⟩:=List.getElem?_eq_some_iff.1 J
 refine gq (v:=.int .u8 (.ofNat c.toNat)) (fun call=>?_) (fi A (v:=.d (.i .u8 (c.toNat:Nat))) (by simp only[aP,cY];rfl) K)
 show bI x _ (.err 14) (fun v=>j7 v (.err 14) fun l s=>bI i _ (.err 14) fun G=>Ev.idx G l (.err 14) fun j=>dz (wZ s j) fun b=>.ok (.int .u8 (.ofNat b)) _)=_
 rw[dw,O,dk]
 show bI i _ (.err 14) (fun G=>Ev.idx G bs.length (.err 14) fun j=>dz (wZ (pack bs) j) fun b=>.ok (.int .u8 (.ofNat b)) _)=_
 rw[dw,h2,dk]
 show aJ (Nat.ble (Nat.succ j) bs.length) (dz (wZ (pack bs) j) fun b=>aH.ok (.int .u8 (.ofNat b)) _) (aH.err 14)=_
 rw[show Nat.ble (Nat.succ j) bs.length=true from jy z,gi,iG,KT bs j z,U]
def Aj(VE:cj):Option aI→Nat→Nat→Prop
 |none,d,n=>n=d
 |some x,_,n=>∃k,x.vv VE=some (.d (.i k (n:Int)))
theorem En(A:Rel H0 X0 VE B E H β){x:Option aI}{d n y:Nat}(z:Aj VE x d n)(G:n≤y)(I:d≤y){e:aH}{k:Nat→aH}:gH E x d y e k=k n:=by
 cases x with
 |none=>simp only[Aj] at z;subst z;rfl
 |some x=>
  obtain⟨J,z⟩:=z
  have h2:=A.rG z
  show ob (x.ev E) e (fun v=>gU v e fun _ i=>jc i e fun n=>aJ (Nat.ble n y) (k n) e)=_
  rw[h2,dk]
  show aJ (Nat.ble n y) (k n) e=_
  rw[jy G,gi]
theorem ko{x:aI}{lo hi:Option aI}{bs:List UInt8}{l h:Nat}(I:x.vv VE=some (.d (cl bs)))(J:Aj VE hi bs.length h)(K:Aj VE lo 0 l)(A:l≤h)(G:h≤bs.length)(O:Q (.d (cl ((bs.drop l).take (h-l)))) B):VI T (.js x lo hi) VE B [] Q:=fun _ _ _ _ _ z=>by
 have U:=z.str I
 have hlen:((bs.drop l).take (h-l)).length=h-l:=by rw[jH,gN];omega
 refine gq (v:=.str (h-l) (yC (pack bs) l h)) (fun call=>?_) (fi z (v:=.d (cl ((bs.drop l).take (h-l)))) (by simp only[aP,cl,cY,KU,hlen]) O)
 show bI x _ (.err 15) (fun v=>j7 v (.err 15) fun l s=>gH _ hi l l (.err 15) fun h=>gH _ lo 0 h (.err 15) fun lo=>dz (Nat.sub h lo) fun n=>dz (yC s lo h) fun s=>.ok (.str n s) _)=_
 rw[dw,U,dk]
 show gH _ hi bs.length bs.length (.err 15) (fun h=>gH _ lo 0 h (.err 15) fun lo=>dz (Nat.sub h lo) fun n=>dz (yC (pack bs) lo h) fun s=>.ok (.str n s) _)=_
 rw[En z J G (bR _),En z K A (dp _),iG,iG]
 rfl
theorem yq{x y:aI}{a b:List UInt8}(A:x.vv VE=some (.d (cl a)))(G:y.vv VE=some (.d (cl b)))(I:a.length+b.length≤4611686018427387904)(J:Q (.d (cl (a++b))) B):VI T (.bin .add x y) VE B [] Q:=fun _ _ _ _ _ z=>
 yo (z.str A) (z.str G) (v:=.str (a.length+b.length) (vd a.length (pack a) (pack b))) (by
  show aJ (Nat.ble (Nat.add a.length b.length) 4611686018427387904) (some (ax.str (Nat.add a.length b.length) (vd a.length (pack a) (pack b)))) none=_
  rw[show Nat.ble (Nat.add a.length b.length) 4611686018427387904=true from jy I];rfl)
  (fi z (v:=.d (cl (a++b))) (by simp only[aP,cl,cY,bE,Dx]) J)
theorem nL{x y:aI}{a b:List UInt8}(A:x.vv VE=some (.d (cl a)))(G:y.vv VE=some (.d (cl b)))(I:Q (.d (.b (decide (a=b)))) B):VI T (.bin .eql x y) VE B [] Q:=fun _ _ _ _ _ z=>
 yo (z.str A) (z.str G) (v:=.bool (sr a.length (pack a) b.length (pack b))) rfl (fi z (v:=.d (.b (decide (a=b)))) (by simp only[aP,cY,DD]) I)
theorem U2{x y:aI}{a b:List UInt8}(A:x.vv VE=some (.d (cl a)))(G:y.vv VE=some (.d (cl b)))(I:Q (.d (.b (!decide (a=b)))) B):VI T (.bin .neq x y) VE B [] Q:=fun _ _ _ _ _ z=>
 yo (z.str A) (z.str G) (v:=.bool (!sr a.length (pack a) b.length (pack b))) rfl (fi z (v:=.d (.b (!decide (a=b)))) (by simp only[aP,cY,DD]) I)
theorem uM{x:aI}{bs:List UInt8}(A:x.vv VE=some (.d (cl bs)))(G:Q (.d (.i .i64 (bs.length:Nat))) B):VI T (.pT x) VE B [] Q:=fun _ _ _ _ _ z=>
 My (z.str A) (fi z (v:=.d (.i .i64 (bs.length:Nat))) (by simp only[aP,cY]) G)
theorem yK{op:BinOp}{x y:aI}{k:IntKind}{a b:Int}{r:Bool}(A:x.vv VE=some (.d (.i k a)))(G:y.vv VE=some (.d (.i k b)))(h:jr op k a k b=some (.bool r))(I:Q (.d (.b r)) B):VI T (.bin op x y) VE B [] Q:=fun _ _ _ _ _ z=>
 yo (z.rG A) (z.rG G) (v:=.bool r) h (fi z (v:=.d (.b r)) (by simp only[aP,cY]) I)
theorem w4{x y:aI}{k:IntKind}{a b:Int}(z:x.vv VE=some (.d (.i k a)))(A:y.vv VE=some (.d (.i k b)))(G:Q (.d (.b (decide (a<b)))) B):VI T (.bin .lss x y) VE B [] Q:=yK z A (by rw[←pG];cases k<;>rfl) G
theorem tC{x y:aI}{k:IntKind}{a b:Int}(z:x.vv VE=some (.d (.i k a)))(A:y.vv VE=some (.d (.i k b)))(G:Q (.d (.b (decide (b<a)))) B):VI T (.bin .gtr x y) VE B [] Q:=yK z A (by rw[←pG];cases k<;>rfl) G
theorem L7(a b:Int):(!decide (a<b))=decide (b≤a):=by
 by_cases h:a<b
 ·simp[h,Int.not_le.2 h]
 simp[h,Int.not_lt.1 h]
theorem nO{x y:aI}{k:IntKind}{a b:Int}(z:x.vv VE=some (.d (.i k a)))(A:y.vv VE=some (.d (.i k b)))(G:Q (.d (.b (decide (a≤b)))) B):VI T (.bin .leq x y) VE B [] Q:=yK z A (r:=!decide (b<a)) (by rw[←pG];cases k<;>rfl) (by rw[L7];exact G)
theorem BO{x y:aI}{k:IntKind}{a b:Int}(z:x.vv VE=some (.d (.i k a)))(A:y.vv VE=some (.d (.i k b)))(G:Q (.d (.b (decide (b≤a)))) B):VI T (.bin .geq x y) VE B [] Q:=yK z A (r:=!decide (a<b)) (by rw[←pG];cases k<;>rfl) (by rw[L7];exact G)
theorem iC{x y:aI}{k:IntKind}{a b:Int}(z:x.vv VE=some (.d (.i k a)))(A:y.vv VE=some (.d (.i k b)))(G:Q (.d (.b (decide (a=b)))) B):VI T (.bin .eql x y) VE B [] Q:=yK z A (by rw[←ve];cases k<;>rfl) G
theorem iV{x y:aI}{k:IntKind}{a b:Int}(z:x.vv VE=some (.d (.i k a)))(A:y.vv VE=some (.d (.i k b)))(G:Q (.d (.b (!decide (a=b)))) B):VI T (.bin .neq x y) VE B [] Q:=yK z A (by rw[←ve];cases k<;>rfl) G
theorem A8{op:BinOp}{x y:aI}{k:IntKind}{a b r:Int}(A:x.vv VE=some (.d (.i k a)))(G:y.vv VE=some (.d (.i k b)))(h:jr op k a k b=some (.int k r))(I:Q (.d (.i k r)) B):VI T (.bin op x y) VE B [] Q:=fun _ _ _ _ _ z=>
 yo (z.rG A) (z.rG G) (v:=.int k r) h (fi z (v:=.d (.i k r)) (by simp only[aP,cY]) I)
theorem uX{x y:aI}{k:IntKind}{a b:Int}(z:x.vv VE=some (.d (.i k a)))(A:y.vv VE=some (.d (.i k b)))(G:Q (.d (.i k (k.wrap (a+b)))) B):VI T (.bin .add x y) VE B [] Q:=A8 z A (by rw[←nJ];cases k<;>rfl) G
theorem H3{x y:aI}{k:IntKind}{a b:Int}(z:x.vv VE=some (.d (.i k a)))(A:y.vv VE=some (.d (.i k b)))(G:Q (.d (.i k (k.wrap (a-b)))) B):VI T (.bin .sub x y) VE B [] Q:=A8 z A (by rw[←nJ];cases k<;>rfl) G
theorem Nt{x y:aI}{k:IntKind}{a b:Int}(z:x.vv VE=some (.d (.i k a)))(A:y.vv VE=some (.d (.i k b)))(G:Q (.d (.i k (k.wrap (a*b)))) B):VI T (.bin .mul x y) VE B [] Q:=A8 z A (by rw[←nJ];cases k<;>rfl) G
theorem Nu{x y:aI}{k:IntKind}{a b:Int}(z:x.vv VE=some (.d (.i k a)))(A:y.vv VE=some (.d (.i k b)))(h0:mK b 0=false)(G:Q (.d (.i k (k.wrap (a.tdiv b)))) B):VI T (.bin .quo x y) VE B [] Q:=A8 z A (by
 have:jr .quo k a k b=aJ (Nat.beq (dO k) (dO k)) (aJ (mK b 0) none (some (.int k (mB k (a.tdiv b))))) none:=rfl
 rw[this,h0,←nJ,show Nat.beq (dO k) (dO k)=true from jl _];rfl) G
theorem Nv{x y:aI}{k:IntKind}{a b:Int}(z:x.vv VE=some (.d (.i k a)))(A:y.vv VE=some (.d (.i k b)))(h0:mK b 0=false)(G:Q (.d (.i k (a.tmod b))) B):VI T (.bin .rem x y) VE B [] Q:=A8 z A (by
 have:jr .rem k a k b=aJ (Nat.beq (dO k) (dO k)) (aJ (mK b 0) none (some (.int k (a.tmod b)))) none:=rfl
 rw[this,h0,show Nat.beq (dO k) (dO k)=true from jl _];rfl) G
theorem H4{x:aI}{k:IntKind}{a:Int}(A:x.vv VE=some (.d (.i k a)))(G:Q (.d (.i k (k.wrap (0-a)))) B):VI T (.un .neg x) VE B [] Q:=fun _ _ _ _ _ z=>
 Ok (z.rG A) (v:=.int k (mB k (0-a))) rfl (fi z (v:=.d (.i k (k.wrap (0-a)))) (by simp only[aP,cY,nJ]) G)
theorem wrap_i64{a:Int}(z: -9223372036854775808≤a)(h2:a≤9223372036854775807):IntKind.i64.wrap a=a:=wrap64 z h2
theorem f3{x y:aI}{a b:Int}(z:x.vv VE=some (.d (.i .i64 a)))(A:y.vv VE=some (.d (.i .i64 b)))(G: -9223372036854775808≤a-b)(h2:a-b≤9223372036854775807)(I:Q (.d (.i .i64 (a-b))) B):VI T (.bin .sub x y) VE B [] Q:=
 H3 z A (by rw[wrap_i64 G h2];exact I)
theorem jj{x y:aI}{a b:Int}(z:x.vv VE=some (.d (.i .i64 a)))(A:y.vv VE=some (.d (.i .i64 b)))(G: -9223372036854775808≤a+b)(h2:a+b≤9223372036854775807)(I:Q (.d (.i .i64 (a+b))) B):VI T (.bin .add x y) VE B [] Q:=
 uX z A (by rw[wrap_i64 G h2];exact I)
theorem V9{x:aI}{off n:Nat}{l:List VV}(A:x.vv VE=some (.agg l))(G:Nat.ble (off+n) l.length=true)(I:Q (.agg ((l.drop off).take n)) B):VI T (.sub x off n true) VE B [] Q:=fun _ _ _ _ _ z=>by
 obtain⟨_,J,h2⟩:=z.ch A
 simp only[aP] at h2
 obtain⟨cs,rfl,h2⟩:=h2
 refine gq (v:=.agg ((cs.drop off).take n)) (fun call=>?_) (fi z (v:=.agg ((l.drop off).take n)) (by simp only[aP];exact⟨_,rfl,(h2.drop off).take n⟩) I)
 show bI x _ (.err 10) (fun v=>pN v (.err 10) fun cs=>aJ (Nat.ble (Nat.add off n) (jI cs)) (jf true ((cs.drop off).take n) (.err 10) fun v=>.ok v _) (.err 10))=_
 rw[dw,J,dk]
 show aJ (Nat.ble (Nat.add off n) (jI cs)) (jf true ((cs.drop off).take n) (aH.err 10) fun v=>aH.ok v _) (aH.err 10)=_
 rw[pA,h2.length,show Nat.ble (Nat.add off n) l.length=true from G];rfl
theorem Eo{x:aI}{off:Nat}{l:List VV}{v:VV}(G:x.vv VE=some (.agg l))(I:l[off]?=some v)(J:Q v B):VI T (.sub x off 1 false) VE B [] Q:=fun _ _ _ _ _ z=>by
 obtain⟨_,K,h2⟩:=z.ch G
 simp only[aP] at h2
 obtain⟨cs,rfl,h2⟩:=h2
 obtain⟨a,O,U⟩:=h2.get I
 obtain⟨A,Y⟩:=List.getElem?_eq_some_iff.1 O
 refine gq (v:=a) (fun call=>?_) (fi z U J)
 show bI x _ (.err 10) (fun v=>pN v (.err 10) fun cs=>aJ (Nat.ble (Nat.add off 1) (jI cs)) (jf false ((cs.drop off).take 1) (.err 10) fun v=>.ok v _) (.err 10))=_
 rw[dw,K,dk]
 show aJ (Nat.ble (Nat.add off 1) (jI cs)) (jf false ((cs.drop off).take 1) (aH.err 10) fun v=>aH.ok v _) (aH.err 10)=_
 rw[pA,show Nat.ble (Nat.add off 1) cs.length=true from jy A,gi,Cs A,xb,Jg,Y]
 rfl
theorem V'{f:Nat}{l:List aI}{ff:List VV}(A:jv VE l=some ff)(G:Q (.fn f ff) B):VI T (.oU f [] l) VE B [] Q:=fun _ _ _ _ _ z=>by
 obtain⟨vs,I,h2⟩:=wC z A
 refine gq (v:=.func f [] vs) (fun call=>?_) (fi z (v:=.fn f ff) (by simp only[aP];exact⟨vs,rfl,h2⟩) G)
 show ob (ki _ l) (aH.err 20) (fun vs=>aH.ok (.func f [] vs) _)=_
 rw[I,dk]
theorem qc{x:aI}{b o:Nat}(G:x.vv VE=some (.vp b o))(I:Q (.vp b o) B):VI T (.pM x) VE B [] Q:=fun _ _ _ _ _ z=>by
 obtain⟨a,J,h2⟩:=z.ch G
 have A:=h2
 simp only[aP] at A
 refine gq (v:=a) (fun call=>?_) (fi z h2 I)
 show bI x _ (.err 19) (fun v=>aJ (yl v) (.ok v _) (.err 19))=_
 rw[dw,J,dk,A];rfl
theorem Uc{x:aI}{row:List DC}{o:Nat}(G:x.vv VE=some (.rp row o))(I:Q (.rp row o) B):VI T (.pM x) VE B [] Q:=fun _ _ _ _ _ A=>by
 obtain⟨a,J,h2⟩:=A.ch G
 have z:=h2
 simp only[aP] at z
 obtain⟨f,g,q,l,z,_⟩:=z
 refine gq (v:=a) (fun call=>?_) (fi A h2 I)
 show bI x _ (.err 19) (fun v=>aJ (yl v) (.ok v _) (.err 19))=_
 rw[dw,J,dk,z];rfl
theorem Ud{x:aI}{b g q o es:Nat}(G:x.vv VE=some (.bp b g q o es))(I:Q (.bp b g q o es) B):VI T (.pM x) VE B [] Q:=fun _ _ _ _ _ z=>by
 obtain⟨a,J,h2⟩:=z.ch G
 have A:=h2
 simp only[aP] at A
 refine gq (v:=a) (fun call=>?_) (fi z h2 I)
 show bI x _ (.err 19) (fun v=>aJ (yl v) (.ok v _) (.err 19))=_
 rw[dw,J,dk,A];rfl
theorem Ue{x:aI}{f:Nat}{c:List VV}(G:x.vv VE=some (.fn f c))(I:Q (.fn f c) B):VI T (.pM x) VE B [] Q:=fun _ _ _ _ _ A=>by
 obtain⟨a,J,h2⟩:=A.ch G
 have z:=h2
 simp only[aP] at z
 obtain⟨cs,z,_⟩:=z
 refine gq (v:=a) (fun call=>?_) (fi A h2 I)
 show bI x _ (.err 19) (fun v=>aJ (yl v) (.ok v _) (.err 19))=_
 rw[dw,J,dk,z];rfl
theorem Wa{t:Nat}{x:aI}{v:VV}(A:x.vv VE=some v)(G:Q .jV B):VI T (.vT t x) VE B [] Q:=fun _ _ _ _ _ z=>by
 obtain⟨a,I,_⟩:=z.ch A
 refine gq (v:=.iface t a) (fun call=>?_) (fi z (v:=.jV) (by simp only[aP];exact⟨_,_,rfl⟩) G)
 show bI x _ (.err 21) (fun v=>.ok (.iface t v) _)=_
 rw[dw,I,dk]
def I4:VV→Option Bool
 |.k .il=>some true
 |.jV=>some false
 |_=>none
theorem U3{neg:Bool}{x y:aI}{v:VV}{t:Bool}(I:x.vv VE=some v)(J:y.vv VE=some (.k .il))(z:I4 v=some t)(K:Q (.d (.b (Bool.xor neg t))) B):VI T (.eqv .iface neg x y) VE B [] Q:=fun _ _ _ _ _ A=>by
 obtain⟨a,O,h2⟩:=A.ch I
 obtain⟨c,U,G⟩:=A.ch J
 simp only[aP] at G
 subst G
 have he:n8 .iface a .il=some t:=by
  cases v with
  |jV=>simp only[aP] at h2;obtain⟨_,_,rfl⟩:=h2;cases z;rfl
  |k x=>
   simp only[aP] at h2
   subst h2
   cases a<;>simp only[I4,reduceCtorEq,ia] at z
   subst z;rfl
  |_=>cases z
 exact VP O U he (fi A (v:=.d (.b (Bool.xor neg t))) (by simp only[aP,cY]) K)
end
@[reducible] def dI(x:Int):VV:=.d (.i .i64 x)
@[reducible] def dS(x:List UInt8):VV:=.d (cl x)
@[reducible] def dB(x:Bool):VV:=.d (.b x)
@[reducible] def dN:VV:=.d .nil
@[reducible] def d0:VV:=.d (.i .i64 0)
@[reducible] def i0:DC:=.i .i64 0
@[reducible] def zS:List VV:=[d0,d0,d0,d0,dN,dN,dS [],dS [],dN,d0,d0,dN,d0,dN,dN,dN,dN,dN,d0,d0,d0]
variable{T:bd}{VE:cj}{B:bw}{Q:cj→bw→Prop}
theorem L8{call:fc}{E:Env}{H H1:aE}{n:Nat}{w:Bool}{a:aI}{f g o:Nat}{v:ax}(z:a.ev E=some (.ptr f g o))(h:(bP.load n w a).ev call E H= .ok v H1):H1=H:=by
 have key:PS H ((bP.load n w a).ev call E H):=by
  rw[HY z]
  exact PS.jt (fun _ _ _ _ _ _ _=>PS.aJ (PS.aJ (PS.aJ (PS.aJ (PS.ob (fun _=>PS.aJ (PS.jf (fun _=>PS.ok) PS.err) (PS.jf (fun _=>PS.ok) PS.err)) PS.err) PS.err) PS.err) PS.err) PS.err) PS.err
 exact key _ _ h
theorem U4{fl:List FL}{d:Key}{l:List Nat}{n:Nat}{w:Bool}{a:aI}{b o:Nat}{s:BS}{r:List bA}(ha:a.vv VE=some (.vp b o))(U:bf B b=some s)(Y:s.born)(hk:ox [] l fl=true)(h:VI T (.load n w a) VE B [] fun v B'=>VQ T r ((d.n,v)::VE) B' (.rd [b]::fl) Q):VQ T (⟨some d,none,some l,.load n w a⟩::r) VE B fl Q:=by
 intro H0 X0 E H β A b9 J
 obtain⟨N,v0,H',e,K,v,B',β',Z,O,hv,hq⟩:=Bq h A
 obtain⟨x,hx,G⟩:=A.ch ha
 simp only[aP] at G
 subst G
 have z:H'=H.mark:=L8 hx (e N N (bR _) (bR _))
 have I:H.mark.ws=[]∧H.mark.next=H.next:=by cases H;exact⟨rfl,rfl⟩
 have k:vV H.next B β (.rd [b]) ⟨(bP.load n w a).reads E,H'.ws,H.next,H'.next⟩:=by
  refine⟨by rw[z];exact I.1,by show H.next=H'.next;rw[z];exact I.2.symm,[β b],?_,fun f J=>?_⟩
  ·show some (ju (a.ev E))=_
   rw[hx];rfl
  rcases List.mem_singleton.1 J with rfl
  exact⟨(A.new b s U Y).2,fun c t K h2 h3=>List.mem_singleton.2 (A.inj c b t s K U h2 Y h3)⟩
 obtain⟨N2,E2,H2,e2,hp⟩:=hq H0 X0 _ _ β' (O.set hv) (⟨(bP.load n w a).reads E,H'.ws,H.next,H'.next⟩::b9) ((J.cons k).step Z)
 refine⟨max N N2,E2,H2,fun lf n a1 a2=>?_,hp.of Z A.bj⟩
 show bA.nT (T.call lf n) ⟨some d,none,some l,_⟩ E H b9 (mz (T.call lf n) r)=_
 rw[AV,AW (e lf n ah ah) (yf J K hk)]
 exact e2 lf n ah ah
theorem Rel.Xm{H0:Nat→Nat}{X0:Nat→Prop}{E:Env}{H:aE}{β:Nat→Nat}(h:Rel H0 X0 VE B E H β){b i e I:Nat}{row:List VV}{pY:VV}(hb:bf B b=some (.one e I row))(hi:row[i]?=some pY):Rel H0 X0 VE ((b,.one e I (row.set i .undef))::B) E H β:=by
 have J:∀c s,bf ((b,BS.one e I (row.set i .undef))::B) c=some s→s.born→∃t,bf B c=some t∧t.born:=fun c s z ho=>by
  rw[eM] at z
  by_cases k:b=c
  ·subst k;exact⟨_,hb,trivial⟩
  rw[al k] at z;exact⟨s,z,ho⟩
 have hX:∀f,XB X0 ((b,BS.one e I (row.set i .undef))::B) β f→XB X0 B β f:=fun f K=>K.imp id fun⟨c,s,O,ho,h2⟩=>by
  obtain⟨t,A,G⟩:=J c s O ho
  exact⟨c,t,A,G,h2⟩
 have U:i6 H (XB X0 B β) H (XB X0 ((b,BS.one e I (row.set i .undef))::B) β):=⟨bR _,fun f _ K=>⟨fun k=>K (hX f k),rfl⟩⟩
 refine⟨h.o9,h.bj,h.x0,fun c s z ho=>?_,fun c d s t z Y hs ht he=>?_,fun k v hk=>?_,fun c s z=>?_⟩
 ·obtain⟨t,A,G⟩:=J c s z ho;exact h.new c t A G
 ·obtain⟨s',A,G⟩:=J c s z hs
  obtain⟨t',Z,k4⟩:=J d t Y ht
  exact h.inj c d s' t' A Z G k4 he
 ·obtain⟨a,O,h2⟩:=h.env k v hk
  exact⟨a,O,h2.lift U⟩
 rw[eM] at z
 by_cases k:b=c
 ·subst k
  rw[az rfl] at z
  cases z
  obtain⟨l,lo,cs,A,G,Z,k4⟩:=h.box b _ hb
  exact⟨l,lo,cs,A,G,Z,bu.lift U (bu.setAt (new:=.undef) (fun a _=>trivial) k4 hi)⟩
 rw[al k] at z;exact(h.box c s z).lift U rfl
theorem Tq{b i e A:Nat}{row:List VV}(G:bf B b=some (.one e A row)):∀c s,bf ((b,BS.one e A (row.set i .undef))::B) c=some s→s.born→∃t,bf B c=some t∧t.born:=fun c s z ho=>by
 rw[eM] at z
 by_cases k:b=c
 ·subst k;exact⟨_,G,trivial⟩
 rw[al k] at z;exact⟨s,z,ho⟩
theorem jX{ops:List bA}(b i:Nat){e z:Nat}{row:List VV}{pY:VV}(A:bf B b=some (.one e z row))(hi:row[i]?=some pY)(h:VO T ops VE ((b,.one e z (row.set i .undef))::B) Q):VO T ops VE B Q:=
 fun H0 X0 E H β G=>(h H0 X0 E H β (G.Xm A hi)).mono fun _ _ hp=>hp.more (Tq A)
theorem Rel.Xn{H0:Nat→Nat}{X0:Nat→Prop}{E:Env}{H:aE}{β:Nat→Nat}(h:Rel H0 X0 VE B E H β){b i g e I elem aV es:Nat}{row:List VV}(O:bf B b=some (.one e I row))(hi:row[i]?=some (.d .nil))(hg:bf B g=none):Rel H0 X0 VE ((g,.acc elem aV es [])::(b,.one e I (row.set i (.ac g 0 es)))::B) E H β:=by
 have hgb:g≠b:=fun k=>by rw[k,O] at hg;cases hg
 have K:∀c s,bf ((g,BS.acc elem aV es [])::(b,BS.one e I (row.set i (.ac g 0 es)))::B) c=some s→s.born→∃t,bf B c=some t∧t.born:=fun c s z ho=>by
  rw[eM] at z
  by_cases J:g=c
  ·rw[az J] at z;cases z;exact absurd rfl ho
  rw[al J,eM] at z
  by_cases k:b=c
  ·subst k;exact⟨_,O,trivial⟩
  rw[al k] at z;exact⟨s,z,ho⟩
 have hX:∀f,XB X0 ((g,BS.acc elem aV es [])::(b,BS.one e I (row.set i (.ac g 0 es)))::B) β f→XB X0 B β f:=fun f U=>U.imp id fun⟨c,s,Y,ho,h2⟩=>by
  obtain⟨t,A,G⟩:=K c s Y ho
  exact⟨c,t,A,G,h2⟩
 have Z:i6 H (XB X0 B β) H (XB X0 ((g,BS.acc elem aV es [])::(b,BS.one e I (row.set i (.ac g 0 es)))::B) β):=⟨bR _,fun f _ U=>⟨fun k=>U (hX f k),rfl⟩⟩
 refine⟨h.o9,h.bj,h.x0,fun c s z ho=>?_,fun c d s t z uy hs ht he=>?_,fun k v hk=>?_,fun c s z=>?_⟩
 ·obtain⟨t,A,G⟩:=K c s z ho;exact h.new c t A G
 ·obtain⟨s',A,G⟩:=K c s z hs
  obtain⟨t',k3,k4⟩:=K d t uy ht
  exact h.inj c d s' t' A k3 G k4 he
 ·obtain⟨a,Y,h2⟩:=h.env k v hk
  exact⟨a,Y,h2.lift Z⟩
 rw[eM] at z
 by_cases J:g=c
 ·rw[az J] at z;cases z;exact .inl rfl
 rw[al J,eM] at z
 by_cases k:b=c
 ·subst k
  rw[az rfl] at z
  cases z
  obtain⟨l,lo,cs,A,G,k3,k4⟩:=h.box b _ O
  exact⟨l,lo,cs,A,G,k3,bu.lift Z (bu.setAt (new:=.ac g 0 es) (fun a ha=>by simp only[aP,cY] at ha⊢;exact .inl ⟨trivial,ha⟩) k4 hi)⟩
 rw[al k] at z;exact(h.box c s z).lift Z rfl
theorem nH{ops:List bA}(b i g elem aV es:Nat){e A:Nat}{row:List VV}(G:bf B b=some (.one e A row))(hi:row[i]?=some (.d .nil))(J:bf B g=none)(h:VO T ops VE ((g,.acc elem aV es [])::(b,.one e A (row.set i (.ac g 0 es)))::B) Q):VO T ops VE B Q:=
 fun H0 X0 E H β K=>(h H0 X0 E H β (K.Xn G hi J)).mono fun _ _ hp=>hp.more fun c s z ho=>by
  rw[eM] at z
  by_cases I:g=c
  ·rw[az I] at z;cases z;exact absurd rfl ho
  rw[al I,eM] at z
  by_cases k:b=c
  ·subst k;exact⟨_,G,trivial⟩
  rw[al k] at z;exact⟨s,z,ho⟩
variable{T:bd}{VE:cj}{B:bw}{Q:cj→bw→Prop}
def Qx(op:BinOp)(a b:Int):Option Bool:=match op with
 |.lss=>some (decide (a<b))
 |.gtr=>some (decide (b<a))
 |.leq=>some (decide (a≤b))
 |.geq=>some (decide (b≤a))
 |.eql=>some (decide (a=b))
 |.neq=>some (!decide (a=b))
 |_=>none
def gd{α:Type}(b:Bool)(x:Option α):Option α:=bif b then x else none
theorem ou{α:Type}{b:Bool}{x:Option α}{y:α}(h:gd b x=some y):b=true∧x=some y:=by
 cases b
 ·cases h
 exact⟨rfl,h⟩
theorem iX{a b:Bool}(h:(a&&b)=true):a=true∧b=true:=by simpa using h
def mf(VE:cj)(B:bw)(d:Nat):bP→Option (VV×bw×List Nat)
 |.o4 x=>(x.vv VE).bind fun v=>some (v,B,[])
 |.oT x k=>match x.vv VE with
  |some (.vp b o)=>some (.vp b (o+k),B,[])
  |some (.rp row o)=>some (.rp row (o+k),B,[])
  |some (.bp b g j o es)=>some (.bp b g j (o+k) es,B,[])
  |_=>none
 |.load n w a=>match a.vv VE with
  |some (.vp b o)=>match bf B b with
   |some (.one _ _ row)=>match w with
    |true=>gd (Nat.ble 1 n&&Nat.ble (o+n) row.length) (some (.agg ((row.drop o).take n),B,[]))
    |false=>gd (Nat.beq n 1) ((row[o]?).bind fun v=>some (v,B,[]))
   |_=>none
  |some (.rp row o)=>match w with
   |true=>gd (Nat.ble 1 n&&Nat.ble (o+n) row.length) (some (.agg (((row.drop o).take n).map .d),B,[]))
   |false=>gd (Nat.beq n 1) ((row[o]?).bind fun v=>some (.d v,B,[]))
  |_=>none
 |.store n a x=>match a.vv VE with
  |some (.vp b o)=>match bf B b with
   |some (.one e G row)=>(x.vv VE).bind fun v=>v.cells.bind fun new=>gd (Nat.beq new.length n&&(Nat.ble 1 n&&Nat.ble (o+n) row.length)) (some (.undef,(b,.one e G (Gf row o new))::B,[b]))
   |_=>none
  |_=>none
 |.build zero ps=>(re zero).bind fun z=>(yI VE ps z).bind fun out=>some (.agg out,B,[])
 |.box elem es aV x=>gd (oe d VE&&og d B) ((x.vv VE).bind fun v=>v.cells.bind fun c=>gd (Nat.beq c.length es) (some (.vp d 0,(d,.one elem aV c)::B,[])))
 |.cw elem es aV l=>gd (oe d VE&&(og d B&&Nat.beq l.length es)) ((re l).bind fun c=>some (.vp d 0,(d,.one elem aV c)::B,[]))
 |.cG elem es aV A zero ps=>gd (oe d VE&&(og d B&&Nat.beq zero.length es)) ((re zero).bind fun z=>(lO z).bind fun I=>(wB VE es A ps (List.replicate A I)).bind fun rows=>some (.bs d A es,(d,.arr elem aV es A rows)::B,[]))
 |.pM x=>match x.vv VE with
  |some (.vp b o)=>some (.vp b o,B,[])
  |some (.rp row o)=>some (.rp row o,B,[])
  |some (.bp b g q o es)=>some (.bp b g q o es,B,[])
  |some (.fn f c)=>some (.fn f c,B,[])
  |_=>none
 |.sub x off n w=>match x.vv VE with
  |some (.agg l)=>match w with
   |true=>gd (Nat.ble (off+n) l.length) (some (.agg ((l.drop off).take n),B,[]))
   |false=>gd (Nat.beq n 1) ((l[off]?).bind fun v=>some (v,B,[]))
  |_=>none
 |.sF x i=>match x.vv VE with
  |some (.tuple l)=>(l[i]?).bind fun v=>some (v,B,[])
  |_=>none
 |.un op x=>match op with
  |.not=>match x.vv VE with|some (.d (.b b))=>some (.d (.b (!b)),B,[])|_=>none
  |_=>none
 |.oU f first l=>match first with
  |[]=>(jv VE l).bind fun c=>some (.fn f c,B,[])
  |_=>none
 |.vT _ x=>(x.vv VE).bind fun _=>some (.jV,B,[])
 |.len x=>match x.vv VE with
  |some (.d (.sl rows))=>some (.d (.i .i64 rows.length),B,[])
  |some (.d .nil)=>some (.d (.i .i64 0),B,[])
  |some (.bs _ n _)=>some (.d (.i .i64 n),B,[])
  |some (.ac _ n _)=>some (.d (.i .i64 n),B,[])
  |_=>none
 |.pT x=>match x.vv VE with|some (.d (.s l _))=>some (.d (.i .i64 l),B,[])|_=>none
 |.conv k x=>match x.vv VE with|some (.d (.i _ n))=>some (.d (.i k (k.wrap n)),B,[])|_=>none
 |.bin op x y=>match x.vv VE with
  |some (.d (.i k a))=>match y.vv VE with
   |some (.d (.i J b))=>if J=k then(Qx op a b).bind fun r=>some (.d (.b r),B,[]) else none
   |_=>none
  |_=>none
 |.pick c x y=>match c.vv VE with
  |some (.d (.b true))=>(x.vv VE).bind fun v=>some (v,B,[])
  |some (.d (.b false))=>(y.vv VE).bind fun v=>some (v,B,[])
  |_=>none
 |.eqv c neg x y=>match c with
  |.iface=>match y.vv VE with
   |some (.k .il)=>(x.vv VE).bind fun v=>(I4 v).bind fun t=>some (.d (.b (Bool.xor neg t)),B,[])
   |_=>none
  |_=>none
 |_=>none
theorem uG{d:Nat}{op:bP}{v:VV}{B':bw}{W:List Nat}{R:VV→bw→Prop}(h:mf VE B d op=some (v,B',W))(G:R v B'):VI T op VE B W R:=by
 cases op with
 |o4 x=>
  obtain⟨u,A,h⟩:=Option.bind_eq_some_iff.1 h
  cases h;exact bY A G
 |oT x k=>
  simp only[mf] at h
  split at h
  ·rename_i A;cases h;exact dD A G
  ·rename_i A;cases h;exact oj A G
  ·rename_i A;cases h;exact wM A G
  cases h
 |load n w a=>
  simp only[mf] at h
  split at h
  ·rename_i A
   split at h
   ·rename_i Y
    cases w with
    |true=>
     obtain⟨I,h2⟩:=ou h
     obtain⟨I,J⟩:=iX I
     cases h2
     exact oi A Y (b0 I) (b0 J) G
    |false=>
     obtain⟨I,h2⟩:=ou h
     obtain⟨u,J,K⟩:=Option.bind_eq_some_iff.1 h2
     obtain rfl:=eH I
     cases K
     exact df A Y J G
   cases h
  ·rename_i A
   cases w with
   |true=>
    obtain⟨I,h2⟩:=ou h
    obtain⟨I,J⟩:=iX I
    cases h2
    exact mR A (b0 I) (b0 J) G
   |false=>
    obtain⟨I,h2⟩:=ou h
    obtain⟨u,J,K⟩:=Option.bind_eq_some_iff.1 h2
    obtain rfl:=eH I
    cases K
    exact km A J G
  cases h
 |store n a x=>
  simp only[mf] at h
  split at h
  ·rename_i ha
   split at h
   ·rename_i Y
    obtain⟨u,A,h⟩:=Option.bind_eq_some_iff.1 h
    obtain⟨new,hv,h⟩:=Option.bind_eq_some_iff.1 h
    obtain⟨I,h2⟩:=ou h
    obtain⟨I,J⟩:=iX I
    obtain⟨J,K⟩:=iX J
    cases h2
    exact LX ha Y A hv (eH I) (b0 J) (b0 K) G
   cases h
  cases h
 |build zero ps=>
  obtain⟨z,Z,h⟩:=Option.bind_eq_some_iff.1 h
  obtain⟨out,Y,h⟩:=Option.bind_eq_some_iff.1 h
  cases h;exact UW Z Y G
 |box elem es aV x=>
  obtain⟨I,h⟩:=ou h
  obtain⟨I,h2⟩:=iX I
  obtain⟨u,A,h⟩:=Option.bind_eq_some_iff.1 h
  obtain⟨c,U,h⟩:=Option.bind_eq_some_iff.1 h
  obtain⟨J,h⟩:=ou h
  cases h;exact Xi d I h2 A U (eH J) G
 |cw elem es aV l=>
  obtain⟨I,h⟩:=ou h
  obtain⟨I,h2⟩:=iX I
  obtain⟨h2,J⟩:=iX h2
  obtain⟨c,U,h⟩:=Option.bind_eq_some_iff.1 h
  cases h;exact V4 d I h2 U (eH J) G
 |cG elem es aV ln zero ps=>
  obtain⟨I,h⟩:=ou h
  obtain⟨I,h2⟩:=iX I
  obtain⟨h2,J⟩:=iX h2
  obtain⟨z,Z,h⟩:=Option.bind_eq_some_iff.1 h
  obtain⟨zd,hd,h⟩:=Option.bind_eq_some_iff.1 h
  obtain⟨rows,hr,h⟩:=Option.bind_eq_some_iff.1 h
  cases h;exact Tn d I h2 Z hd (eH J) hr G
 |pM x=>
  simp only[mf] at h
  split at h
  ·rename_i A;cases h;exact qc A G
  ·rename_i A;cases h;exact Uc A G
  ·rename_i A;cases h;exact Ud A G
  ·rename_i A;cases h;exact Ue A G
  cases h
 |sub x off n w=>
  simp only[mf] at h
  split at h
  ·rename_i A
   cases w with
   |true=>
    obtain⟨I,h2⟩:=ou h
    cases h2;exact V9 A I G
   |false=>
    obtain⟨I,h2⟩:=ou h
    obtain⟨u,J,K⟩:=Option.bind_eq_some_iff.1 h2
    obtain rfl:=eH I
    cases K;exact Eo A J G
  cases h
 |sF x i=>
  simp only[mf] at h
  split at h
  ·rename_i A
   obtain⟨u,J,K⟩:=Option.bind_eq_some_iff.1 h
   cases K;exact V3 A J G
  cases h
 |un op x=>
  simp only[mf] at h
  split at h
  ·split at h
   ·rename_i A;cases h;exact j0 A G
   cases h
  cases h
 |oU f first l=>
  simp only[mf] at h
  split at h
  ·obtain⟨u,J,K⟩:=Option.bind_eq_some_iff.1 h
   cases K;exact V' J G
  cases h
 |vT t x=>
  obtain⟨u,A,h⟩:=Option.bind_eq_some_iff.1 h
  cases h;exact Wa A G
 |len x=>
  simp only[mf] at h
  split at h
  ·rename_i A;cases h;exact BM A G
  ·rename_i A;cases h;exact Ei A G
  ·rename_i A;cases h;exact V1 A G
  ·rename_i A;cases h;exact yp A G
  cases h
 |pT x=>
  simp only[mf] at h
  split at h
  ·rename_i A;cases h;exact V2 A G
  cases h
 |conv k x=>
  simp only[mf] at h
  split at h
  ·rename_i A;cases h;exact uW A G
  cases h
 |bin op x y=>
  simp only[mf] at h
  split at h
  ·rename_i A
   split at h
   ·rename_i O
    split at h
    ·rename_i hk
     subst hk
     obtain⟨r,J,K⟩:=Option.bind_eq_some_iff.1 h
     cases K
     cases op<;>simp only[Qx] at J<;>(first|cases J)<;>first|exact w4 A O G|exact tC A O G|exact nO A O G|exact BO A O G|exact iC A O G|exact iV A O G
    cases h
   cases h
  cases h
 |pick c x y=>
  simp only[mf] at h
  split at h
  ·rename_i U
   obtain⟨u,J,K⟩:=Option.bind_eq_some_iff.1 h
   cases K;exact MH U J G
  ·rename_i U
   obtain⟨u,J,K⟩:=Option.bind_eq_some_iff.1 h
   cases K;exact MI U J G
  cases h
 |eqv c neg x y=>
  simp only[mf] at h
  split at h
  ·split at h
   ·rename_i O
    obtain⟨u,A,h⟩:=Option.bind_eq_some_iff.1 h
    obtain⟨t,ht,h⟩:=Option.bind_eq_some_iff.1 h
    cases h;exact U3 A O ht G
   cases h
  cases h
 |_=>cases h
def Qy(VE:cj)(v:VV):Option Key→cj
 |some k=>(k.n,v)::VE
 |none=>VE
def Qz:Option Key→Nat
 |some k=>k.n
 |none=>0
def FB:Nat→List bA→cj→bw→Option (cj×bw×List bA)
 |0,ops,VE,B=>some (VE,B,ops)
 |_+1,[],_,_=>none
 |n+1,o::r,VE,B=>match o.g with
  |none=>(mf VE B (Qz o.dst) o.op).bind fun x=>FB n r (Qy VE x.1 o.dst) x.2.1
  |some _=>none
theorem ae(n:Nat){ops:List bA}{eB:cj}{B':bw}{r:List bA}(h:FB n ops VE B=some (eB,B',r))(k:VO T r eB B' Q):VO T ops VE B Q:=by
 induction n generalizing ops VE B with
 |zero=>cases h;exact k
 |succ n z=>
  cases ops with
  |nil=>cases h
  |cons o rest=>
   obtain⟨d,g,q,op⟩:=o
   cases g with
   |some _=>cases h
   |none=>
    obtain⟨x,A,h2⟩:=Option.bind_eq_some_iff.1 h
    obtain⟨v,G,W⟩:=x
    cases d with
    |some d=>exact aj (uG A (z h2))
    |none=>exact Ir (uG A (z h2))
def I5(VE:cj)(B:bw)(W:List Nat):bP→FL
 |.load _ _ a=>match a.vv VE with
  |some (.vp b _)=>match bf B b with
   |some (.one _ _ _)=>.rd [b]
   |_=>uc W
  |_=>uc W
 |_=>uc W
def FC:Nat→List bA→cj→bw→List FL→Option (cj×bw×List FL×List bA)
 |0,ops,VE,B,fl=>some (VE,B,fl,ops)
 |_+1,[],_,_,_=>none
 |n+1,o::r,VE,B,fl=>match o.g with
  |none=>(mf VE B (Qz o.dst) o.op).bind fun x=>match o.q with
   |none=>match o.dst with
    |some k=>FC n r ((k.n,x.1)::VE) x.2.1 fl
    |none=>none
   |some l=>gd (ox x.2.2 l fl) (FC n r (Qy VE x.1 o.dst) x.2.1 ((match o.dst with|none=>uc x.2.2|some _=>I5 VE B x.2.2 o.op)::fl))
  |some _=>none
theorem U5{fl:List FL}{d:Key}{l:List Nat}{op:bP}{W:List Nat}{r:List bA}{v:VV}{B':bw}(z:mf VE B d.n op=some (v,B',W))(hk:ox W l fl=true)(h:VQ T r ((d.n,v)::VE) B' (I5 VE B W op::fl) Q):VQ T (⟨some d,none,some l,op⟩::r) VE B fl Q:=by
 cases op with
 |load n w a=>
  simp only[I5] at h
  split at h
  ·rename_i A
   split at h
   ·rename_i G
    have I:W=[]:=by
     simp only[mf,A,G] at z
     cases w
     ·obtain⟨_,z⟩:=ou z
      obtain⟨u,_,J⟩:=Option.bind_eq_some_iff.1 z
      cases J;rfl
     obtain⟨_,z⟩:=ou z
     cases z;rfl
    subst I
    exact U4 A G trivial hk (uG z h)
   exact dy hk (uG z h)
  exact dy hk (uG z h)
 |_=>exact dy hk (uG z h)
theorem bD(n:Nat){ops:List bA}{fl z:List FL}{eB:cj}{B':bw}{r:List bA}(h:FC n ops VE B fl=some (eB,B',z,r))(k:VQ T r eB B' z Q):VQ T ops VE B fl Q:=by
 induction n generalizing ops VE B fl with
 |zero=>cases h;exact k
 |succ n A=>
  cases ops with
  |nil=>cases h
  |cons o rest=>
   obtain⟨d,g,q,op⟩:=o
   cases g with
   |some _=>cases h
   |none=>
    obtain⟨x,G,h2⟩:=Option.bind_eq_some_iff.1 h
    obtain⟨v,K,W⟩:=x
    cases q with
    |none=>
     cases d with
     |some d=>exact bG (uG G (A h2))
     |none=>cases h2
    |some l=>
     obtain⟨I,J⟩:=ou h2
     cases d with
     |some d=>exact U5 G I (A J)
     |none=>exact UQ I (uG G (A J))
theorem ai{a:List bA}{c:IC}{R:Ex→cj→bw→Prop}(h:VO T a VE B fun eB B'=>VC T c eB B' R):VC T (.seq (.region false a) c) VE B R:=aL (bC h)
theorem eO{a:List bA}{c:IC}{R:Ex→cj→bw→Prop}(h:VQ T a VE B [] fun eB B'=>VC T c eB B' R):VC T (.seq (.region true a) c) VE B R:=aL (im h)
theorem an(n:Nat){a:List bA}{c:IC}{R:Ex→cj→bw→Prop}{eB:cj}{B':bw}(h:FB n a VE B=some (eB,B',[]))(k:VC T c eB B' R):VC T (.seq (.region false a) c) VE B R:=ai (ae n h (aX k))
theorem ak(n:Nat){ops:List bA}{eB:cj}{B':bw}(h:FB n ops VE B=some (eB,B',[]))(k:Q eB B'):VO T ops VE B Q:=ae n h (aX k)
theorem du(n:Nat){ops:List bA}{fl z:List FL}{eB:cj}{B':bw}(h:FC n ops VE B fl=some (eB,B',z,[]))(k:Q eB B'):VQ T ops VE B fl Q:=bD n h (ow k)
theorem Ts{T:bd}{f:Nat}(A:T.ft.get f=none)(h2:T.xt.get f=some 3){s:List UInt8}{u:Nat}(G:s.length≤1000)(I:Lib.parseUintB 64 s= .ok u):
  Sound T f [.d (cl s),.d (.i .i64 10),.d (.i .i64 64)] fun r=>r= .tuple [.d (.i .u64 u),.k .il]:=by
 intro H0 X H β l J z
 simp only[bu,aP,cl,cY] at z
 obtain⟨_,_,rfl,rfl,_,_,rfl,rfl,_,_,rfl,rfl,rfl⟩:=z
 refine⟨1,.tuple [.int .u64 u,.il],H,fun lf n _ h=>?_,.tuple [.d (.i .u64 u),.k .il],[],β,.refl,J,by simp only[aP,cY,bu];exact⟨_,rfl,_,_,rfl,rfl,_,_,rfl,rfl,rfl⟩,by simp only[VV.nb,mL];exact⟨trivial,trivial,trivial⟩,rfl⟩
 obtain⟨n,rfl⟩:∃n',n=n'+1:=⟨n-1,ah⟩
 show ob (T.ft.get f) (ob (T.xt.get f) (.err (Nat.add 10000 f)) fun c=>rB c _ H) _=_
 rw[A,h2]
 show vD [.str s.length (pack s),.int .i64 10,.int .i64 64] H=_
 simp only[vD]
 rw[az ⟨trivial,trivial,trivial,trivial,G⟩,A1,I]
theorem Uf{T:bd}{f t:Nat}(I:T.ft.get f=none)(h2:T.xt.get f=some (4+t)){s:List UInt8}(J:s.length≤1000)(K:(∃v,Lib.parseIntB 64 s= .ok v)∨Lib.parseIntB 64 s= .range):
  Sound T f [.d (cl s),.d (.i .i64 10),.d (.i .i64 64)] fun r=>∃n e,r= .tuple [.d (.i .i64 n),e]∧((∃m,Lib.parseIntB 64 s= .ok m∧n=m∧e= .k .il)∨(Lib.parseIntB 64 s= .range∧e= .jV)):=by
 intro H0 X H β l A G
 simp only[bu,aP,cl,cY] at G
 obtain⟨_,_,rfl,rfl,_,_,rfl,rfl,_,_,rfl,rfl,rfl⟩:=G
 have key:∀lf n,1≤n→T.call lf n f [.str s.length (pack s),.int .i64 10,.int .i64 64] H=t7 t [.str s.length (pack s),.int .i64 10,.int .i64 64] H:=fun lf n h=>by
  obtain⟨n,rfl⟩:∃n',n=n'+1:=⟨n-1,ah⟩
  show ob (T.ft.get f) (ob (T.xt.get f) (.err (Nat.add 10000 f)) fun c=>rB c _ H) _=_
  rw[I,h2,show 4+t=t+4 by omega]
  rfl
 have e:t7 t [.str s.length (pack s),.int .i64 10,.int .i64 64] H=(match Lib.parseIntB 64 s with
  |.ok v=>.ok (.tuple [.int .i64 v,.il]) H
  |.range=>.ok (.tuple [.int .i64 (Lib.intSat 64 s),.iface t (.map 0)]) H
  |_=>.err 93):=by
  simp only[t7]
  rw[az ⟨trivial,trivial,trivial,trivial,J⟩,A1]
  cases Lib.parseIntB 64 s<;>rfl
 rcases K with⟨m,z⟩|z
 ·refine⟨1,.tuple [.int .i64 m,.il],H,fun lf n _ h=>?_,.tuple [.d (.i .i64 m),.k .il],[],β,.refl,A,by simp only[aP,cY,bu];exact⟨_,rfl,_,_,rfl,rfl,_,_,rfl,rfl,rfl⟩,by simp only[VV.nb,mL];exact⟨trivial,trivial,trivial⟩,_,_,rfl,.inl ⟨m,z,rfl,rfl⟩⟩
  rw[key lf n h,e,z]
 refine⟨1,.tuple [.int .i64 (Lib.intSat 64 s),.iface t (.map 0)],H,fun lf n _ h=>?_,.tuple [.d (.i .i64 (Lib.intSat 64 s)),.jV],[],β,.refl,A,by simp only[aP,cY,bu];exact⟨_,rfl,_,_,rfl,rfl,_,_,rfl,⟨_,_,rfl⟩,rfl⟩,by simp only[VV.nb,mL];exact⟨trivial,trivial,trivial⟩,_,_,rfl,.inr ⟨z,rfl⟩⟩
 rw[key lf n h,e,z]
section
variable{T:bd}{VE:cj}{B:bw}{Q:cj→bw→Prop}
theorem aY{d g:Key}{want t:Bool}{A:Option (List Nat)}{op:bP}{r:List bA}(G:bf VE g.n=some (.d (.b t)))(I:t=!want)(h:VO T r ((d.n,.k .undef)::VE) B Q):VO T (⟨some d,some (g,want),A,op⟩::r) VE B Q:=by
 intro H0 X0 E H β z
 refine MB (z.bool G) (by rw[I];cases want<;>decide) ?_
 exact h H0 X0 _ H β (z.set (by simp only[aP]))
theorem D1{d g:Key}{want:Bool}{A:Option (List Nat)}{op:bP}{r:List bA}(G:bf VE g.n=some (.k .undef))(h:VO T r ((d.n,.k .undef)::VE) B Q):VO T (⟨some d,some (g,want),A,op⟩::r) VE B Q:=by
 intro H0 X0 E H β z
 obtain⟨a,I,h2⟩:=z.env g _ G
 simp only[aP] at h2
 subst h2
 obtain⟨J,K,O,b,c⟩:=h H0 X0 (E.set d .undef) H β (z.set (by simp only[aP]))
 refine⟨J,K,O,fun lf n U Y=>?_,c⟩
 show ob (E.get g) (.err 51) (fun v=>xq v (k9 (some d) E H fun E H=>nu (T.call lf n) r E H) fun b=>aJ (Bool.xor b want) (k9 (some d) E H fun E H=>nu (T.call lf n) r E H) (fin (some d) E (fun E H=>nu (T.call lf n) r E H) (op.ev (T.call lf n) E H)))=_
 rw[I,dk]
 show k9 (some d) E H (fun E H=>nu (T.call lf n) r E H)=_
 rw[wK]
 exact b lf n U Y
end
variable{T:bd}
theorem Lr{E:Env}{H:aE}{x i:aI}{z es f g o:Nat}{k:IntKind}{j:Nat}{Q:ax→aE→Prop}(G:x.ev E=some (.ptr f g o))(hi:i.ev E=some (.int k (j:Int)))(I:j<z)(J:Q (.ptr f g (o+j*es)) H):jq T (.eb z es x i) E H Q:=
 gq (fun _=>by
  show bI x E (.err 11) (fun v=>iW v (.err 11) fun f g off=>bI i E (.err 11) fun A=>idx A z (.err 11) fun j=>dz (Nat.add off (Nat.mul j es)) fun off=>.ok (.ptr f g off) H)=_
  rw[dw,G,dk]
  show bI i E (.err 11) (fun A=>idx A z (.err 11) fun j=>dz (Nat.add o (Nat.mul j es)) fun off=>.ok (.ptr f g off) H)=_
  rw[dw,hi,dk]
  show aJ (Nat.ble (Nat.succ j) z) (dz (o+j*es) fun off=>aH.ok (.ptr f g off) H) (aH.err 11)=_
  rw[jy I,iG];rfl) J
variable{VE:cj}{B:bw}{Q:VV→bw→Prop}
theorem eg{x i:aI}{G es b o j:Nat}{k:IntKind}(I:x.vv VE=some (.vp b o))(hi:i.vv VE=some (.d (.i k (j:Int))))(J:j<G)(K:Q (.vp b (o+j*es)) B):VI T (.eb G es x i) VE B [] Q:=fun _ _ _ _ _ z=>by
 obtain⟨_,O,h2⟩:=z.ch I
 obtain⟨_,U,A⟩:=z.ch hi
 simp only[aP] at h2 A
 simp only[cY] at A
 subst A;subst h2
 exact Lr O U J (fi z (v:=.vp b (o+j*es)) (by simp only[aP]) K)
end Go.Ev
