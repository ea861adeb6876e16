/- Part 11 of rules for walks through the code of a program, and of such walks; what each part proves is said by its theorems. -/
import Derived.Test.YtijnechfhdlgiaaGreatDoorS10
import Derived.ChangeStays
set_option linter.unusedVariables false
set_option linter.unusedSimpArgs false
namespace Go.Ev
open Go
theorem sound_true{T:bd}{f:Nat}(A:T.ft.get f=none)(h2:T.xt.get f=some 2):Sound T f [] fun r=>r= .d (.b true):=by
 intro H0 X H β l G z
 simp only[bm] at z
 subst z
 refine⟨1,.bool true,H,fun lf n _ h=>?_,.d (.b true),[],β,.refl,G,by simp only[aM,cN],by simp only[VV.nb],rfl⟩
 obtain⟨n,rfl⟩:∃n',n=n'+1:=⟨n-1,by omega⟩
 show ob (T.ft.get f) (ob (T.xt.get f) (.err (Nat.add 10000 f)) fun c=>qM c [] H) _=_
 rw[A,h2]
 rfl
section
variable{H:Type}{enc:TypeId×Value→H}{P:Program}{w w':World}{base:Nat}{sp:Nat→Bool}{held:Bool}
theorem Kept.sameAt(hk:Kept w w'){p:MemPlace}(hp:p.block<w.heap.size):w.sameAt w' p:=by
 cases p with
 |cell b off=>exact cell_of_heap (a:=⟨b,off,none⟩) (hk.pv b hp)
 |map b=>exact hk.pv b hp
theorem law_runs{T:bd}{f m:Nat}{g:Func}{fn:bH}{A:List TypeId}{args:Array Value}{G:List (DataW H)}{ps:List MemPlace}{w1:World}{r:Reach}{b1:Nat}
  (hT:Hd P T.ft) (I:OQ P T.xt) (z:P.follows .mixedOrders=true) (hf:P.funcs[f]?=some g) (hg:wF P g=some fn) (J:T.ft.get f=some fn)
  (K:yj P w) (hz:0<w.heap.size) (hA:DataW.TrodAll enc P w base (fun _=>true) held A args.toList G ps) (O:A.all (jf P m)=true)
  (U:∀(j:Nat)t v,A[j]?=some t→args.toList[j]?=some v→Value.okWide P w1 r b1 t v) (hs:Sound T f (AM P A G) fun r=>r= .d (.b true)):
  Calls P f args w fun e w'=>e= .returned (.bool true)∧Kept w w':=by
 obtain⟨n,ρ,t,Y,_,h2,h3,h4⟩:=Kz hz A args.toList G ps hA O U _ _ _ (RS.start (P:=P) (w:=w) (bV _) K)
 have Z:iH (l7 n t) oq (l7 n t) (XB oq [] fun _=>0):=⟨bV _,fun f _ I=>⟨fun k=>I (Nu f k),rfl⟩⟩
 obtain⟨N,v,H',k1,rv,_,_,_,_,k3,_,rfl⟩:=hs (fun _=>0) oq (l7 n t) (fun _=>0) Y (Rel.start (da _) (fun _ h=>h.elim)) (bm.lift Z h4)
 simp only[aM,cN] at k3
 subst k3
 have k4:=k1 N (N+1) (bV _) (sM _)
 have k5:ob (T.ft.get f) (ob (T.xt.get f) (.err (Nat.add 10000 f)) fun c=>qM c Y (l7 n t)) (fun fn=>sQ (T.call N N) N fn Y (l7 n t))= .ok (.bool true) H':=k4
 rw[J,di] at k5
 refine Calls.mono (R9 (Np z hT I N) z hf hg h2 k5 h3) fun e w'⟨cv,ρ',he,hv,hk⟩=>?_
 simp only[VR] at hv
 subst hv
 exact⟨he,hk⟩
end
open Go
inductive nL where
 |i (k:IntKind)
 |b
 |s
 |sl (row:List nL)
mutual
def nL.fits:nL→DC→Prop
 |.i k,d=>∃n,d= .i k n∧(Lit.int k n).wf=true
 |.b,d=>∃b,d= .b b
 |.s,d=>∃bs:List UInt8,d= .s bs.length (pack bs)∧bs.length≤maxLen
 |.sl row,d=>d= .nil∨∃rows,d= .sl rows∧rows.length≤maxLen∧∀r,r∈rows→jh row r
def jh:List nL→List DC→Prop
 |[],l=>l=[]
 |p::ps,l=>∃d r,l=d::r∧p.fits d∧jh ps r
end
mutual
def ug(P:Program):Nat→TypeId→List nL
 |0,_=>[]
 |n+1,t=>match P.underlying t with
  |some .bool=>[.b]
  |some (.int k)=>[.i k]
  |some .string=>[.s]
  |some (.slice e)=>[.sl (ug P n e)]
  |some (.struct z)=>z.toList.flatMap fun f=>ug P n f.type
  |some (.array k e)=>(sZ P k e).flatMap fun f=>ug P n f.type
  |_=>[]
end
theorem JP:∀{ps z:List nL}{l m:List DC},jh ps l→jh z m→jh (ps++z) (l++m)
 |[],z,l,m,h,k=>by simp only[jh] at h;subst h;exact k
 |p::ps,z,l,m,h,k=>by
  simp only[jh] at h
  obtain⟨d,r,rfl,A,h2⟩:=h
  simp only[yV,jh]
  exact⟨d,_,rfl,A,JP h2 k⟩
section
variable{H:Type}{enc:TypeId×Value→H}{P:Program}{w:World}{base:Nat}{held:Bool}
theorem Gk{m n:Nat}{cs:List Value}(z:∀t cs x,jf P m t=true→DataW.trod enc P w base (fun _=>true) held n t cs=some x→jh (ug P m t) (gY x.1)):
  ∀(A:List Field)(off:Nat)(xs:List (DataW H×List MemPlace)),sd P (jf P m) A off cs.length=true→xs.length=A.length→
   (∀(i:Nat)(f:Field),A[i]?=some f→DataW.trod enc P w base (fun _=>true) held n f.type ((cs.drop f.offset).take (P.cellsOf f.type))=xs[i]?)→jh (A.flatMap fun f=>ug P m f.type) (uO (xs.map (·.1)))
 |[],off,xs,h,G,_=>by
  obtain rfl:xs=[]:=tc G
  simp only[fH,uO,List.flatMap_nil,jh]
 |f::r,off,xs,h,G,J=>by
  cases xs with
  |nil=>simp at G
  |cons x0 K=>
   simp only[sd,fc] at h
   obtain⟨⟨h1,h2⟩,O⟩:=h
   have I:=J 0 f rfl
   have U:=z _ _ x0 h2 (by simpa using I)
   have Y:=Gk z r (off+P.cellsOf f.type) K O (by simpa using G) fun i g Z=>by simpa using J (i+1) g (by simpa using Z)
   simpa only[eF,uO,List.flatMap_cons] using JP U Y
theorem UJ:∀(m:Nat)(fuel:Nat)(t:TypeId)(cs:List Value)(x:DataW H×List MemPlace),jf P m t=true→DataW.trod enc P w base (fun _=>true) held fuel t cs=some x→jh (ug P m t) (gY x.1):=by
 intro m
 induction m with
 |zero=>intro fuel t cs x h;simp[jf] at h
 |succ m K=>
  intro fuel t cs x h A
  unfold jf at h
  unfold ug
  split at h
  ·rename_i z
   obtain⟨b,rfl,rfl⟩:=DataW.trod_bool z A
   try rw[z]
   simp only[gY,jh,nL.fits]
   exact⟨_,_,rfl,⟨b,rfl⟩,rfl⟩
  ·rename_i k z
   obtain⟨n,rfl,rfl,hw⟩:=DataW.trod_int z A
   try rw[z]
   simp only[gY,jh,nL.fits]
   exact⟨_,_,rfl,⟨n,rfl,hw⟩,rfl⟩
  ·rename_i z
   obtain⟨s,rfl,rfl,hl⟩:=DataW.trod_string z A
   try rw[z]
   simp only[gY,jh,nL.fits]
   exact⟨_,_,rfl,⟨_,rfl,by rw[nx];exact hl⟩,rfl⟩
  ·rename_i e z
   simp only[fc] at h
   obtain⟨⟨_,Y⟩,h2⟩:=h
   try rw[z]
   rcases DataW.trod_slice z A with⟨rfl,rfl⟩|⟨a,len,cap,elems,rest,n,rfl,rfl,rfl,_,I,J,G,k5,_,_⟩
   ·simp only[gY,jh,nL.fits]
    exact⟨_,_,rfl,.inl rfl,rfl⟩
   simp only[gY,jh,nL.fits]
   refine⟨_,_,rfl,.inr ⟨_,rfl,by rw[Cd];simp only[bZ];omega,fun r Z=>?_⟩,rfl⟩
   rw[Cd,Dy] at Z
   obtain⟨x,A,rfl⟩:=List.mem_map.1 Z
   obtain⟨i,hi⟩:=Iy A
   have O:i<len:=by rw[←G];exact(List.getElem?_eq_some_iff.1 hi).1
   have h:=k5 i O
   rw[hi] at h
   obtain⟨cs,c1,c2⟩:=Option.bind_eq_some_iff.1 h
   exact K n e cs x h2 c2
  ·rename_i fs z
   obtain⟨xs,n,rfl,rfl,I,J,G⟩:=DataW.trod_struct z A
   try rw[z]
   simp only[gY]
   exact Gk (cs:=cs) (fun t cs x hk A=>K n t cs x hk A) fs.toList 0 xs (by rw[I];exact h) (by simpa using J) (fun i f U=>G i f (by simpa using U))
  ·rename_i k e z
   simp only[fc] at h
   obtain⟨xs,n,rfl,rfl,I,J,G⟩:=DataW.trod_array z A
   try rw[z]
   simp only[gY]
   exact Gk (cs:=cs) (fun t cs x hk A=>K n t cs x hk A) (sZ P k e) 0 xs (by rw[I];exact h.2) (by rw[J];unfold sZ;rw[bZ,HS]) (fun i f U=>by obtain⟨hi,Y,h2⟩:=L2 U;rw[Y,h2];exact G i hi)
  cases h
theorem SQ{m:Nat}:∀(A:List TypeId)(vs:List Value)(z:List (DataW H))(ps:List MemPlace),DataW.TrodAll enc P w base (fun _=>true) held A vs z ps→(A.all (jf P m))=true→
  z.length=A.length∧∀(i:Nat)(t:TypeId)(d:DataW H),A[i]?=some t→z[i]?=some d→jh (ug P m t) (gY d)
 |[],vs,z,ps,h,_=>by
  cases vs with
  |cons=>cases z<;>simp[DataW.TrodAll] at h
  |nil=>cases z with
   |cons=>simp[DataW.TrodAll] at h
   |nil=>exact⟨rfl,fun i t d h=>by simp at h⟩
 |t::A,vs,z,ps,h,G=>by
  cases vs with
  |nil=>cases z<;>simp[DataW.TrodAll] at h
  |cons v vs=>cases z with
   |nil=>simp[DataW.TrodAll] at h
   |cons d z=>
    simp only[DataW.TrodAll] at h
    obtain⟨p,q,⟨fuel,J⟩,h2,rfl⟩:=h
    simp only[Fa,fc] at G
    obtain⟨K,O⟩:=SQ A vs z q h2 G.2
    refine⟨by simp[K],fun i t' U hi I=>?_⟩
    cases i with
    |zero=>simp at hi I;subst hi;subst I;exact UJ m fuel t _ _ G.1 J
    |succ i=>exact O i t' U (by simpa using hi) (by simpa using I)
end
theorem UK{α:Type}{row:List nL}{e:α→List DC}(h:∀r,jh row r→∃a,r=e a){d:DC}(z:nL.fits (.sl row) d):∃o:Option (List α),d=qE e o:=by
 simp only[nL.fits] at z
 rcases z with rfl|⟨rows,rfl, -,A⟩
 ·exact⟨none,rfl⟩
 have:∃l:List α,rows=l.map e:=by
  induction rows with
  |nil=>exact⟨[],rfl⟩
  |cons r rs G=>
   obtain⟨a,rfl⟩:=h r (A r (kG ..))
   obtain⟨l,rfl⟩:=G (fun r k=>A r (nZ _ k))
   exact⟨a::l,rfl⟩
 obtain⟨l,rfl⟩:=this
 exact⟨some l,rfl⟩
@[reducible] def oM(d x:Key):bt:=⟨some d,none,none,.oc (.t x)⟩
@[reducible] def oC(d:Key)(v:an):bt:=⟨some d,none,none,.oc (.c v)⟩
@[reducible] def oG(d g:Key)(b:Bool)(x:Key):bt:=⟨some d,some (g,b),none,.oc (.t x)⟩
@[reducible] def oP(d:Key)(i:bG):bt:=⟨some d,none,none,i⟩
@[reducible] def oN(i:bG):bt:=⟨none,none,none,i⟩
@[reducible] def oQ(d:Key)(l:List Nat)(i:bG):bt:=⟨some d,none,some l,i⟩
@[reducible] def oX(d g:Key)(b:Bool)(i:bG):bt:=⟨some d,some (g,b),none,i⟩
@[reducible] def cR(l:List bt):IC:=.region false l
@[reducible] def cD(l:List bt):IC:=.region true l
@[reducible] def t0:aF:=.t ah
@[reducible] def t1:aF:=.t aW
@[reducible] def t2:aF:=.t aB
@[reducible] def t3:aF:=.t ay
@[reducible] def nI(n:Nat):an:=.int .i64 (.ofNat n)
open Go
section
variable{P:Program}
theorem Gl{ok:TypeId→Bool}:∀{z:List Field}{off n:Nat},sd P ok z off n=true→(∀f∈z,ok f.type=true)∧n=off+(z.map fun f=>P.cellsOf f.type).sum∧∀(j:Nat)f,z[j]?=some f→f.offset=off+((z.take j).map fun f=>P.cellsOf f.type).sum
 |[],off,n,h=>by
  have h:off=n:=eb h
  subst h
  exact⟨fun f h=>by simp at h,by simp,fun j f h=>by simp at h⟩
 |f::r,off,n,h=>by
  simp only[sd,fc] at h
  obtain⟨⟨A,h2⟩,J⟩:=h
  have A:f.offset=off:=eb A
  obtain⟨K,O,U⟩:=Gl J
  refine⟨fun g G=>?_,by rw[O];simp only[eF,List.sum_cons];omega,fun j g I=>?_⟩
  ·rcases List.mem_cons.1 G with rfl|G
   ·exact h2
   exact K g G
  cases j with
  |zero=>simp at I;subst I;simpa using A
  |succ j=>
   rw[U j g (by simpa using I)]
   simp only[wa,eF,List.sum_cons]
   omega
def BI(P:Program)(t:TypeId):Prop:=∃m,jf P m t=true
theorem BI.kids:Kids P (BI P):=by
 refine⟨fun{t e}⟨m,h⟩z=>?_,fun{t e}⟨m,h⟩z=>?_,fun{t e n}⟨m,h⟩z=>?_,fun{t U}⟨m,h⟩z=>?_,fun{t k e}⟨m,h⟩z=>?_⟩
 all_goals cases m with
  |zero=>simp[jf] at h
  |succ m=>?_
 ·unfold jf at h;rw[z] at h;simp at h
 ·unfold jf at h
  rw[z] at h
  simp only[fc] at h
  exact⟨m,h.2⟩
 ·unfold jf at h
  rw[z] at h
  simp only[fc] at h
  refine⟨⟨m,h.1⟩,?_⟩
  rw[(Gl h.2).2.1,jx]
  unfold sZ
  rw[Dy,show((fun f:Field=>P.cellsOf f.type)∘fun i=>Field.mk default e (i*P.cellsOf e) default default default default)=fun _=>P.cellsOf e from rfl]
  clear h z
  generalize P.cellsOf e=c
  induction n with
  |zero=>simp
  |succ n A=>rw[List.range_succ,dr,List.sum_append,A,Ff];simp
 ·unfold jf at h
  rw[z] at h
  obtain⟨G,I,J⟩:=Gl h
  exact⟨fun f K=>⟨m,G f K⟩,by rw[I,jx],fun j f O=>by rw[J j f O,jx]⟩
 unfold jf at h;rw[z] at h;simp at h
theorem BI.pos{t e:TypeId}(h:BI P t)(z:P.underlying t=some (.slice e)):0<P.cellsOf e:=by
 obtain⟨m,h⟩:=h
 cases m with
 |zero=>simp[jf] at h
 |succ m=>
  unfold jf at h
  rw[z] at h
  simp only[fc] at h
  exact bO h.1.2
variable{H:Type}{enc:TypeId×Value→H}{w w':World}{base:Nat}{Qr:Nat→Bool}
theorem Kept.UL{m:Nat}(hk:Kept w w')(G:∀b,b<w.heap.size→Qr b=true):∀{I:List TypeId}{vs:List Value}{z:List (DataW H)}{ps:List MemPlace},I.all (jf P m)=true→DataW.TrodAll enc P w base (fun _=>true) true I vs z ps→DataW.TrodAll enc P w' base Qr true I vs z ps
 |[],vs,z,ps,_,h=>by
  cases vs with
  |cons=>cases z<;>simp[DataW.TrodAll] at h
  |nil=>cases z with
   |cons=>simp[DataW.TrodAll] at h
   |nil=>exact h
 |t::I,vs,z,ps,J,h=>by
  cases vs with
  |nil=>cases z<;>simp[DataW.TrodAll] at h
  |cons v vs=>cases z with
   |nil=>simp[DataW.TrodAll] at h
   |cons d z=>
    simp only[Fa,fc] at J
    simp only[DataW.TrodAll] at h⊢
    obtain⟨p,q,⟨fuel,K⟩,h2,rfl⟩:=h
    refine⟨p,q,⟨fuel,DataW.trod_stays BI.kids (fun h=>h.pos) (fun h=>by cases h) ⟨m,J.1⟩ K (fun x A=>hk.sameAt (DataW.trod_lt _ _ _ _ K x A)) fun x A=>G _ (DataW.trod_lt _ _ _ _ K x A)⟩,hk.UL G J.2 h2,rfl⟩
end
open Go
def cB(bs:List UInt8):DC:=.s bs.length (pack bs)
section
variable{T:bd}{H0:Nat→Nat}{X0:Nat→Prop}{VE ep:b0}{B B':bo}{E:Env}{H H':az}{β:Nat→Nat}{X:Nat→Prop}
variable{W:List Nat}{Q:VV→bo→Prop}
theorem Rel.XN(z:Rel H0 X0 VE B E H β){x:aF}{l v:Nat}(A:x.vv VE=some (.d (.s l v))):x.ev E=some (.str l v):=by
 obtain⟨_,G,h2⟩:=z.b8 A
 simp only[aM,cN] at h2
 rw[G,h2]
theorem Rel.str(z:Rel H0 X0 VE B E H β){x:aF}{bs:List UInt8}(A:x.vv VE=some (.d (cB bs))):x.ev E=some (.str bs.length (pack bs)):=z.XN A
theorem Rel.wG(z:Rel H0 X0 VE B E H β){x:aF}{k:IntKind}{n:Int}(A:x.vv VE=some (.d (.i k n))):x.ev E=some (.int k n):=by
 obtain⟨_,G,h2⟩:=z.b8 A
 simp only[aM,cN] at h2
 rw[G,h2]
theorem fG{x i:aF}{bs:List UInt8}{k:IntKind}{j:Nat}{c:UInt8}(I:x.vv VE=some (.d (cB bs)))(hi:i.vv VE=some (.d (.i k (j:Int))))(J:bs[j]?=some c)(K:Q (.d (.i .u8 (c.toNat:Nat))) B):VI T (.sv x i) VE B [] Q:=fun _ _ _ _ _ A=>by
 have O:=A.str I
 have h2:=A.wG hi
 obtain⟨z,U⟩:=List.getElem?_eq_some_iff.1 J
 refine gf (v:=.int .u8 (.ofNat c.toNat)) (fun call=>?_) (eS A (v:=.d (.i .u8 (c.toNat:Nat))) (by simp only[aM,cN];rfl) K)
 show bB x _ (.err 14) (fun v=>jJ v (.err 14) fun l s=>bB i _ (.err 14) fun G=>Ev.idx G l (.err 14) fun j=>dk (vU s j) fun b=>.ok (.int .u8 (.ofNat b)) _)=_
 rw[dj,O,di]
 show bB i _ (.err 14) (fun G=>Ev.idx G bs.length (.err 14) fun j=>dk (vU (pack bs) j) fun b=>.ok (.int .u8 (.ofNat b)) _)=_
 rw[dj,h2,di]
 show aG (Nat.ble (Nat.succ j) bs.length) (dk (vU (pack bs) j) fun b=>aE.ok (.int .u8 (.ofNat b)) _) (aE.err 14)=_
 rw[show Nat.ble (Nat.succ j) bs.length=true from jN z,f6,ij,J4 bs j z,U]
def yL(VE:b0):Option aF→Nat→Nat→Prop
 |none,d,n=>n=d
 |some x,_,n=>∃k,x.vv VE=some (.d (.i k (n:Int)))
theorem CS(A:Rel H0 X0 VE B E H β){x:Option aF}{d n y:Nat}(z:yL VE x d n)(G:n≤y)(I:d≤y){e:aE}{k:Nat→aE}:gi E x d y e k=k n:=by
 cases x with
 |none=>simp only[yL] at z;subst z;rfl
 |some x=>
  obtain⟨J,z⟩:=z
  have h2:=A.wG z
  show ob (x.ev E) e (fun v=>gO v e fun _ i=>jj i e fun n=>aG (Nat.ble n y) (k n) e)=_
  rw[h2,di]
  show aG (Nat.ble n y) (k n) e=_
  rw[jN G,f6]
theorem kh{x:aF}{lo hi:Option aF}{bs:List UInt8}{l h:Nat}(I:x.vv VE=some (.d (cB bs)))(J:yL VE hi bs.length h)(K:yL VE lo 0 l)(A:l≤h)(G:h≤bs.length)(O:Q (.d (cB ((bs.drop l).take (h-l)))) B):VI T (.ji x lo hi) VE B [] Q:=fun _ _ _ _ _ z=>by
 have U:=z.str I
 have hlen:((bs.drop l).take (h-l)).length=h-l:=by rw[jw,gy];omega
 refine gf (v:=.str (h-l) (xG (pack bs) l h)) (fun call=>?_) (eS z (v:=.d (cB ((bs.drop l).take (h-l)))) (by simp only[aM,cB,cN,J5,hlen]) O)
 show bB x _ (.err 15) (fun v=>jJ v (.err 15) fun l s=>gi _ hi l l (.err 15) fun h=>gi _ lo 0 h (.err 15) fun lo=>dk (Nat.sub h lo) fun n=>dk (xG s lo h) fun s=>.ok (.str n s) _)=_
 rw[dj,U,di]
 show gi _ hi bs.length bs.length (.err 15) (fun h=>gi _ lo 0 h (.err 15) fun lo=>dk (Nat.sub h lo) fun n=>dk (xG (pack bs) lo h) fun s=>.ok (.str n s) _)=_
 rw[CS z J G (bV _),CS z K A (da _),ij,ij]
 rfl
theorem CU{x y:aF}{a b:List UInt8}(A:x.vv VE=some (.d (cB a)))(G:y.vv VE=some (.d (cB b)))(I:a.length+b.length≤4611686018427387904)(J:Q (.d (cB (a++b))) B):VI T (.bin .add x y) VE B [] Q:=fun _ _ _ _ _ z=>
 xu (z.str A) (z.str G) (v:=.str (a.length+b.length) (z8 a.length (pack a) (pack b))) (by
  show aG (Nat.ble (Nat.add a.length b.length) 4611686018427387904) (some (an.str (Nat.add a.length b.length) (z8 a.length (pack a) (pack b)))) none=_
  rw[show Nat.ble (Nat.add a.length b.length) 4611686018427387904=true from jN I];rfl)
  (eS z (v:=.d (cB (a++b))) (by simp only[aM,cB,cN,bC,J6]) J)
theorem oA{x y:aF}{a b:List UInt8}(A:x.vv VE=some (.d (cB a)))(G:y.vv VE=some (.d (cB b)))(I:Q (.d (.b (decide (a=b)))) B):VI T (.bin .eql x y) VE B [] Q:=fun _ _ _ _ _ z=>
 xu (z.str A) (z.str G) (v:=.bool (rA a.length (pack a) b.length (pack b))) rfl (eS z (v:=.d (.b (decide (a=b)))) (by simp only[aM,cN,B9]) I)
theorem TL{x y:aF}{a b:List UInt8}(A:x.vv VE=some (.d (cB a)))(G:y.vv VE=some (.d (cB b)))(I:Q (.d (.b (!decide (a=b)))) B):VI T (.bin .neq x y) VE B [] Q:=fun _ _ _ _ _ z=>
 xu (z.str A) (z.str G) (v:=.bool (!rA a.length (pack a) b.length (pack b))) rfl (eS z (v:=.d (.b (!decide (a=b)))) (by simp only[aM,cN,B9]) I)
theorem w9{x:aF}{bs:List UInt8}(A:x.vv VE=some (.d (cB bs)))(G:Q (.d (.i .i64 (bs.length:Nat))) B):VI T (.ph x) VE B [] Q:=fun _ _ _ _ _ z=>
 LJ (z.str A) (eS z (v:=.d (.i .i64 (bs.length:Nat))) (by simp only[aM,cN]) G)
theorem xO{op:BinOp}{x y:aF}{k:IntKind}{a b:Int}{r:Bool}(A:x.vv VE=some (.d (.i k a)))(G:y.vv VE=some (.d (.i k b)))(h:iX op k a k b=some (.bool r))(I:Q (.d (.b r)) B):VI T (.bin op x y) VE B [] Q:=fun _ _ _ _ _ z=>
 xu (z.wG A) (z.wG G) (v:=.bool r) h (eS z (v:=.d (.b r)) (by simp only[aM,cN]) I)
theorem Dn{x y:aF}{k:IntKind}{a b:Int}(z:x.vv VE=some (.d (.i k a)))(A:y.vv VE=some (.d (.i k b)))(G:Q (.d (.b (decide (a<b)))) B):VI T (.bin .lss x y) VE B [] Q:=xO z A (by rw[←oZ];cases k<;>rfl) G
theorem sC{x y:aF}{k:IntKind}{a b:Int}(z:x.vv VE=some (.d (.i k a)))(A:y.vv VE=some (.d (.i k b)))(G:Q (.d (.b (decide (b<a)))) B):VI T (.bin .gtr x y) VE B [] Q:=xO z A (by rw[←oZ];cases k<;>rfl) G
theorem Ld(a b:Int):(!decide (a<b))=decide (b≤a):=by
 by_cases h:a<b
 ·simp[h,Int.not_le.2 h]
 simp[h,Int.not_lt.1 h]
theorem pU{x y:aF}{k:IntKind}{a b:Int}(z:x.vv VE=some (.d (.i k a)))(A:y.vv VE=some (.d (.i k b)))(G:Q (.d (.b (decide (a≤b)))) B):VI T (.bin .leq x y) VE B [] Q:=xO z A (r:=!decide (b<a)) (by rw[←oZ];cases k<;>rfl) (by rw[Ld];exact G)
theorem Am{x y:aF}{k:IntKind}{a b:Int}(z:x.vv VE=some (.d (.i k a)))(A:y.vv VE=some (.d (.i k b)))(G:Q (.d (.b (decide (b≤a)))) B):VI T (.bin .geq x y) VE B [] Q:=xO z A (r:=!decide (a<b)) (by rw[←oZ];cases k<;>rfl) (by rw[Ld];exact G)
theorem hY{x y:aF}{k:IntKind}{a b:Int}(z:x.vv VE=some (.d (.i k a)))(A:y.vv VE=some (.d (.i k b)))(G:Q (.d (.b (decide (a=b)))) B):VI T (.bin .eql x y) VE B [] Q:=xO z A (by rw[←uf];cases k<;>rfl) G
theorem iD{x y:aF}{k:IntKind}{a b:Int}(z:x.vv VE=some (.d (.i k a)))(A:y.vv VE=some (.d (.i k b)))(G:Q (.d (.b (!decide (a=b)))) B):VI T (.bin .neq x y) VE B [] Q:=xO z A (by rw[←uf];cases k<;>rfl) G
theorem zB{op:BinOp}{x y:aF}{k:IntKind}{a b r:Int}(A:x.vv VE=some (.d (.i k a)))(G:y.vv VE=some (.d (.i k b)))(h:iX op k a k b=some (.int k r))(I:Q (.d (.i k r)) B):VI T (.bin op x y) VE B [] Q:=fun _ _ _ _ _ z=>
 xu (z.wG A) (z.wG G) (v:=.int k r) h (eS z (v:=.d (.i k r)) (by simp only[aM,cN]) I)
theorem CV{x y:aF}{k:IntKind}{a b:Int}(z:x.vv VE=some (.d (.i k a)))(A:y.vv VE=some (.d (.i k b)))(G:Q (.d (.i k (k.wrap (a+b)))) B):VI T (.bin .add x y) VE B [] Q:=zB z A (by rw[←ng];cases k<;>rfl) G
theorem Hj{x y:aF}{k:IntKind}{a b:Int}(z:x.vv VE=some (.d (.i k a)))(A:y.vv VE=some (.d (.i k b)))(G:Q (.d (.i k (k.wrap (a-b)))) B):VI T (.bin .sub x y) VE B [] Q:=zB z A (by rw[←ng];cases k<;>rfl) G
theorem MC{x y:aF}{k:IntKind}{a b:Int}(z:x.vv VE=some (.d (.i k a)))(A:y.vv VE=some (.d (.i k b)))(G:Q (.d (.i k (k.wrap (a*b)))) B):VI T (.bin .mul x y) VE B [] Q:=zB z A (by rw[←ng];cases k<;>rfl) G
theorem MD{x y:aF}{k:IntKind}{a b:Int}(z:x.vv VE=some (.d (.i k a)))(A:y.vv VE=some (.d (.i k b)))(h0:mr b 0=false)(G:Q (.d (.i k (k.wrap (a.tdiv b)))) B):VI T (.bin .quo x y) VE B [] Q:=zB z A (by
 have:iX .quo k a k b=aG (Nat.beq (dw k) (dw k)) (aG (mr b 0) none (some (.int k (mf k (a.tdiv b))))) none:=rfl
 rw[this,h0,←ng,show Nat.beq (dw k) (dw k)=true from iR _];rfl) G
theorem ME{x y:aF}{k:IntKind}{a b:Int}(z:x.vv VE=some (.d (.i k a)))(A:y.vv VE=some (.d (.i k b)))(h0:mr b 0=false)(G:Q (.d (.i k (a.tmod b))) B):VI T (.bin .rem x y) VE B [] Q:=zB z A (by
 have:iX .rem k a k b=aG (Nat.beq (dw k) (dw k)) (aG (mr b 0) none (some (.int k (a.tmod b)))) none:=rfl
 rw[this,h0,show Nat.beq (dw k) (dw k)=true from iR _];rfl) G
theorem MF{x:aF}{k:IntKind}{a:Int}(A:x.vv VE=some (.d (.i k a)))(G:Q (.d (.i k (k.wrap (0-a)))) B):VI T (.un .neg x) VE B [] Q:=fun _ _ _ _ _ z=>
 Ns (z.wG A) (v:=.int k (mf k (0-a))) rfl (eS z (v:=.d (.i k (k.wrap (0-a)))) (by simp only[aM,cN,ng]) G)
theorem wrap_i64{a:Int}(z: -9223372036854775808≤a)(h2:a≤9223372036854775807):IntKind.i64.wrap a=a:=wrap64 z h2
theorem gm{x y:aF}{a b:Int}(z:x.vv VE=some (.d (.i .i64 a)))(A:y.vv VE=some (.d (.i .i64 b)))(G: -9223372036854775808≤a-b)(h2:a-b≤9223372036854775807)(I:Q (.d (.i .i64 (a-b))) B):VI T (.bin .sub x y) VE B [] Q:=
 Hj z A (by rw[wrap_i64 G h2];exact I)
theorem jX{x y:aF}{a b:Int}(z:x.vv VE=some (.d (.i .i64 a)))(A:y.vv VE=some (.d (.i .i64 b)))(G: -9223372036854775808≤a+b)(h2:a+b≤9223372036854775807)(I:Q (.d (.i .i64 (a+b))) B):VI T (.bin .add x y) VE B [] Q:=
 CV z A (by rw[wrap_i64 G h2];exact I)
theorem UM{x:aF}{off n:Nat}{l:List VV}(A:x.vv VE=some (.agg l))(G:Nat.ble (off+n) l.length=true)(I:Q (.agg ((l.drop off).take n)) B):VI T (.sub x off n true) VE B [] Q:=fun _ _ _ _ _ z=>by
 obtain⟨_,J,h2⟩:=z.b8 A
 simp only[aM] at h2
 obtain⟨cs,rfl,h2⟩:=h2
 refine gf (v:=.agg ((cs.drop off).take n)) (fun call=>?_) (eS z (v:=.agg ((l.drop off).take n)) (by simp only[aM];exact⟨_,rfl,(h2.drop off).take n⟩) I)
 show bB x _ (.err 10) (fun v=>o9 v (.err 10) fun cs=>aG (Nat.ble (Nat.add off n) (jn cs)) (iL true ((cs.drop off).take n) (.err 10) fun v=>.ok v _) (.err 10))=_
 rw[dj,J,di]
 show aG (Nat.ble (Nat.add off n) (jn cs)) (iL true ((cs.drop off).take n) (aE.err 10) fun v=>aE.ok v _) (aE.err 10)=_
 rw[oO,h2.length,show Nat.ble (Nat.add off n) l.length=true from G];rfl
theorem CW{x:aF}{off:Nat}{l:List VV}{v:VV}(G:x.vv VE=some (.agg l))(I:l[off]?=some v)(J:Q v B):VI T (.sub x off 1 false) VE B [] Q:=fun _ _ _ _ _ z=>by
 obtain⟨_,K,h2⟩:=z.b8 G
 simp only[aM] at h2
 obtain⟨cs,rfl,h2⟩:=h2
 obtain⟨a,O,U⟩:=h2.get I
 obtain⟨A,Y⟩:=List.getElem?_eq_some_iff.1 O
 refine gf (v:=a) (fun call=>?_) (eS z U J)
 show bB x _ (.err 10) (fun v=>o9 v (.err 10) fun cs=>aG (Nat.ble (Nat.add off 1) (jn cs)) (iL false ((cs.drop off).take 1) (.err 10) fun v=>.ok v _) (.err 10))=_
 rw[dj,K,di]
 show aG (Nat.ble (Nat.add off 1) (jn cs)) (iL false ((cs.drop off).take 1) (aE.err 10) fun v=>aE.ok v _) (aE.err 10)=_
 rw[oO,show Nat.ble (Nat.add off 1) cs.length=true from jN A,f6,AX A,wa,Iz,Y]
 rfl
theorem UN{f:Nat}{l:List aF}{eJ:List VV}(A:i6 VE l=some eJ)(G:Q (.fn f eJ) B):VI T (.n6 f [] l) VE B [] Q:=fun _ _ _ _ _ z=>by
 obtain⟨vs,I,h2⟩:=vA z A
 refine gf (v:=.func f [] vs) (fun call=>?_) (eS z (v:=.fn f eJ) (by simp only[aM];exact⟨vs,rfl,h2⟩) G)
 show ob (jS _ l) (aE.err 20) (fun vs=>aE.ok (.func f [] vs) _)=_
 rw[I,di]
theorem pH{x:aF}{b o:Nat}(G:x.vv VE=some (.vp b o))(I:Q (.vp b o) B):VI T (.o8 x) VE B [] Q:=fun _ _ _ _ _ z=>by
 obtain⟨a,J,h2⟩:=z.b8 G
 have A:=h2
 simp only[aM] at A
 refine gf (v:=a) (fun call=>?_) (eS z h2 I)
 show bB x _ (.err 19) (fun v=>aG (xp v) (.ok v _) (.err 19))=_
 rw[dj,J,di,A];rfl
theorem SR{x:aF}{row:List DC}{o:Nat}(G:x.vv VE=some (.rp row o))(I:Q (.rp row o) B):VI T (.o8 x) VE B [] Q:=fun _ _ _ _ _ A=>by
 obtain⟨a,J,h2⟩:=A.b8 G
 have z:=h2
 simp only[aM] at z
 obtain⟨f,g,q,l,z,_⟩:=z
 refine gf (v:=a) (fun call=>?_) (eS A h2 I)
 show bB x _ (.err 19) (fun v=>aG (xp v) (.ok v _) (.err 19))=_
 rw[dj,J,di,z];rfl
theorem SS{x:aF}{b g q o es:Nat}(G:x.vv VE=some (.bp b g q o es))(I:Q (.bp b g q o es) B):VI T (.o8 x) VE B [] Q:=fun _ _ _ _ _ z=>by
 obtain⟨a,J,h2⟩:=z.b8 G
 have A:=h2
 simp only[aM] at A
 refine gf (v:=a) (fun call=>?_) (eS z h2 I)
 show bB x _ (.err 19) (fun v=>aG (xp v) (.ok v _) (.err 19))=_
 rw[dj,J,di,A];rfl
theorem SU{x:aF}{f:Nat}{c:List VV}(G:x.vv VE=some (.fn f c))(I:Q (.fn f c) B):VI T (.o8 x) VE B [] Q:=fun _ _ _ _ _ A=>by
 obtain⟨a,J,h2⟩:=A.b8 G
 have z:=h2
 simp only[aM] at z
 obtain⟨cs,z,_⟩:=z
 refine gf (v:=a) (fun call=>?_) (eS A h2 I)
 show bB x _ (.err 19) (fun v=>aG (xp v) (.ok v _) (.err 19))=_
 rw[dj,J,di,z];rfl
theorem UO{t:Nat}{x:aF}{v:VV}(A:x.vv VE=some v)(G:Q .jB B):VI T (.uY t x) VE B [] Q:=fun _ _ _ _ _ z=>by
 obtain⟨a,I,_⟩:=z.b8 A
 refine gf (v:=.iface t a) (fun call=>?_) (eS z (v:=.jB) (by simp only[aM];exact⟨_,_,rfl⟩) G)
 show bB x _ (.err 21) (fun v=>.ok (.iface t v) _)=_
 rw[dj,I,di]
def Il:VV→Option Bool
 |.k .gS=>some true
 |.jB=>some false
 |_=>none
theorem TN{neg:Bool}{x y:aF}{v:VV}{t:Bool}(I:x.vv VE=some v)(J:y.vv VE=some (.k .gS))(z:Il v=some t)(K:Q (.d (.b (Bool.xor neg t))) B):VI T (.eqv .iface neg x y) VE B [] Q:=fun _ _ _ _ _ A=>by
 obtain⟨a,O,h2⟩:=A.b8 I
 obtain⟨c,U,G⟩:=A.b8 J
 simp only[aM] at G
 subst G
 have he:nF .iface a .gS=some t:=by
  cases v with
  |jB=>simp only[aM] at h2;obtain⟨_,_,rfl⟩:=h2;cases z;rfl
  |k x=>
   simp only[aM] at h2
   subst h2
   cases a<;>simp only[Il,reduceCtorEq,gP] at z
   subst z;rfl
  |_=>cases z
 exact Uw O U he (eS A (v:=.d (.b (Bool.xor neg t))) (by simp only[aM,cN]) K)
end
@[reducible] def dI(x:Int):VV:=.d (.i .i64 x)
@[reducible] def dS(x:List UInt8):VV:=.d (cB x)
@[reducible] def dB(x:Bool):VV:=.d (.b x)
@[reducible] def dN:VV:=.d .nil
@[reducible] def d0:VV:=.d (.i .i64 0)
@[reducible] def i0:DC:=.i .i64 0
variable{T:bd}{VE:b0}{B:bo}{Q:b0→bo→Prop}
theorem Le{call:eI}{E:Env}{H H1:az}{n:Nat}{w:Bool}{a:aF}{f g o:Nat}{v:an}(z:a.ev E=some (.ptr f g o))(h:(bG.load n w a).ev call E H= .ok v H1):H1=H:=by
 have key:PS H ((bG.load n w a).ev call E H):=by
  rw[Hh z]
  exact PS.iY (fun _ _ _ _ _ _ _=>PS.aG (PS.aG (PS.aG (PS.aG (PS.ob (fun _=>PS.aG (PS.iL (fun _=>PS.ok) PS.err) (PS.iL (fun _=>PS.ok) PS.err)) PS.err) PS.err) PS.err) PS.err) PS.err) PS.err
 exact key _ _ h
theorem TO{fl:List FL}{d:Key}{l:List Nat}{n:Nat}{w:Bool}{a:aF}{b o:Nat}{s:BS}{r:List bt}(ha:a.vv VE=some (.vp b o))(U:aY B b=some s)(Y:s.born)(hk:nU [] l fl=true)(h:VI T (.load n w a) VE B [] fun v B'=>VQ T r ((d.n,v)::VE) B' (.rd [b]::fl) Q):VQ T (⟨some d,none,some l,.load n w a⟩::r) VE B fl Q:=by
 intro H0 X0 E H β A bR J
 obtain⟨N,v0,H',e,K,v,B',β',Z,O,hv,hq⟩:=zR h A
 obtain⟨x,hx,G⟩:=A.b8 ha
 simp only[aM] at G
 subst G
 have z:H'=H.mark:=Le hx (e N N (bV _) (bV _))
 have I:H.mark.ws=[]∧H.mark.next=H.next:=by cases H;exact⟨rfl,rfl⟩
 have k:u6 H.next B β (.rd [b]) ⟨(bG.load n w a).reads E,H'.ws,H.next,H'.next⟩:=by
  refine⟨by rw[z];exact I.1,by show H.next=H'.next;rw[z];exact I.2.symm,[β b],?_,fun f J=>?_⟩
  ·show some (iZ (a.ev E))=_
   rw[hx];rfl
  rcases List.mem_singleton.1 J with rfl
  exact⟨(A.new b s U Y).2,fun c t K h2 h3=>List.mem_singleton.2 (A.inj c b t s K U h2 Y h3)⟩
 obtain⟨N2,E2,H2,e2,hp⟩:=hq H0 X0 _ _ β' (O.set hv) (⟨(bG.load n w a).reads E,H'.ws,H.next,H'.next⟩::bR) ((J.cons k).step Z)
 refine⟨max N N2,E2,H2,fun lf n a1 a2=>?_,hp.of Z A.bc⟩
 show bt.ns (T.call lf n) ⟨some d,none,some l,_⟩ E H bR (me (T.call lf n) r)=_
 rw[zn,zo (e lf n (by omega) (by omega)) (xj J K hk)]
 exact e2 lf n (by omega) (by omega)
theorem Rel.V5{H0:Nat→Nat}{X0:Nat→Prop}{E:Env}{H:az}{β:Nat→Nat}(h:Rel H0 X0 VE B E H β){b i e I:Nat}{row:List VV}{pv:VV}(hb:aY B b=some (.one e I row))(hi:row[i]?=some pv):Rel H0 X0 VE ((b,.one e I (row.set i .undef))::B) E H β:=by
 have J:∀c s,aY ((b,BS.one e I (row.set i .undef))::B) c=some s→s.born→∃t,aY B c=some t∧t.born:=fun c s z ho=>by
  rw[eu] at z
  by_cases k:b=c
  ·subst k;exact⟨_,hb,trivial⟩
  rw[aj k] at z;exact⟨s,z,ho⟩
 have hX:∀f,XB X0 ((b,BS.one e I (row.set i .undef))::B) β f→XB X0 B β f:=fun f K=>K.imp id fun⟨c,s,O,ho,h2⟩=>by
  obtain⟨t,A,G⟩:=J c s O ho
  exact⟨c,t,A,G,h2⟩
 have U:iH H (XB X0 B β) H (XB X0 ((b,BS.one e I (row.set i .undef))::B) β):=⟨bV _,fun f _ K=>⟨fun k=>K (hX f k),rfl⟩⟩
 refine⟨h.om,h.bc,h.x0,fun c s z ho=>?_,fun c d s t z Y hs ht he=>?_,fun k v hk=>?_,fun c s z=>?_⟩
 ·obtain⟨t,A,G⟩:=J c s z ho;exact h.new c t A G
 ·obtain⟨s',A,G⟩:=J c s z hs
  obtain⟨t',Z,k4⟩:=J d t Y ht
  exact h.inj c d s' t' A Z G k4 he
 ·obtain⟨a,O,h2⟩:=h.env k v hk
  exact⟨a,O,h2.lift U⟩
 rw[eu] at z
 by_cases k:b=c
 ·subst k
  rw[aw rfl] at z
  cases z
  obtain⟨l,lo,cs,A,G,Z,k4⟩:=h.box b _ hb
  exact⟨l,lo,cs,A,G,Z,bm.lift U (bm.setAt (new:=.undef) (fun a _=>trivial) k4 hi)⟩
 rw[aj k] at z;exact(h.box c s z).lift U rfl
theorem R'{b i e A:Nat}{row:List VV}(G:aY B b=some (.one e A row)):∀c s,aY ((b,BS.one e A (row.set i .undef))::B) c=some s→s.born→∃t,aY B c=some t∧t.born:=fun c s z ho=>by
 rw[eu] at z
 by_cases k:b=c
 ·subst k;exact⟨_,G,trivial⟩
 rw[aj k] at z;exact⟨s,z,ho⟩
theorem jE{ops:List bt}(b i:Nat){e z:Nat}{row:List VV}{pv:VV}(A:aY B b=some (.one e z row))(hi:row[i]?=some pv)(h:VO T ops VE ((b,.one e z (row.set i .undef))::B) Q):VO T ops VE B Q:=
 fun H0 X0 E H β G=>(h H0 X0 E H β (G.V5 A hi)).mono fun _ _ hp=>hp.more (R' A)
theorem Rel.V6{H0:Nat→Nat}{X0:Nat→Prop}{E:Env}{H:az}{β:Nat→Nat}(h:Rel H0 X0 VE B E H β){b i g e I elem aP es:Nat}{row:List VV}(O:aY B b=some (.one e I row))(hi:row[i]?=some (.d .nil))(hg:aY B g=none):Rel H0 X0 VE ((g,.acc elem aP es [])::(b,.one e I (row.set i (.ac g 0 es)))::B) E H β:=by
 have hgb:g≠b:=fun k=>by rw[k,O] at hg;cases hg
 have K:∀c s,aY ((g,BS.acc elem aP es [])::(b,BS.one e I (row.set i (.ac g 0 es)))::B) c=some s→s.born→∃t,aY B c=some t∧t.born:=fun c s z ho=>by
  rw[eu] at z
  by_cases J:g=c
  ·rw[aw J] at z;cases z;exact absurd rfl ho
  rw[aj J,eu] at z
  by_cases k:b=c
  ·subst k;exact⟨_,O,trivial⟩
  rw[aj k] at z;exact⟨s,z,ho⟩
 have hX:∀f,XB X0 ((g,BS.acc elem aP es [])::(b,BS.one e I (row.set i (.ac g 0 es)))::B) β f→XB X0 B β f:=fun f U=>U.imp id fun⟨c,s,Y,ho,h2⟩=>by
  obtain⟨t,A,G⟩:=K c s Y ho
  exact⟨c,t,A,G,h2⟩
 have Z:iH H (XB X0 B β) H (XB X0 ((g,BS.acc elem aP es [])::(b,BS.one e I (row.set i (.ac g 0 es)))::B) β):=⟨bV _,fun f _ U=>⟨fun k=>U (hX f k),rfl⟩⟩
 refine⟨h.om,h.bc,h.x0,fun c s z ho=>?_,fun c d s t z tq hs ht he=>?_,fun k v hk=>?_,fun c s z=>?_⟩
 ·obtain⟨t,A,G⟩:=K c s z ho;exact h.new c t A G
 ·obtain⟨s',A,G⟩:=K c s z hs
  obtain⟨t',k3,k4⟩:=K d t tq ht
  exact h.inj c d s' t' A k3 G k4 he
 ·obtain⟨a,Y,h2⟩:=h.env k v hk
  exact⟨a,Y,h2.lift Z⟩
 rw[eu] at z
 by_cases J:g=c
 ·rw[aw J] at z;cases z;exact .inl rfl
 rw[aj J,eu] at z
 by_cases k:b=c
 ·subst k
  rw[aw rfl] at z
  cases z
  obtain⟨l,lo,cs,A,G,k3,k4⟩:=h.box b _ O
  exact⟨l,lo,cs,A,G,k3,bm.lift Z (bm.setAt (new:=.ac g 0 es) (fun a ha=>by simp only[aM,cN] at ha⊢;exact .inl ⟨trivial,ha⟩) k4 hi)⟩
 rw[aj k] at z;exact(h.box c s z).lift Z rfl
theorem nf{ops:List bt}(b i g elem aP es:Nat){e A:Nat}{row:List VV}(G:aY B b=some (.one e A row))(hi:row[i]?=some (.d .nil))(J:aY B g=none)(h:VO T ops VE ((g,.acc elem aP es [])::(b,.one e A (row.set i (.ac g 0 es)))::B) Q):VO T ops VE B Q:=
 fun H0 X0 E H β K=>(h H0 X0 E H β (K.V6 G hi J)).mono fun _ _ hp=>hp.more fun c s z ho=>by
  rw[eu] at z
  by_cases I:g=c
  ·rw[aw I] at z;cases z;exact absurd rfl ho
  rw[aj I,eu] at z
  by_cases k:b=c
  ·subst k;exact⟨_,G,trivial⟩
  rw[aj k] at z;exact⟨s,z,ho⟩
variable{T:bd}{VE:b0}{B:bo}{Q:b0→bo→Prop}
def PC(op:BinOp)(a b:Int):Option Bool:=match op with
 |.lss=>some (decide (a<b))
 |.gtr=>some (decide (b<a))
 |.leq=>some (decide (a≤b))
 |.geq=>some (decide (b≤a))
 |.eql=>some (decide (a=b))
 |.neq=>some (!decide (a=b))
 |_=>none
def gd{α:Type}(b:Bool)(x:Option α):Option α:=bif b then x else none
theorem nS{α:Type}{b:Bool}{x:Option α}{y:α}(h:gd b x=some y):b=true∧x=some y:=by
 cases b
 ·cases h
 exact⟨rfl,h⟩
theorem iF{a b:Bool}(h:(a&&b)=true):a=true∧b=true:=by simpa using h
def lR(VE:b0)(B:bo)(d:Nat):bG→Option (VV×bo×List Nat)
 |.oc x=>(x.vv VE).bind fun v=>some (v,B,[])
 |.n5 x k=>match x.vv VE with
  |some (.vp b o)=>some (.vp b (o+k),B,[])
  |some (.rp row o)=>some (.rp row (o+k),B,[])
  |some (.bp b g j o es)=>some (.bp b g j (o+k) es,B,[])
  |_=>none
 |.load n w a=>match a.vv VE with
  |some (.vp b o)=>match aY B b with
   |some (.one _ _ row)=>match w with
    |true=>gd (Nat.ble 1 n&&Nat.ble (o+n) row.length) (some (.agg ((row.drop o).take n),B,[]))
    |false=>gd (Nat.beq n 1) ((row[o]?).bind fun v=>some (v,B,[]))
   |_=>none
  |some (.rp row o)=>match w with
   |true=>gd (Nat.ble 1 n&&Nat.ble (o+n) row.length) (some (.agg (((row.drop o).take n).map .d),B,[]))
   |false=>gd (Nat.beq n 1) ((row[o]?).bind fun v=>some (.d v,B,[]))
  |_=>none
 |.store n a x=>match a.vv VE with
  |some (.vp b o)=>match aY B b with
   |some (.one e G row)=>(x.vv VE).bind fun v=>v.cells.bind fun new=>gd (Nat.beq new.length n&&(Nat.ble 1 n&&Nat.ble (o+n) row.length)) (some (.undef,(b,.one e G (Fy row o new))::B,[b]))
   |_=>none
  |_=>none
 |.build zero ps=>(ra zero).bind fun z=>(xM VE ps z).bind fun out=>some (.agg out,B,[])
 |.box elem es aP x=>gd (oi d VE&&oj d B) ((x.vv VE).bind fun v=>v.cells.bind fun c=>gd (Nat.beq c.length es) (some (.vp d 0,(d,.one elem aP c)::B,[])))
 |.cm elem es aP l=>gd (oi d VE&&(oj d B&&Nat.beq l.length es)) ((ra l).bind fun c=>some (.vp d 0,(d,.one elem aP c)::B,[]))
 |.cK elem es aP A zero ps=>gd (oi d VE&&(oj d B&&Nat.beq zero.length es)) ((ra zero).bind fun z=>(l6 z).bind fun I=>(vz VE es A ps (List.replicate A I)).bind fun rows=>some (.bs d A es,(d,.arr elem aP es A rows)::B,[]))
 |.o8 x=>match x.vv VE with
  |some (.vp b o)=>some (.vp b o,B,[])
  |some (.rp row o)=>some (.rp row o,B,[])
  |some (.bp b g q o es)=>some (.bp b g q o es,B,[])
  |some (.fn f c)=>some (.fn f c,B,[])
  |_=>none
 |.sub x off n w=>match x.vv VE with
  |some (.agg l)=>match w with
   |true=>gd (Nat.ble (off+n) l.length) (some (.agg ((l.drop off).take n),B,[]))
   |false=>gd (Nat.beq n 1) ((l[off]?).bind fun v=>some (v,B,[]))
  |_=>none
 |.rL x i=>match x.vv VE with
  |some (.tuple l)=>(l[i]?).bind fun v=>some (v,B,[])
  |_=>none
 |.un op x=>match op with
  |.not=>match x.vv VE with|some (.d (.b b))=>some (.d (.b (!b)),B,[])|_=>none
  |_=>none
 |.n6 f first l=>match first with
  |[]=>(i6 VE l).bind fun c=>some (.fn f c,B,[])
  |_=>none
 |.uY _ x=>(x.vv VE).bind fun _=>some (.jB,B,[])
 |.len x=>match x.vv VE with
  |some (.d (.sl rows))=>some (.d (.i .i64 rows.length),B,[])
  |some (.d .nil)=>some (.d (.i .i64 0),B,[])
  |some (.bs _ n _)=>some (.d (.i .i64 n),B,[])
  |some (.ac _ n _)=>some (.d (.i .i64 n),B,[])
  |_=>none
 |.ph x=>match x.vv VE with|some (.d (.s l _))=>some (.d (.i .i64 l),B,[])|_=>none
 |.conv k x=>match x.vv VE with|some (.d (.i _ n))=>some (.d (.i k (k.wrap n)),B,[])|_=>none
 |.bin op x y=>match x.vv VE with
  |some (.d (.i k a))=>match y.vv VE with
   |some (.d (.i J b))=>if J=k then(PC op a b).bind fun r=>some (.d (.b r),B,[]) else none
   |_=>none
  |_=>none
 |.pick c x y=>match c.vv VE with
  |some (.d (.b true))=>(x.vv VE).bind fun v=>some (v,B,[])
  |some (.d (.b false))=>(y.vv VE).bind fun v=>some (v,B,[])
  |_=>none
 |.eqv c neg x y=>match c with
  |.iface=>match y.vv VE with
   |some (.k .gS)=>(x.vv VE).bind fun v=>(Il v).bind fun t=>some (.d (.b (Bool.xor neg t)),B,[])
   |_=>none
  |_=>none
 |_=>none
theorem tD{d:Nat}{op:bG}{v:VV}{B':bo}{W:List Nat}{R:VV→bo→Prop}(h:lR VE B d op=some (v,B',W))(G:R v B'):VI T op VE B W R:=by
 cases op with
 |oc x=>
  obtain⟨u,A,h⟩:=Option.bind_eq_some_iff.1 h
  cases h;exact bN A G
 |n5 x k=>
  simp only[lR] at h
  split at h
  ·rename_i A;cases h;exact dz A G
  ·rename_i A;cases h;exact tS A G
  ·rename_i A;cases h;exact TC A G
  cases h
 |load n w a=>
  simp only[lR] at h
  split at h
  ·rename_i A
   split at h
   ·rename_i Y
    cases w with
    |true=>
     obtain⟨I,h2⟩:=nS h
     obtain⟨I,J⟩:=iF I
     cases h2
     exact pG A Y (bO I) (bO J) G
    |false=>
     obtain⟨I,h2⟩:=nS h
     obtain⟨u,J,K⟩:=Option.bind_eq_some_iff.1 h2
     obtain rfl:=eb I
     cases K
     exact df A Y J G
   cases h
  ·rename_i A
   cases w with
   |true=>
    obtain⟨I,h2⟩:=nS h
    obtain⟨I,J⟩:=iF I
    cases h2
    exact mc A (bO I) (bO J) G
   |false=>
    obtain⟨I,h2⟩:=nS h
    obtain⟨u,J,K⟩:=Option.bind_eq_some_iff.1 h2
    obtain rfl:=eb I
    cases K
    exact mb A J G
  cases h
 |store n a x=>
  simp only[lR] at h
  split at h
  ·rename_i ha
   split at h
   ·rename_i Y
    obtain⟨u,A,h⟩:=Option.bind_eq_some_iff.1 h
    obtain⟨new,hv,h⟩:=Option.bind_eq_some_iff.1 h
    obtain⟨I,h2⟩:=nS h
    obtain⟨I,J⟩:=iF I
    obtain⟨J,K⟩:=iF J
    cases h2
    exact K3 ha Y A hv (eb I) (bO J) (bO K) G
   cases h
  cases h
 |build zero ps=>
  obtain⟨z,Z,h⟩:=Option.bind_eq_some_iff.1 h
  obtain⟨out,Y,h⟩:=Option.bind_eq_some_iff.1 h
  cases h;exact TD Z Y G
 |box elem es aP x=>
  obtain⟨I,h⟩:=nS h
  obtain⟨I,h2⟩:=iF I
  obtain⟨u,A,h⟩:=Option.bind_eq_some_iff.1 h
  obtain⟨c,U,h⟩:=Option.bind_eq_some_iff.1 h
  obtain⟨J,h⟩:=nS h
  cases h;exact V1 d I h2 A U (eb J) G
 |cm elem es aP l=>
  obtain⟨I,h⟩:=nS h
  obtain⟨I,h2⟩:=iF I
  obtain⟨h2,J⟩:=iF h2
  obtain⟨c,U,h⟩:=Option.bind_eq_some_iff.1 h
  cases h;exact UI d I h2 U (eb J) G
 |cK elem es aP ln zero ps=>
  obtain⟨I,h⟩:=nS h
  obtain⟨I,h2⟩:=iF I
  obtain⟨h2,J⟩:=iF h2
  obtain⟨z,Z,h⟩:=Option.bind_eq_some_iff.1 h
  obtain⟨zd,hd,h⟩:=Option.bind_eq_some_iff.1 h
  obtain⟨rows,hr,h⟩:=Option.bind_eq_some_iff.1 h
  cases h;exact R7 d I h2 Z hd (eb J) hr G
 |o8 x=>
  simp only[lR] at h
  split at h
  ·rename_i A;cases h;exact pH A G
  ·rename_i A;cases h;exact SR A G
  ·rename_i A;cases h;exact SS A G
  ·rename_i A;cases h;exact SU A G
  cases h
 |sub x off n w=>
  simp only[lR] at h
  split at h
  ·rename_i A
   cases w with
   |true=>
    obtain⟨I,h2⟩:=nS h
    cases h2;exact UM A I G
   |false=>
    obtain⟨I,h2⟩:=nS h
    obtain⟨u,J,K⟩:=Option.bind_eq_some_iff.1 h2
    obtain rfl:=eb I
    cases K;exact CW A J G
  cases h
 |rL x i=>
  simp only[lR] at h
  split at h
  ·rename_i A
   obtain⟨u,J,K⟩:=Option.bind_eq_some_iff.1 h
   cases K;exact UH A J G
  cases h
 |un op x=>
  simp only[lR] at h
  split at h
  ·split at h
   ·rename_i A;cases h;exact jH A G
   cases h
  cases h
 |n6 f first l=>
  simp only[lR] at h
  split at h
  ·obtain⟨u,J,K⟩:=Option.bind_eq_some_iff.1 h
   cases K;exact UN J G
  cases h
 |uY t x=>
  obtain⟨u,A,h⟩:=Option.bind_eq_some_iff.1 h
  cases h;exact UO A G
 |len x=>
  simp only[lR] at h
  split at h
  ·rename_i A;cases h;exact Ak A G
  ·rename_i A;cases h;exact CN A G
  ·rename_i A;cases h;exact UF A G
  ·rename_i A;cases h;exact xv A G
  cases h
 |ph x=>
  simp only[lR] at h
  split at h
  ·rename_i A;cases h;exact UG A G
  cases h
 |conv k x=>
  simp only[lR] at h
  split at h
  ·rename_i A;cases h;exact CM A G
  cases h
 |bin op x y=>
  simp only[lR] at h
  split at h
  ·rename_i A
   split at h
   ·rename_i O
    split at h
    ·rename_i hk
     subst hk
     obtain⟨r,J,K⟩:=Option.bind_eq_some_iff.1 h
     cases K
     cases op<;>simp only[PC] at J<;>(first|cases J)<;>first|exact Dn A O G|exact sC A O G|exact pU A O G|exact Am A O G|exact hY A O G|exact iD A O G
    cases h
   cases h
  cases h
 |pick c x y=>
  simp only[lR] at h
  split at h
  ·rename_i U
   obtain⟨u,J,K⟩:=Option.bind_eq_some_iff.1 h
   cases K;exact LS U J G
  ·rename_i U
   obtain⟨u,J,K⟩:=Option.bind_eq_some_iff.1 h
   cases K;exact LU U J G
  cases h
 |eqv c neg x y=>
  simp only[lR] at h
  split at h
  ·split at h
   ·rename_i O
    obtain⟨u,A,h⟩:=Option.bind_eq_some_iff.1 h
    obtain⟨t,ht,h⟩:=Option.bind_eq_some_iff.1 h
    cases h;exact TN A O ht G
   cases h
  cases h
 |_=>cases h
def PD(VE:b0)(v:VV):Option Key→b0
 |some k=>(k.n,v)::VE
 |none=>VE
def PE:Option Key→Nat
 |some k=>k.n
 |none=>0
def Im:Nat→List bt→b0→bo→Option (b0×bo×List bt)
 |0,ops,VE,B=>some (VE,B,ops)
 |_+1,[],_,_=>none
 |n+1,o::r,VE,B=>match o.g with
  |none=>(lR VE B (PE o.dst) o.op).bind fun x=>Im n r (PD VE x.1 o.dst) x.2.1
  |some _=>none
theorem ae(n:Nat){ops:List bt}{ep:b0}{B':bo}{r:List bt}(h:Im n ops VE B=some (ep,B',r))(k:VO T r ep B' Q):VO T ops VE B Q:=by
 induction n generalizing ops VE B with
 |zero=>cases h;exact k
 |succ n z=>
  cases ops with
  |nil=>cases h
  |cons o rest=>
   obtain⟨d,g,q,op⟩:=o
   cases g with
   |some _=>cases h
   |none=>
    obtain⟨x,A,h2⟩:=Option.bind_eq_some_iff.1 h
    obtain⟨v,G,W⟩:=x
    cases d with
    |some d=>exact ak (tD A (z h2))
    |none=>exact Nt (tD A (z h2))
def Io(VE:b0)(B:bo)(W:List Nat):bG→FL
 |.load _ _ a=>match a.vv VE with
  |some (.vp b _)=>match aY B b with
   |some (.one _ _ _)=>.rd [b]
   |_=>sW W
  |_=>sW W
 |_=>sW W
def Ip:Nat→List bt→b0→bo→List FL→Option (b0×bo×List FL×List bt)
 |0,ops,VE,B,fl=>some (VE,B,fl,ops)
 |_+1,[],_,_,_=>none
 |n+1,o::r,VE,B,fl=>match o.g with
  |none=>(lR VE B (PE o.dst) o.op).bind fun x=>match o.q with
   |none=>match o.dst with
    |some k=>Ip n r ((k.n,x.1)::VE) x.2.1 fl
    |none=>none
   |some l=>gd (nU x.2.2 l fl) (Ip n r (PD VE x.1 o.dst) x.2.1 ((match o.dst with|none=>sW x.2.2|some _=>Io VE B x.2.2 o.op)::fl))
  |some _=>none
theorem TP{fl:List FL}{d:Key}{l:List Nat}{op:bG}{W:List Nat}{r:List bt}{v:VV}{B':bo}(z:lR VE B d.n op=some (v,B',W))(hk:nU W l fl=true)(h:VQ T r ((d.n,v)::VE) B' (Io VE B W op::fl) Q):VQ T (⟨some d,none,some l,op⟩::r) VE B fl Q:=by
 cases op with
 |load n w a=>
  simp only[Io] at h
  split at h
  ·rename_i A
   split at h
   ·rename_i G
    have I:W=[]:=by
     simp only[lR,A,G] at z
     cases w
     ·obtain⟨_,z⟩:=nS z
      obtain⟨u,_,J⟩:=Option.bind_eq_some_iff.1 z
      cases J;rfl
     obtain⟨_,z⟩:=nS z
     cases z;rfl
    subst I
    exact TO A G trivial hk (tD z h)
   exact eo hk (tD z h)
  exact eo hk (tD z h)
 |_=>exact eo hk (tD z h)
theorem bk(n:Nat){ops:List bt}{fl z:List FL}{ep:b0}{B':bo}{r:List bt}(h:Ip n ops VE B fl=some (ep,B',z,r))(k:VQ T r ep B' z Q):VQ T ops VE B fl Q:=by
 induction n generalizing ops VE B fl with
 |zero=>cases h;exact k
 |succ n A=>
  cases ops with
  |nil=>cases h
  |cons o rest=>
   obtain⟨d,g,q,op⟩:=o
   cases g with
   |some _=>cases h
   |none=>
    obtain⟨x,G,h2⟩:=Option.bind_eq_some_iff.1 h
    obtain⟨v,K,W⟩:=x
    cases q with
    |none=>
     cases d with
     |some d=>exact c8 (tD G (A h2))
     |none=>cases h2
    |some l=>
     obtain⟨I,J⟩:=nS h2
     cases d with
     |some d=>exact TP G I (A J)
     |none=>exact Tx I (tD G (A J))
theorem ai{a:List bt}{c:IC}{R:Ex→b0→bo→Prop}(h:VO T a VE B fun ep B'=>VC T c ep B' R):VC T (.seq (.region false a) c) VE B R:=aK (bD h)
theorem eZ{a:List bt}{c:IC}{R:Ex→b0→bo→Prop}(h:VQ T a VE B [] fun ep B'=>VC T c ep B' R):VC T (.seq (.region true a) c) VE B R:=aK (iw h)
theorem al(n:Nat){a:List bt}{c:IC}{R:Ex→b0→bo→Prop}{ep:b0}{B':bo}(h:Im n a VE B=some (ep,B',[]))(k:VC T c ep B' R):VC T (.seq (.region false a) c) VE B R:=ai (ae n h (af k))
open Go
theorem Sa{T:bd}{f:Nat}(A:T.ft.get f=none)(h2:T.xt.get f=some 3){s:List UInt8}{u:Nat}(G:s.length≤1000)(I:Lib.parseUintB 64 s= .ok u):
  Sound T f [.d (cB s),.d (.i .i64 10),.d (.i .i64 64)] fun r=>r= .tuple [.d (.i .u64 u),.k .gS]:=by
 intro H0 X H β l J z
 simp only[bm,aM,cB,cN] at z
 obtain⟨_,_,rfl,rfl,_,_,rfl,rfl,_,_,rfl,rfl,rfl⟩:=z
 refine⟨1,.tuple [.int .u64 u,.gS],H,fun lf n _ h=>?_,.tuple [.d (.i .u64 u),.k .gS],[],β,.refl,J,by simp only[aM,cN,bm];exact⟨_,rfl,_,_,rfl,rfl,_,_,rfl,rfl,rfl⟩,by simp only[VV.nb,mu];exact⟨trivial,trivial,trivial⟩,rfl⟩
 obtain⟨n,rfl⟩:∃n',n=n'+1:=⟨n-1,by omega⟩
 show ob (T.ft.get f) (ob (T.xt.get f) (.err (Nat.add 10000 f)) fun c=>qM c _ H) _=_
 rw[A,h2]
 show uI [.str s.length (pack s),.int .i64 10,.int .i64 64] H=_
 simp only[uI]
 rw[aw ⟨trivial,trivial,trivial,trivial,G⟩,zt,I]
theorem SV{T:bd}{f t:Nat}(I:T.ft.get f=none)(h2:T.xt.get f=some (4+t)){s:List UInt8}(J:s.length≤1000)(K:(∃v,Lib.parseIntB 64 s= .ok v)∨Lib.parseIntB 64 s= .range):
  Sound T f [.d (cB s),.d (.i .i64 10),.d (.i .i64 64)] fun r=>∃n e,r= .tuple [.d (.i .i64 n),e]∧((∃m,Lib.parseIntB 64 s= .ok m∧n=m∧e= .k .gS)∨(Lib.parseIntB 64 s= .range∧e= .jB)):=by
 intro H0 X H β l A G
 simp only[bm,aM,cB,cN] at G
 obtain⟨_,_,rfl,rfl,_,_,rfl,rfl,_,_,rfl,rfl,rfl⟩:=G
 have key:∀lf n,1≤n→T.call lf n f [.str s.length (pack s),.int .i64 10,.int .i64 64] H=sS t [.str s.length (pack s),.int .i64 10,.int .i64 64] H:=fun lf n h=>by
  obtain⟨n,rfl⟩:∃n',n=n'+1:=⟨n-1,by omega⟩
  show ob (T.ft.get f) (ob (T.xt.get f) (.err (Nat.add 10000 f)) fun c=>qM c _ H) _=_
  rw[I,h2,show 4+t=t+4 by omega]
  rfl
 have e:sS t [.str s.length (pack s),.int .i64 10,.int .i64 64] H=(match Lib.parseIntB 64 s with
  |.ok v=>.ok (.tuple [.int .i64 v,.gS]) H
  |.range=>.ok (.tuple [.int .i64 (Lib.intSat 64 s),.iface t (.map 0)]) H
  |_=>.err 93):=by
  simp only[sS]
  rw[aw ⟨trivial,trivial,trivial,trivial,J⟩,zt]
  cases Lib.parseIntB 64 s<;>rfl
 rcases K with⟨m,z⟩|z
 ·refine⟨1,.tuple [.int .i64 m,.gS],H,fun lf n _ h=>?_,.tuple [.d (.i .i64 m),.k .gS],[],β,.refl,A,by simp only[aM,cN,bm];exact⟨_,rfl,_,_,rfl,rfl,_,_,rfl,rfl,rfl⟩,by simp only[VV.nb,mu];exact⟨trivial,trivial,trivial⟩,_,_,rfl,.inl ⟨m,z,rfl,rfl⟩⟩
  rw[key lf n h,e,z]
 refine⟨1,.tuple [.int .i64 (Lib.intSat 64 s),.iface t (.map 0)],H,fun lf n _ h=>?_,.tuple [.d (.i .i64 (Lib.intSat 64 s)),.jB],[],β,.refl,A,by simp only[aM,cN,bm];exact⟨_,rfl,_,_,rfl,rfl,_,_,rfl,⟨_,_,rfl⟩,rfl⟩,by simp only[VV.nb,mu];exact⟨trivial,trivial,trivial⟩,_,_,rfl,.inr ⟨z,rfl⟩⟩
 rw[key lf n h,e,z]
section
variable{T:bd}{VE:b0}{B:bo}{Q:b0→bo→Prop}
theorem aO{d g:Key}{want t:Bool}{A:Option (List Nat)}{op:bG}{r:List bt}(G:aY VE g.n=some (.d (.b t)))(I:t=!want)(h:VO T r ((d.n,.k .undef)::VE) B Q):VO T (⟨some d,some (g,want),A,op⟩::r) VE B Q:=by
 intro H0 X0 E H β z
 refine LM (z.bool G) (by rw[I];cases want<;>decide) ?_
 exact h H0 X0 _ H β (z.set (by simp only[aM]))
theorem Cw{d g:Key}{want:Bool}{A:Option (List Nat)}{op:bG}{r:List bt}(G:aY VE g.n=some (.k .undef))(h:VO T r ((d.n,.k .undef)::VE) B Q):VO T (⟨some d,some (g,want),A,op⟩::r) VE B Q:=by
 intro H0 X0 E H β z
 obtain⟨a,I,h2⟩:=z.env g _ G
 simp only[aM] at h2
 subst h2
 obtain⟨J,K,O,b,c⟩:=h H0 X0 (E.set d .undef) H β (z.set (by simp only[aM]))
 refine⟨J,K,O,fun lf n U Y=>?_,c⟩
 show ob (E.get g) (.err 51) (fun v=>wA v (kC (some d) E H fun E H=>mV (T.call lf n) r E H) fun b=>aG (Bool.xor b want) (kC (some d) E H fun E H=>mV (T.call lf n) r E H) (fin (some d) E (fun E H=>mV (T.call lf n) r E H) (op.ev (T.call lf n) E H)))=_
 rw[I,di]
 show kC (some d) E H (fun E H=>mV (T.call lf n) r E H)=_
 rw[vI]
 exact b lf n U Y
end
open Go
variable{T:bd}
theorem KA{E:Env}{H:az}{x i:aF}{z es f g o:Nat}{k:IntKind}{j:Nat}{Q:an→az→Prop}(G:x.ev E=some (.ptr f g o))(hi:i.ev E=some (.int k (j:Int)))(I:j<z)(J:Q (.ptr f g (o+j*es)) H):iV T (.iW z es x i) E H Q:=
 gf (fun _=>by
  show bB x E (.err 11) (fun v=>iE v (.err 11) fun f g off=>bB i E (.err 11) fun A=>idx A z (.err 11) fun j=>dk (Nat.add off (Nat.mul j es)) fun off=>.ok (.ptr f g off) H)=_
  rw[dj,G,di]
  show bB i E (.err 11) (fun A=>idx A z (.err 11) fun j=>dk (Nat.add o (Nat.mul j es)) fun off=>.ok (.ptr f g off) H)=_
  rw[dj,hi,di]
  show aG (Nat.ble (Nat.succ j) z) (dk (o+j*es) fun off=>aE.ok (.ptr f g off) H) (aE.err 11)=_
  rw[jN I,ij];rfl) J
variable{VE:b0}{B:bo}{Q:VV→bo→Prop}
theorem md{x i:aF}{G es b o j:Nat}{k:IntKind}(I:x.vv VE=some (.vp b o))(hi:i.vv VE=some (.d (.i k (j:Int))))(J:j<G)(K:Q (.vp b (o+j*es)) B):VI T (.iW G es x i) VE B [] Q:=fun _ _ _ _ _ z=>by
 obtain⟨_,O,h2⟩:=z.b8 I
 obtain⟨_,U,A⟩:=z.b8 hi
 simp only[aM] at h2 A
 simp only[cN] at A
 subst A;subst h2
 exact KA O U J (eS z (v:=.vp b (o+j*es)) (by simp only[aM]) K)
end Go.Ev
