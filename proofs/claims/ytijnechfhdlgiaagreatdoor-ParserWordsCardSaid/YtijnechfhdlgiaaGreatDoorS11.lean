/- Part 11 of rules for walks through the code of a program, and of such walks; what each part proves is said by its theorems. -/
import Derived.Test.YtijnechfhdlgiaaGreatDoorS10
import Derived.ChangeStays
set_option linter.unusedVariables false
set_option linter.unusedSimpArgs false
namespace Go.Ev
open Go
theorem sound_true{T:bf}{f:Nat}(A:T.ft.get f=none)(h2:T.xt.get f=some 2):Sound T f [] fun r=>r= .d (.b true):=by
 intro H0 X H β l G z
 simp only[bm] at z
 subst z
 refine⟨1,.bool true,H,fun lf n _ h=>?_,.d (.b true),[],β,.refl,G,by simp only[aN,cO],by simp only[VV.nb],rfl⟩
 obtain⟨n,rfl⟩:∃n',n=n'+1:=⟨n-1,by omega⟩
 show ob (T.ft.get f) (ob (T.xt.get f) (.err (Nat.add 10000 f)) fun c=>qy c [] H) _=_
 rw[A,h2]
 rfl
section
variable{H:Type}{enc:TypeId×Value→H}{P:Program}{w w':World}{base:Nat}{sp:Nat→Bool}{held:Bool}
theorem Kept.sameAt(hk:Kept w w'){p:MemPlace}(hp:p.block<w.heap.size):w.sameAt w' p:=by
 cases p with
 |cell b off=>exact cell_of_heap (a:=⟨b,off,none⟩) (hk.pb b hp)
 |map b=>exact hk.pb b hp
theorem law_runs{T:bf}{f m:Nat}{g:Func}{fn:bA}{A:List TypeId}{args:Array Value}{G:List (DataW H)}{ps:List MemPlace}{w1:World}{r:Reach}{b1:Nat}
  (hT:Gu P T.ft) (I:N7 P T.xt) (z:P.follows .mixedOrders=true) (hf:P.funcs[f]?=some g) (hg:uO P g=some fn) (J:T.ft.get f=some fn)
  (K:xT P w) (hz:0<w.heap.size) (hA:DataW.TrodAll enc P w base (fun _=>true) held A args.toList G ps) (O:A.all (i6 P m)=true)
  (U:∀(j:Nat)t v,A[j]?=some t→args.toList[j]?=some v→Value.okWide P w1 r b1 t v) (hs:Sound T f (Aq P A G) fun r=>r= .d (.b true)):
  Calls P f args w fun e w'=>e= .returned (.bool true)∧Kept w w':=by
 obtain⟨n,ρ,t,Y,_,h2,h3,h4⟩:=JY hz A args.toList G ps hA O U _ _ _ (RS.start (P:=P) (w:=w) (bY _) K)
 have Z:iC (lQ n t) oa (lQ n t) (XB oa [] fun _=>0):=⟨bY _,fun f _ I=>⟨fun k=>I (MN f k),rfl⟩⟩
 obtain⟨N,v,H',k1,rv,_,_,_,_,k3,_,rfl⟩:=hs (fun _=>0) oa (lQ n t) (fun _=>0) Y (Rel.start (df _) (fun _ h=>h.elim)) (bm.lift Z h4)
 simp only[aN,cO] at k3
 subst k3
 have k4:=k1 N (N+1) (bY _) (sw _)
 have k5:ob (T.ft.get f) (ob (T.xt.get f) (.err (Nat.add 10000 f)) fun c=>qy c Y (lQ n t)) (fun fn=>sC (T.call N N) N fn Y (lQ n t))= .ok (.bool true) H':=k4
 rw[J,dh] at k5
 refine Calls.mono (Ro (MI z hT I N) z hf hg h2 k5 h3) fun e w'⟨cv,ρ',he,hv,hk⟩=>?_
 simp only[VR] at hv
 subst hv
 exact⟨he,hk⟩
end
open Go
inductive ny where
 |i (k:IntKind)
 |b
 |s
 |sl (row:List ny)
mutual
def ny.fits:ny→DC→Prop
 |.i k,d=>∃n,d= .i k n∧(Lit.int k n).wf=true
 |.b,d=>∃b,d= .b b
 |.s,d=>∃bs:List UInt8,d= .s bs.length (pack bs)∧bs.length≤maxLen
 |.sl row,d=>d= .nil∨∃rows,d= .sl rows∧rows.length≤maxLen∧∀r,r∈rows→jL row r
def jL:List ny→List DC→Prop
 |[],l=>l=[]
 |p::ps,l=>∃d r,l=d::r∧p.fits d∧jL ps r
end
mutual
def tU(P:Program):Nat→TypeId→List ny
 |0,_=>[]
 |n+1,t=>match P.underlying t with
  |some .bool=>[.b]
  |some (.int k)=>[.i k]
  |some .string=>[.s]
  |some (.slice e)=>[.sl (tU P n e)]
  |some (.struct z)=>z.toList.flatMap fun f=>tU P n f.type
  |some (.array k e)=>(sL P k e).flatMap fun f=>tU P n f.type
  |_=>[]
end
theorem Jd:∀{ps z:List ny}{l m:List DC},jL ps l→jL z m→jL (ps++z) (l++m)
 |[],z,l,m,h,k=>by simp only[jL] at h;subst h;exact k
 |p::ps,z,l,m,h,k=>by
  simp only[jL] at h
  obtain⟨d,r,rfl,A,h2⟩:=h
  simp only[yA,jL]
  exact⟨d,_,rfl,A,Jd h2 k⟩
section
variable{H:Type}{enc:TypeId×Value→H}{P:Program}{w:World}{base:Nat}{held:Bool}
theorem FB{m n:Nat}{cs:List Value}(z:∀t cs x,i6 P m t=true→DataW.trod enc P w base (fun _=>true) held n t cs=some x→jL (tU P m t) (gS x.1)):
  ∀(A:List Field)(off:Nat)(xs:List (DataW H×List MemPlace)),rU P (i6 P m) A off cs.length=true→xs.length=A.length→
   (∀(i:Nat)(f:Field),A[i]?=some f→DataW.trod enc P w base (fun _=>true) held n f.type ((cs.drop f.offset).take (P.cellsOf f.type))=xs[i]?)→jL (A.flatMap fun f=>tU P m f.type) (uC (xs.map (·.1)))
 |[],off,xs,h,G,_=>by
  obtain rfl:xs=[]:=sS G
  simp only[fy,uC,List.flatMap_nil,jL]
 |f::r,off,xs,h,G,J=>by
  cases xs with
  |nil=>simp at G
  |cons x0 K=>
   simp only[rU,eZ] at h
   obtain⟨⟨h1,h2⟩,O⟩:=h
   have I:=J 0 f rfl
   have U:=z _ _ x0 h2 (by simpa using I)
   have Y:=FB z r (off+P.cellsOf f.type) K O (by simpa using G) fun i g Z=>by simpa using J (i+1) g (by simpa using Z)
   simpa only[eB,uC,List.flatMap_cons] using Jd U Y
theorem T5:∀(m:Nat)(fuel:Nat)(t:TypeId)(cs:List Value)(x:DataW H×List MemPlace),i6 P m t=true→DataW.trod enc P w base (fun _=>true) held fuel t cs=some x→jL (tU P m t) (gS x.1):=by
 intro m
 induction m with
 |zero=>intro fuel t cs x h;simp[i6] at h
 |succ m K=>
  intro fuel t cs x h A
  unfold i6 at h
  unfold tU
  split at h
  ·rename_i z
   obtain⟨b,rfl,rfl⟩:=DataW.trod_bool z A
   try rw[z]
   simp only[gS,jL,ny.fits]
   exact⟨_,_,rfl,⟨b,rfl⟩,rfl⟩
  ·rename_i k z
   obtain⟨n,rfl,rfl,hw⟩:=DataW.trod_int z A
   try rw[z]
   simp only[gS,jL,ny.fits]
   exact⟨_,_,rfl,⟨n,rfl,hw⟩,rfl⟩
  ·rename_i z
   obtain⟨s,rfl,rfl,hl⟩:=DataW.trod_string z A
   try rw[z]
   simp only[gS,jL,ny.fits]
   exact⟨_,_,rfl,⟨_,rfl,by rw[ng];exact hl⟩,rfl⟩
  ·rename_i e z
   simp only[eZ] at h
   obtain⟨⟨_,Y⟩,h2⟩:=h
   try rw[z]
   rcases DataW.trod_slice z A with⟨rfl,rfl⟩|⟨a,len,cap,elems,rest,n,rfl,rfl,rfl,_,I,J,G,k5,_,_⟩
   ·simp only[gS,jL,ny.fits]
    exact⟨_,_,rfl,.inl rfl,rfl⟩
   simp only[gS,jL,ny.fits]
   refine⟨_,_,rfl,.inr ⟨_,rfl,by rw[BJ];simp only[cC];omega,fun r Z=>?_⟩,rfl⟩
   rw[BJ,CV] at Z
   obtain⟨x,A,rfl⟩:=List.mem_map.1 Z
   obtain⟨i,hi⟩:=HL A
   have O:i<len:=by rw[←G];exact(List.getElem?_eq_some_iff.1 hi).1
   have h:=k5 i O
   rw[hi] at h
   obtain⟨cs,c1,c2⟩:=Option.bind_eq_some_iff.1 h
   exact K n e cs x h2 c2
  ·rename_i fs z
   obtain⟨xs,n,rfl,rfl,I,J,G⟩:=DataW.trod_struct z A
   try rw[z]
   simp only[gS]
   exact FB (cs:=cs) (fun t cs x hk A=>K n t cs x hk A) fs.toList 0 xs (by rw[I];exact h) (by simpa using J) (fun i f U=>G i f (by simpa using U))
  ·rename_i k e z
   simp only[eZ] at h
   obtain⟨xs,n,rfl,rfl,I,J,G⟩:=DataW.trod_array z A
   try rw[z]
   simp only[gS]
   exact FB (cs:=cs) (fun t cs x hk A=>K n t cs x hk A) (sL P k e) 0 xs (by rw[I];exact h.2) (by rw[J];unfold sL;rw[cC,G8]) (fun i f U=>by obtain⟨hi,Y,h2⟩:=Lj U;rw[Y,h2];exact G i hi)
  cases h
theorem R9{m:Nat}:∀(A:List TypeId)(vs:List Value)(z:List (DataW H))(ps:List MemPlace),DataW.TrodAll enc P w base (fun _=>true) held A vs z ps→(A.all (i6 P m))=true→
  z.length=A.length∧∀(i:Nat)(t:TypeId)(d:DataW H),A[i]?=some t→z[i]?=some d→jL (tU P m t) (gS d)
 |[],vs,z,ps,h,_=>by
  cases vs with
  |cons=>cases z<;>simp[DataW.TrodAll] at h
  |nil=>cases z with
   |cons=>simp[DataW.TrodAll] at h
   |nil=>exact⟨rfl,fun i t d h=>by simp at h⟩
 |t::A,vs,z,ps,h,G=>by
  cases vs with
  |nil=>cases z<;>simp[DataW.TrodAll] at h
  |cons v vs=>cases z with
   |nil=>simp[DataW.TrodAll] at h
   |cons d z=>
    simp only[DataW.TrodAll] at h
    obtain⟨p,q,⟨fuel,J⟩,h2,rfl⟩:=h
    simp only[Eo,eZ] at G
    obtain⟨K,O⟩:=R9 A vs z q h2 G.2
    refine⟨by simp[K],fun i t' U hi I=>?_⟩
    cases i with
    |zero=>simp at hi I;subst hi;subst I;exact T5 m fuel t _ _ G.1 J
    |succ i=>exact O i t' U (by simpa using hi) (by simpa using I)
end
theorem T6{α:Type}{row:List ny}{e:α→List DC}(h:∀r,jL row r→∃a,r=e a){d:DC}(z:ny.fits (.sl row) d):∃o:Option (List α),d=so e o:=by
 simp only[ny.fits] at z
 rcases z with rfl|⟨rows,rfl, -,A⟩
 ·exact⟨none,rfl⟩
 have:∃l:List α,rows=l.map e:=by
  induction rows with
  |nil=>exact⟨[],rfl⟩
  |cons r rs G=>
   obtain⟨a,rfl⟩:=h r (A r (lh ..))
   obtain⟨l,rfl⟩:=G (fun r k=>A r (nO _ k))
   exact⟨a::l,rfl⟩
 obtain⟨l,rfl⟩:=this
 exact⟨some l,rfl⟩
@[reducible] def oM(d x:Key):bt:=⟨some d,none,none,.nX (.t x)⟩
@[reducible] def oC(d:Key)(v:an):bt:=⟨some d,none,none,.nX (.c v)⟩
@[reducible] def oG(d g:Key)(b:Bool)(x:Key):bt:=⟨some d,some (g,b),none,.nX (.t x)⟩
@[reducible] def oP(d:Key)(i:bE):bt:=⟨some d,none,none,i⟩
@[reducible] def oN(i:bE):bt:=⟨none,none,none,i⟩
@[reducible] def oQ(d:Key)(l:List Nat)(i:bE):bt:=⟨some d,none,some l,i⟩
@[reducible] def oX(d g:Key)(b:Bool)(i:bE):bt:=⟨some d,some (g,b),none,i⟩
@[reducible] def cR(l:List bt):IC:=.region false l
@[reducible] def cD(l:List bt):IC:=.region true l
@[reducible] def t0:aG:=.t ah
@[reducible] def t1:aG:=.t aV
@[reducible] def t2:aG:=.t az
@[reducible] def t3:aG:=.t ay
@[reducible] def nI(n:Nat):an:=.int .i64 (.ofNat n)
open Go
section
variable{P:Program}
theorem FC{ok:TypeId→Bool}:∀{z:List Field}{off n:Nat},rU P ok z off n=true→(∀f∈z,ok f.type=true)∧n=off+(z.map fun f=>P.cellsOf f.type).sum∧∀(j:Nat)f,z[j]?=some f→f.offset=off+((z.take j).map fun f=>P.cellsOf f.type).sum
 |[],off,n,h=>by
  have h:off=n:=dZ h
  subst h
  exact⟨fun f h=>by simp at h,by simp,fun j f h=>by simp at h⟩
 |f::r,off,n,h=>by
  simp only[rU,eZ] at h
  obtain⟨⟨A,h2⟩,J⟩:=h
  have A:f.offset=off:=dZ A
  obtain⟨K,O,U⟩:=FC J
  refine⟨fun g G=>?_,by rw[O];simp only[eB,List.sum_cons];omega,fun j g I=>?_⟩
  ·rcases List.mem_cons.1 G with rfl|G
   ·exact h2
   exact K g G
  cases j with
  |zero=>simp at I;subst I;simpa using A
  |succ j=>
   rw[U j g (by simpa using I)]
   simp only[xD,eB,List.sum_cons]
   omega
def Bl(P:Program)(t:TypeId):Prop:=∃m,i6 P m t=true
theorem Bl.kids:Kids P (Bl P):=by
 refine⟨fun{t e}⟨m,h⟩z=>?_,fun{t e}⟨m,h⟩z=>?_,fun{t e n}⟨m,h⟩z=>?_,fun{t U}⟨m,h⟩z=>?_,fun{t k e}⟨m,h⟩z=>?_⟩
 all_goals cases m with
  |zero=>simp[i6] at h
  |succ m=>?_
 ·unfold i6 at h;rw[z] at h;simp at h
 ·unfold i6 at h
  rw[z] at h
  simp only[eZ] at h
  exact⟨m,h.2⟩
 ·unfold i6 at h
  rw[z] at h
  simp only[eZ] at h
  refine⟨⟨m,h.1⟩,?_⟩
  rw[(FC h.2).2.1,jA]
  unfold sL
  rw[CV,show((fun f:Field=>P.cellsOf f.type)∘fun i=>Field.mk default e (i*P.cellsOf e) default default default default)=fun _=>P.cellsOf e from rfl]
  clear h z
  generalize P.cellsOf e=c
  induction n with
  |zero=>simp
  |succ n A=>rw[List.range_succ,dT,List.sum_append,A,Eu];simp
 ·unfold i6 at h
  rw[z] at h
  obtain⟨G,I,J⟩:=FC h
  exact⟨fun f K=>⟨m,G f K⟩,by rw[I,jA],fun j f O=>by rw[J j f O,jA]⟩
 unfold i6 at h;rw[z] at h;simp at h
theorem Bl.pos{t e:TypeId}(h:Bl P t)(z:P.underlying t=some (.slice e)):0<P.cellsOf e:=by
 obtain⟨m,h⟩:=h
 cases m with
 |zero=>simp[i6] at h
 |succ m=>
  unfold i6 at h
  rw[z] at h
  simp only[eZ] at h
  exact bW h.1.2
variable{H:Type}{enc:TypeId×Value→H}{w w':World}{base:Nat}{PL:Nat→Bool}
theorem Kept.T7{m:Nat}(hk:Kept w w')(G:∀b,b<w.heap.size→PL b=true):∀{I:List TypeId}{vs:List Value}{z:List (DataW H)}{ps:List MemPlace},I.all (i6 P m)=true→DataW.TrodAll enc P w base (fun _=>true) true I vs z ps→DataW.TrodAll enc P w' base PL true I vs z ps
 |[],vs,z,ps,_,h=>by
  cases vs with
  |cons=>cases z<;>simp[DataW.TrodAll] at h
  |nil=>cases z with
   |cons=>simp[DataW.TrodAll] at h
   |nil=>exact h
 |t::I,vs,z,ps,J,h=>by
  cases vs with
  |nil=>cases z<;>simp[DataW.TrodAll] at h
  |cons v vs=>cases z with
   |nil=>simp[DataW.TrodAll] at h
   |cons d z=>
    simp only[Eo,eZ] at J
    simp only[DataW.TrodAll] at h⊢
    obtain⟨p,q,⟨fuel,K⟩,h2,rfl⟩:=h
    refine⟨p,q,⟨fuel,DataW.trod_stays Bl.kids (fun h=>h.pos) (fun h=>by cases h) ⟨m,J.1⟩ K (fun x A=>hk.sameAt (DataW.trod_lt _ _ _ _ K x A)) fun x A=>G _ (DataW.trod_lt _ _ _ _ K x A)⟩,hk.T7 G J.2 h2,rfl⟩
end
open Go
def cJ(bs:List UInt8):DC:=.s bs.length (pack bs)
section
variable{T:bf}{H0:Nat→Nat}{X0:Nat→Prop}{VE eh:b0}{B B':br}{E:Env}{H H':aB}{β:Nat→Nat}{X:Nat→Prop}
variable{W:List Nat}{Q:VV→br→Prop}
theorem Rel.W6(z:Rel H0 X0 VE B E H β){x:aG}{l v:Nat}(A:x.vv VE=some (.d (.s l v))):x.ev E=some (.str l v):=by
 obtain⟨_,G,h2⟩:=z.b9 A
 simp only[aN,cO] at h2
 rw[G,h2]
theorem Rel.str(z:Rel H0 X0 VE B E H β){x:aG}{bs:List UInt8}(A:x.vv VE=some (.d (cJ bs))):x.ev E=some (.str bs.length (pack bs)):=z.W6 A
theorem Rel.wm(z:Rel H0 X0 VE B E H β){x:aG}{k:IntKind}{n:Int}(A:x.vv VE=some (.d (.i k n))):x.ev E=some (.int k n):=by
 obtain⟨_,G,h2⟩:=z.b9 A
 simp only[aN,cO] at h2
 rw[G,h2]
theorem fM{x i:aG}{bs:List UInt8}{k:IntKind}{j:Nat}{c:UInt8}(I:x.vv VE=some (.d (cJ bs)))(hi:i.vv VE=some (.d (.i k (j:Int))))(J:bs[j]?=some c)(K:Q (.d (.i .u8 (c.toNat:Nat))) B):VI T (.sb x i) VE B [] Q:=fun _ _ _ _ _ A=>by
 have O:=A.str I
 have h2:=A.wm hi
 obtain⟨z,U⟩:=List.getElem?_eq_some_iff.1 J
 refine gf (v:=.int .u8 (.ofNat c.toNat)) (fun call=>?_) (e7 A (v:=.d (.i .u8 (c.toNat:Nat))) (by simp only[aN,cO];rfl) K)
 show bB x _ (.err 14) (fun v=>jR v (.err 14) fun l s=>bB i _ (.err 14) fun G=>Ev.idx G l (.err 14) fun j=>dr (vI s j) fun b=>.ok (.int .u8 (.ofNat b)) _)=_
 rw[dp,O,dh]
 show bB i _ (.err 14) (fun G=>Ev.idx G bs.length (.err 14) fun j=>dr (vI (pack bs) j) fun b=>.ok (.int .u8 (.ofNat b)) _)=_
 rw[dp,h2,dh]
 show aH (Nat.ble (Nat.succ j) bs.length) (dr (vI (pack bs) j) fun b=>aE.ok (.int .u8 (.ofNat b)) _) (aE.err 14)=_
 rw[show Nat.ble (Nat.succ j) bs.length=true from jz z,f9,im,Js bs j z,U]
def EM(VE:b0):Option aG→Nat→Nat→Prop
 |none,d,n=>n=d
 |some x,_,n=>∃k,x.vv VE=some (.d (.i k (n:Int)))
theorem LW(A:Rel H0 X0 VE B E H β){x:Option aG}{d n y:Nat}(z:EM VE x d n)(G:n≤y)(I:d≤y){e:aE}{k:Nat→aE}:gL E x d y e k=k n:=by
 cases x with
 |none=>simp only[EM] at z;subst z;rfl
 |some x=>
  obtain⟨J,z⟩:=z
  have h2:=A.wm z
  show ob (x.ev E) e (fun v=>gI v e fun _ i=>jb i e fun n=>aH (Nat.ble n y) (k n) e)=_
  rw[h2,dh]
  show aH (Nat.ble n y) (k n) e=_
  rw[jz G,f9]
theorem j7{x:aG}{lo hi:Option aG}{bs:List UInt8}{l h:Nat}(I:x.vv VE=some (.d (cJ bs)))(J:EM VE hi bs.length h)(K:EM VE lo 0 l)(A:l≤h)(G:h≤bs.length)(O:Q (.d (cJ ((bs.drop l).take (h-l)))) B):VI T (.iR x lo hi) VE B [] Q:=fun _ _ _ _ _ z=>by
 have U:=z.str I
 have hlen:((bs.drop l).take (h-l)).length=h-l:=by rw[nf,iL];omega
 refine gf (v:=.str (h-l) (xm (pack bs) l h)) (fun call=>?_) (e7 z (v:=.d (cJ ((bs.drop l).take (h-l)))) (by simp only[aN,cJ,cO,Jt,hlen]) O)
 show bB x _ (.err 15) (fun v=>jR v (.err 15) fun l s=>gL _ hi l l (.err 15) fun h=>gL _ lo 0 h (.err 15) fun lo=>dr (Nat.sub h lo) fun n=>dr (xm s lo h) fun s=>.ok (.str n s) _)=_
 rw[dp,U,dh]
 show gL _ hi bs.length bs.length (.err 15) (fun h=>gL _ lo 0 h (.err 15) fun lo=>dr (Nat.sub h lo) fun n=>dr (xm (pack bs) lo h) fun s=>.ok (.str n s) _)=_
 rw[LW z J G (bY _),LW z K A (df _),im,im]
 rfl
theorem LX{x y:aG}{a b:List UInt8}(A:x.vv VE=some (.d (cJ a)))(G:y.vv VE=some (.d (cJ b)))(I:a.length+b.length≤4611686018427387904)(J:Q (.d (cJ (a++b))) B):VI T (.bin .add x y) VE B [] Q:=fun _ _ _ _ _ z=>
 xb (z.str A) (z.str G) (v:=.str (a.length+b.length) (zI a.length (pack a) (pack b))) (by
  show aH (Nat.ble (Nat.add a.length b.length) 4611686018427387904) (some (an.str (Nat.add a.length b.length) (zI a.length (pack a) (pack b)))) none=_
  rw[show Nat.ble (Nat.add a.length b.length) 4611686018427387904=true from jz I];rfl)
  (e7 z (v:=.d (cJ (a++b))) (by simp only[aN,cJ,cO,bK,Ju]) J)
theorem oo{x y:aG}{a b:List UInt8}(A:x.vv VE=some (.d (cJ a)))(G:y.vv VE=some (.d (cJ b)))(I:Q (.d (.b (decide (a=b)))) B):VI T (.bin .eql x y) VE B [] Q:=fun _ _ _ _ _ z=>
 xb (z.str A) (z.str G) (v:=.bool (rf a.length (pack a) b.length (pack b))) rfl (e7 z (v:=.d (.b (decide (a=b)))) (by simp only[aN,cO,BF]) I)
theorem S2{x y:aG}{a b:List UInt8}(A:x.vv VE=some (.d (cJ a)))(G:y.vv VE=some (.d (cJ b)))(I:Q (.d (.b (!decide (a=b)))) B):VI T (.bin .neq x y) VE B [] Q:=fun _ _ _ _ _ z=>
 xb (z.str A) (z.str G) (v:=.bool (!rf a.length (pack a) b.length (pack b))) rfl (e7 z (v:=.d (.b (!decide (a=b)))) (by simp only[aN,cO,BF]) I)
theorem wP{x:aG}{bs:List UInt8}(A:x.vv VE=some (.d (cJ bs)))(G:Q (.d (.i .i64 (bs.length:Nat))) B):VI T (.o5 x) VE B [] Q:=fun _ _ _ _ _ z=>
 KZ (z.str A) (e7 z (v:=.d (.i .i64 (bs.length:Nat))) (by simp only[aN,cO]) G)
theorem xw{op:BinOp}{x y:aG}{k:IntKind}{a b:Int}{r:Bool}(A:x.vv VE=some (.d (.i k a)))(G:y.vv VE=some (.d (.i k b)))(h:iQ op k a k b=some (.bool r))(I:Q (.d (.b r)) B):VI T (.bin op x y) VE B [] Q:=fun _ _ _ _ _ z=>
 xb (z.wm A) (z.wm G) (v:=.bool r) h (e7 z (v:=.d (.b r)) (by simp only[aN,cO]) I)
theorem GX{x y:aG}{k:IntKind}{a b:Int}(z:x.vv VE=some (.d (.i k a)))(A:y.vv VE=some (.d (.i k b)))(G:Q (.d (.b (decide (a<b)))) B):VI T (.bin .lss x y) VE B [] Q:=xw z A (by rw[←oA];cases k<;>rfl) G
theorem tV{x y:aG}{k:IntKind}{a b:Int}(z:x.vv VE=some (.d (.i k a)))(A:y.vv VE=some (.d (.i k b)))(G:Q (.d (.b (decide (b<a)))) B):VI T (.bin .gtr x y) VE B [] Q:=xw z A (by rw[←oA];cases k<;>rfl) G
theorem Kz(a b:Int):(!decide (a<b))=decide (b≤a):=by
 by_cases h:a<b
 ·simp[h,Int.not_le.2 h]
 simp[h,Int.not_lt.1 h]
theorem pL{x y:aG}{k:IntKind}{a b:Int}(z:x.vv VE=some (.d (.i k a)))(A:y.vv VE=some (.d (.i k b)))(G:Q (.d (.b (decide (a≤b)))) B):VI T (.bin .leq x y) VE B [] Q:=xw z A (r:=!decide (b<a)) (by rw[←oA];cases k<;>rfl) (by rw[Kz];exact G)
theorem zU{x y:aG}{k:IntKind}{a b:Int}(z:x.vv VE=some (.d (.i k a)))(A:y.vv VE=some (.d (.i k b)))(G:Q (.d (.b (decide (b≤a)))) B):VI T (.bin .geq x y) VE B [] Q:=xw z A (r:=!decide (a<b)) (by rw[←oA];cases k<;>rfl) (by rw[Kz];exact G)
theorem gZ{x y:aG}{k:IntKind}{a b:Int}(z:x.vv VE=some (.d (.i k a)))(A:y.vv VE=some (.d (.i k b)))(G:Q (.d (.b (decide (a=b)))) B):VI T (.bin .eql x y) VE B [] Q:=xw z A (by rw[←tT];cases k<;>rfl) G
theorem iq{x y:aG}{k:IntKind}{a b:Int}(z:x.vv VE=some (.d (.i k a)))(A:y.vv VE=some (.d (.i k b)))(G:Q (.d (.b (!decide (a=b)))) B):VI T (.bin .neq x y) VE B [] Q:=xw z A (by rw[←tT];cases k<;>rfl) G
theorem zg{op:BinOp}{x y:aG}{k:IntKind}{a b r:Int}(A:x.vv VE=some (.d (.i k a)))(G:y.vv VE=some (.d (.i k b)))(h:iQ op k a k b=some (.int k r))(I:Q (.d (.i k r)) B):VI T (.bin op x y) VE B [] Q:=fun _ _ _ _ _ z=>
 xb (z.wm A) (z.wm G) (v:=.int k r) h (e7 z (v:=.d (.i k r)) (by simp only[aN,cO]) I)
theorem Cm{x y:aG}{k:IntKind}{a b:Int}(z:x.vv VE=some (.d (.i k a)))(A:y.vv VE=some (.d (.i k b)))(G:Q (.d (.i k (k.wrap (a+b)))) B):VI T (.bin .add x y) VE B [] Q:=zg z A (by rw[←mW];cases k<;>rfl) G
theorem GB{x y:aG}{k:IntKind}{a b:Int}(z:x.vv VE=some (.d (.i k a)))(A:y.vv VE=some (.d (.i k b)))(G:Q (.d (.i k (k.wrap (a-b)))) B):VI T (.bin .sub x y) VE B [] Q:=zg z A (by rw[←mW];cases k<;>rfl) G
theorem LY{x y:aG}{k:IntKind}{a b:Int}(z:x.vv VE=some (.d (.i k a)))(A:y.vv VE=some (.d (.i k b)))(G:Q (.d (.i k (k.wrap (a*b)))) B):VI T (.bin .mul x y) VE B [] Q:=zg z A (by rw[←mW];cases k<;>rfl) G
theorem T8{x y:aG}{k:IntKind}{a b:Int}(z:x.vv VE=some (.d (.i k a)))(A:y.vv VE=some (.d (.i k b)))(h0:me b 0=false)(G:Q (.d (.i k (k.wrap (a.tdiv b)))) B):VI T (.bin .quo x y) VE B [] Q:=zg z A (by
 have:iQ .quo k a k b=aH (Nat.beq (dn k) (dn k)) (aH (me b 0) none (some (.int k (lV k (a.tdiv b))))) none:=rfl
 rw[this,h0,←mW,show Nat.beq (dn k) (dn k)=true from iX _];rfl) G
theorem LZ{x y:aG}{k:IntKind}{a b:Int}(z:x.vv VE=some (.d (.i k a)))(A:y.vv VE=some (.d (.i k b)))(h0:me b 0=false)(G:Q (.d (.i k (a.tmod b))) B):VI T (.bin .rem x y) VE B [] Q:=zg z A (by
 have:iQ .rem k a k b=aH (Nat.beq (dn k) (dn k)) (aH (me b 0) none (some (.int k (a.tmod b)))) none:=rfl
 rw[this,h0,show Nat.beq (dn k) (dn k)=true from iX _];rfl) G
theorem L0{x:aG}{k:IntKind}{a:Int}(A:x.vv VE=some (.d (.i k a)))(G:Q (.d (.i k (k.wrap (0-a)))) B):VI T (.un .neg x) VE B [] Q:=fun _ _ _ _ _ z=>
 ML (z.wm A) (v:=.int k (lV k (0-a))) rfl (e7 z (v:=.d (.i k (k.wrap (0-a)))) (by simp only[aN,cO,mW]) G)
theorem wrap_i64{a:Int}(z: -9223372036854775808≤a)(h2:a≤9223372036854775807):IntKind.i64.wrap a=a:=wrap64 z h2
theorem gj{x y:aG}{a b:Int}(z:x.vv VE=some (.d (.i .i64 a)))(A:y.vv VE=some (.d (.i .i64 b)))(G: -9223372036854775808≤a-b)(h2:a-b≤9223372036854775807)(I:Q (.d (.i .i64 (a-b))) B):VI T (.bin .sub x y) VE B [] Q:=
 GB z A (by rw[wrap_i64 G h2];exact I)
theorem jM{x y:aG}{a b:Int}(z:x.vv VE=some (.d (.i .i64 a)))(A:y.vv VE=some (.d (.i .i64 b)))(G: -9223372036854775808≤a+b)(h2:a+b≤9223372036854775807)(I:Q (.d (.i .i64 (a+b))) B):VI T (.bin .add x y) VE B [] Q:=
 Cm z A (by rw[wrap_i64 G h2];exact I)
theorem T9{x:aG}{off n:Nat}{l:List VV}(A:x.vv VE=some (.agg l))(G:Nat.ble (off+n) l.length=true)(I:Q (.agg ((l.drop off).take n)) B):VI T (.sub x off n true) VE B [] Q:=fun _ _ _ _ _ z=>by
 obtain⟨_,J,h2⟩:=z.b9 A
 simp only[aN] at h2
 obtain⟨cs,rfl,h2⟩:=h2
 refine gf (v:=.agg ((cs.drop off).take n)) (fun call=>?_) (e7 z (v:=.agg ((l.drop off).take n)) (by simp only[aN];exact⟨_,rfl,(h2.drop off).take n⟩) I)
 show bB x _ (.err 10) (fun v=>oZ v (.err 10) fun cs=>aH (Nat.ble (Nat.add off n) (jf cs)) (iG true ((cs.drop off).take n) (.err 10) fun v=>.ok v _) (.err 10))=_
 rw[dp,J,dh]
 show aH (Nat.ble (Nat.add off n) (jf cs)) (iG true ((cs.drop off).take n) (aE.err 10) fun v=>aE.ok v _) (aE.err 10)=_
 rw[ou,h2.length,show Nat.ble (Nat.add off n) l.length=true from G];rfl
theorem Cn{x:aG}{off:Nat}{l:List VV}{v:VV}(G:x.vv VE=some (.agg l))(I:l[off]?=some v)(J:Q v B):VI T (.sub x off 1 false) VE B [] Q:=fun _ _ _ _ _ z=>by
 obtain⟨_,K,h2⟩:=z.b9 G
 simp only[aN] at h2
 obtain⟨cs,rfl,h2⟩:=h2
 obtain⟨a,O,U⟩:=h2.get I
 obtain⟨A,Y⟩:=List.getElem?_eq_some_iff.1 O
 refine gf (v:=a) (fun call=>?_) (e7 z U J)
 show bB x _ (.err 10) (fun v=>oZ v (.err 10) fun cs=>aH (Nat.ble (Nat.add off 1) (jf cs)) (iG false ((cs.drop off).take 1) (.err 10) fun v=>.ok v _) (.err 10))=_
 rw[dp,K,dh]
 show aH (Nat.ble (Nat.add off 1) (jf cs)) (iG false ((cs.drop off).take 1) (aE.err 10) fun v=>aE.ok v _) (aE.err 10)=_
 rw[ou,show Nat.ble (Nat.add off 1) cs.length=true from jz A,f9,AA A,xD,HM,Y]
 rfl
theorem T'{f:Nat}{l:List aG}{eG:List VV}(A:iU VE l=some eG)(G:Q (.fn f eG) B):VI T (.nS f [] l) VE B [] Q:=fun _ _ _ _ _ z=>by
 obtain⟨vs,I,h2⟩:=vk z A
 refine gf (v:=.func f [] vs) (fun call=>?_) (e7 z (v:=.fn f eG) (by simp only[aN];exact⟨vs,rfl,h2⟩) G)
 show ob (jF _ l) (aE.err 20) (fun vs=>aE.ok (.func f [] vs) _)=_
 rw[I,dh]
theorem pr{x:aG}{b o:Nat}(G:x.vv VE=some (.vp b o))(I:Q (.vp b o) B):VI T (.oV x) VE B [] Q:=fun _ _ _ _ _ z=>by
 obtain⟨a,J,h2⟩:=z.b9 G
 have A:=h2
 simp only[aN] at A
 refine gf (v:=a) (fun call=>?_) (e7 z h2 I)
 show bB x _ (.err 19) (fun v=>aH (w7 v) (.ok v _) (.err 19))=_
 rw[dp,J,dh,A];rfl
theorem R'{x:aG}{row:List DC}{o:Nat}(G:x.vv VE=some (.rp row o))(I:Q (.rp row o) B):VI T (.oV x) VE B [] Q:=fun _ _ _ _ _ A=>by
 obtain⟨a,J,h2⟩:=A.b9 G
 have z:=h2
 simp only[aN] at z
 obtain⟨f,g,q,l,z,_⟩:=z
 refine gf (v:=a) (fun call=>?_) (e7 A h2 I)
 show bB x _ (.err 19) (fun v=>aH (w7 v) (.ok v _) (.err 19))=_
 rw[dp,J,dh,z];rfl
theorem Sa{x:aG}{b g q o es:Nat}(G:x.vv VE=some (.bp b g q o es))(I:Q (.bp b g q o es) B):VI T (.oV x) VE B [] Q:=fun _ _ _ _ _ z=>by
 obtain⟨a,J,h2⟩:=z.b9 G
 have A:=h2
 simp only[aN] at A
 refine gf (v:=a) (fun call=>?_) (e7 z h2 I)
 show bB x _ (.err 19) (fun v=>aH (w7 v) (.ok v _) (.err 19))=_
 rw[dp,J,dh,A];rfl
theorem Sb{x:aG}{f:Nat}{c:List VV}(G:x.vv VE=some (.fn f c))(I:Q (.fn f c) B):VI T (.oV x) VE B [] Q:=fun _ _ _ _ _ A=>by
 obtain⟨a,J,h2⟩:=A.b9 G
 have z:=h2
 simp only[aN] at z
 obtain⟨cs,z,_⟩:=z
 refine gf (v:=a) (fun call=>?_) (e7 A h2 I)
 show bB x _ (.err 19) (fun v=>aH (w7 v) (.ok v _) (.err 19))=_
 rw[dp,J,dh,z];rfl
theorem Ua{t:Nat}{x:aG}{v:VV}(A:x.vv VE=some v)(G:Q .jq B):VI T (.uM t x) VE B [] Q:=fun _ _ _ _ _ z=>by
 obtain⟨a,I,_⟩:=z.b9 A
 refine gf (v:=.iface t a) (fun call=>?_) (e7 z (v:=.jq) (by simp only[aN];exact⟨_,_,rfl⟩) G)
 show bB x _ (.err 21) (fun v=>.ok (.iface t v) _)=_
 rw[dp,I,dh]
def Hy:VV→Option Bool
 |.k .gO=>some true
 |.jq=>some false
 |_=>none
theorem S3{neg:Bool}{x y:aG}{v:VV}{t:Bool}(I:x.vv VE=some v)(J:y.vv VE=some (.k .gO))(z:Hy v=some t)(K:Q (.d (.b (Bool.xor neg t))) B):VI T (.eqv .iface neg x y) VE B [] Q:=fun _ _ _ _ _ A=>by
 obtain⟨a,O,h2⟩:=A.b9 I
 obtain⟨c,U,G⟩:=A.b9 J
 simp only[aN] at G
 subst G
 have he:nr .iface a .gO=some t:=by
  cases v with
  |jq=>simp only[aN] at h2;obtain⟨_,_,rfl⟩:=h2;cases z;rfl
  |k x=>
   simp only[aN] at h2
   subst h2
   cases a<;>simp only[Hy,reduceCtorEq,gJ] at z
   subst z;rfl
  |_=>cases z
 exact TN O U he (e7 A (v:=.d (.b (Bool.xor neg t))) (by simp only[aN,cO]) K)
end
@[reducible] def dI(x:Int):VV:=.d (.i .i64 x)
@[reducible] def dS(x:List UInt8):VV:=.d (cJ x)
@[reducible] def dB(x:Bool):VV:=.d (.b x)
@[reducible] def dN:VV:=.d .nil
@[reducible] def d0:VV:=.d (.i .i64 0)
@[reducible] def i0:DC:=.i .i64 0
end Go.Ev
