/- Part 17 of rules for walks through the code of a program, and of such walks; what each part proves is said by its theorems. -/
import Derived.Test.YtdaamclhcpjdpaaGreatDoorT16
import Derived.WideShapes
import Derived.RowKit
import Derived.OpenShut
import Derived.ChangeOld
import Derived.ChangeStays
set_option linter.unusedVariables false
set_option linter.unusedSimpArgs false
noncomputable section
set_option maxRecDepth 100000
set_option maxHeartbeats 4000000
namespace Go.Ev
open Go
section
variable{H:Type}{enc:TypeId×Value→H}{P:Program}{w:World}{base:Nat}{held:Bool}
theorem PF{ok:TypeId→Bool}{n:Nat}{cs:List Value}(G:∀t z x,(∀v,v∈z→v∈cs)→ok t=true→DataW.trod enc P w base (fun _=>true) held n t z=some x→Reads P w (fx x.1) z):
  ∀(fs:List Field)(off:Nat)(A:List (DataW H×List MemPlace)),uH P ok fs off cs.length=true→A.length=fs.length→
   (∀(i:Nat)(f:Field),fs[i]?=some f→DataW.trod enc P w base (fun _=>true) held n f.type ((cs.drop f.offset).take (P.cellsOf f.type))=A[i]?)→Reads P w (xY (A.map (·.1))) (cs.drop off)
 |[],off,A,h,L,_=>by
  obtain rfl:A=[]:=o0 L;have:off=cs.length:=cD h;rw[this,List.drop_length];simp only[BH,xY];exact reads_nil
 |f::r,off,A,h,L,O=>by
  cases A with
  |nil=>simp at L
  |cons x0 Y=>
   simp only[uH,cU] at h;obtain⟨⟨M,h2⟩,Z⟩:=h;have M:f.offset=off:=cD M;have I:=O 0 f rfl;rw[M] at I;have k1:=G _ _ x0 (fun v hv=>En (Eo hv)) h2 (by simpa using I);have k2:=PF G r (off+P.cellsOf f.type) Y Z (by simpa using L) fun i g hg=>by simpa using O (i+1) g (by simpa using hg)
   have U:=reads_append k1 k2;rw[←NP,IJ] at U;simpa only[jz,xY] using U
theorem reads_ty:∀(m:Nat)(fuel:Nat)(t:TypeId)(cs:List Value)(x:DataW H×List MemPlace),((∃a len cap,Value.slice (some a) len cap∈cs)→0<w.heap.size)→eJ P m t=true→DataW.trod enc P w base (fun _=>true) held fuel t cs=some x→Reads P w (fx x.1) cs:=by
 intro m
 induction m with
 |zero=>intro fuel t cs x _ h;simp[eJ] at h
 |succ m ih=>
  intro fuel t cs x Z h z;unfold eJ at h
  split at h
  ·rename_i G;obtain⟨b,rfl,rfl⟩:=DataW.trod_bool G z;simp only[fx];exact KI (.bool b) (fun ρ=>by simp only[VR]) rfl (fun _ _=>by simp only[bK])
  ·rename_i k G;obtain⟨n,rfl,rfl,_⟩:=DataW.trod_int G z;simp only[fx];exact KI (.int k n) (fun ρ=>by simp only[VR]) rfl (fun _ _=>by simp only[bK])
  ·rename_i G;obtain⟨s,rfl,rfl,_⟩:=DataW.trod_string G z;simp only[fx];exact KI (.str s.data.toList.length (pack s.data.toList)) (fun ρ=>by simp only[VR];exact⟨s,rfl,o6,rfl⟩) rfl (fun _ _=>by simp only[bK])
  ·rename_i e G;simp only[cU] at h;obtain⟨⟨_,M⟩,h2⟩:=h;have M:0<P.cellsOf e:=aV M;rcases DataW.trod_slice G z with⟨rfl,rfl⟩|⟨a,len,cap,elems,rest,n,rfl,rfl,rfl,_,O,_,U,k5,k6,_⟩
   ·simp only[fx];exact KI .fL (fun ρ=>by simp only[VR]) rfl (fun _ _=>by simp only[bK])
   simp only[fx,Kz,TN];obtain⟨k6,k7⟩:=k6 rfl;have Y:∀i,i<len→∃cs x,w.cells? base (a.add (i*P.cellsOf e)) (P.cellsOf e)=some cs∧elems[i]?=some x∧DataW.trod enc P w base (fun _=>true) held n e cs=some x:=fun i hi=>by
    have h:=k5 i hi;have z:elems[i]?=some elems[i]:=dm aq;rw[z] at h;obtain⟨cs,L,c2⟩:=Option.bind_eq_some_iff.1 h;exact⟨cs,_,L,z,c2⟩
   refine reads_slice (base:=base) (es:=P.cellsOf e) _ ((List.range len).map fun i=>((w.cells? base (a.add (i*P.cellsOf e)) (P.cellsOf e)).getD [])) (Z ⟨a,len,cap,iI ..⟩) M O (by simp[U]) (by simp) (fun i cs hi=>?_) (fun j hj=>?_) (fun i row cs hr hc=>?_)
   ·have I:i<len:=by have:=(List.getElem?_eq_some_iff.1 hi).1;simpa using this
    obtain⟨A,_,L,_⟩:=Y i I;rw[yA,TO I,rK,L] at hi;rw[L];simpa using hi
   ·have h:=k7 j hj;have z:rest[j]?=some rest[j]:=dm aq;rw[z] at h;obtain⟨cs,L,_⟩:=Option.bind_eq_some_iff.1 h;exact⟨cs,L⟩
   have I:i<len:=by have:=(List.getElem?_eq_some_iff.1 hc).1;simpa using this
   obtain⟨A,x,L,c2,c3⟩:=Y i I;rw[yA,TO I,rK,L] at hc;rw[yA,c2] at hr;simp only[rK,TH,eA,afK] at hc hr;subst hc;subst hr;exact ih n e A x (fun _=>Z ⟨a,len,cap,iI ..⟩) h2 c3
  ·rename_i fs G;obtain⟨xs,n,rfl,rfl,O,k3,U⟩:=DataW.trod_struct G z;simp only[fx];have:=PF (cs:=cs) (fun t A x hs hk z=>ih n t A x (fun⟨a,l,c,h⟩=>Z ⟨a,l,c,hs _ h⟩) hk z) fs.toList 0 xs (by rw[O];exact h) (by simpa using k3) (fun i f hf=>U i f (by simpa using hf));simpa using this
  ·rename_i k e G;simp only[cU] at h;obtain⟨xs,n,rfl,rfl,O,k3,U⟩:=DataW.trod_array G z;simp only[fx];have:=PF (cs:=cs) (fun t A x hs hk z=>ih n t A x (fun⟨a,l,c,h⟩=>Z ⟨a,l,c,hs _ h⟩) hk z) (vP P k e) 0 xs (by rw[O];exact h.2) (by rw[k3];unfold vP;rw[n6,MF]) (fun i f hf=>by obtain⟨hi,M,h2⟩:=aaB hf;rw[M,h2];exact U i hi);simpa using this
  cases h
def od(P:Program)(t:TypeId)(D:List DC):VV:=
 match P.underlying t with
 |some (.struct _)=>.agg (D.map .d)
 |some (.array _ _)=>.agg (D.map .d)
 |_=>match D with
  |[x]=>.d x
  |_=>.undef
def H5(P:Program):List TypeId→List (DataW H)→List VV
 |t::z,d::A=>od P t (fx d)::H5 P z A
 |_,_=>[]
theorem mem_of_ok{r:Reach}{I:Nat}{t:TypeId}{v:Value}(z:Value.okWide P w r I t v)(h:∃a len cap,Value.slice (some a) len cap∈v.cells.toList):0<w.heap.size:=by
 obtain⟨a,len,cap,h⟩:=h;have key:∀u,Cell.okWide P w r I u (.slice (some a) len cap)→0<w.heap.size:=fun u A=>by
  unfold Cell.okWide at A
  split at A<;>try(rename_i e;cases e;done)
  unfold Cell.ok at A
  split at A<;>try(first|(cases A;done)|(rename_i e;cases e;done))
  rename_i e
  cases e
  obtain⟨_,_,_,_,row,cells,L,_⟩:=A;unfold World.shape? at L
  cases M:w.heap[a.block]?with
  |none=>rw[M] at L;cases L
  |some o=>have:=(Array.getElem?_eq_some_iff.1 M).1;omega
 have one:Cell.okWide P w r I t v→v.cells=#[v]→0<w.heap.size:=fun G O=>by
  rw[O] at h;rcases List.mem_singleton.1 h with e
  exact key t (by rw[e];exact G)
 unfold Value.okWide at z
 split at z
 ·obtain⟨cs,rfl,_,U,_,_,G⟩:=z;obtain⟨i,hi,e⟩:=List.mem_iff_getElem.1 h;obtain⟨u,_,A⟩:=G i (.slice (some a) len cap) (by rw[←NO];exact List.getElem?_eq_some_iff.2 ⟨hi,e⟩);exact key u A
 ·obtain⟨cs,rfl,_,U,_,_,G⟩:=z;obtain⟨i,hi,e⟩:=List.mem_iff_getElem.1 h;obtain⟨u,_,A⟩:=G i (.slice (some a) len cap) (by rw[←NO];exact List.getElem?_eq_some_iff.2 ⟨hi,e⟩);exact key u A
 refine one z ?_
 cases v with
 |agg cs=>
  exfalso;unfold Cell.okWide at z
  split at z<;>try(rename_i e;cases e;done)
  unfold Cell.ok at z
  split at z<;>try(first|(cases z;done)|(rename_i e;cases e;done))
 |_=>rfl
theorem reads_arg{m fuel:Nat}{t:TypeId}{v:Value}{x:DataW H×List MemPlace}{w1:World}{r:Reach}{b1:Nat}(h:eJ P m t=true)(hz:(∃a len cap,Value.slice (some a) len cap∈v.cells.toList)→0<w.heap.size)(A:Value.okWide P w1 r b1 t v)(I:DataW.trod enc P w base (fun _=>true) held fuel t v.cells.toList=some x){n:Nat}{ρ:Ho}{t0:HT}(hs:RS P w n ρ t0):
  ∃n' ρ' t' a,gf n ρ t0 n' ρ' t'∧RS P w n' ρ' t'∧VR ρ' a v∧aG (iv n' t') iO (fun _=>0) (od P t (fx x.1)) a:=by
 obtain⟨n',ρ',t',l,M,h2,G⟩:=reads_ty m fuel t _ x hz h I n ρ t0 hs;have one:v.cells=#[v]→(∃d,fx x.1=[d])→(∀d,od P t [d]= .d d)→∃n' ρ' t' a,gf n ρ t0 n' ρ' t'∧RS P w n' ρ' t'∧VR ρ' a v∧aG (iv n' t') iO (fun _=>0) (od P t (fx x.1)) a:=by
  rintro L⟨d,Z⟩O;have U:=G.vr;have Y:=G.rep;rw[L] at U;rw[Z] at Y;simp only[bZ] at Y;obtain⟨a,s,rfl,k1,rfl⟩:=Y;simp only[bQ] at U;obtain⟨v',s',e,k2,rfl⟩:=U;simp only[vg,and_true] at e;subst e;refine⟨n',ρ',t',a,M,h2,k2,?_⟩;have:od P t (fx x.1)= .d d:=by rw[Z];exact O d
  rw[this];simp only[aG];exact k1
 cases m with
 |zero=>simp[eJ] at h
 |succ m=>
  unfold eJ at h
  split at h
  ·rename_i z;obtain⟨b,L,rfl⟩:=DataW.trod_bool z I;obtain⟨b',rfl⟩:=WideShapes.okWide_bool z A;exact one rfl ⟨_,by simp only[fx];rfl⟩ fun d=>by unfold od;rw[z]
  ·rename_i k z;obtain⟨n,L,rfl,_⟩:=DataW.trod_int z I;obtain⟨n,rfl⟩:=WideShapes.okWide_int z A;exact one rfl ⟨_,by simp only[fx];rfl⟩ fun d=>by unfold od;rw[z]
  ·rename_i z;obtain⟨s,L,rfl,_⟩:=DataW.trod_string z I;obtain⟨s,rfl⟩:=WideShapes.okWide_string z A;exact one rfl ⟨_,by simp only[fx];rfl⟩ fun d=>by unfold od;rw[z]
  ·rename_i e z;obtain⟨a,len,cap,rfl⟩:=WideShapes.okWide_slice z A;rcases DataW.trod_slice z I with⟨_,rfl⟩|⟨_,_,_,_,_,_,_,_,rfl,_⟩
   ·exact one rfl ⟨_,by simp only[fx];rfl⟩ fun d=>by unfold od;rw[z]
   exact one rfl ⟨_,by simp only[fx];rfl⟩ fun d=>by unfold od;rw[z]
  ·rename_i fs z;unfold Value.okWide at A;rw[z] at A;obtain⟨cs,rfl,_,_⟩:=A;refine⟨n',ρ',t',.agg l,M,h2,?_,?_⟩
   ·simp only[VR];exact⟨cs,rfl,G.vr,G.ok⟩
   have:od P t (fx x.1)= .agg ((fx x.1).map .d):=by unfold od;rw[z]
   rw[this];simp only[aG];exact⟨l,rfl,aY.sI G.rep⟩
  ·rename_i k e z;unfold Value.okWide at A;rw[z] at A;obtain⟨cs,rfl,_,_⟩:=A;refine⟨n',ρ',t',.agg l,M,h2,?_,?_⟩
   ·simp only[VR];exact⟨cs,rfl,G.vr,G.ok⟩
   have:od P t (fx x.1)= .agg ((fx x.1).map .d):=by unfold od;rw[z]
   rw[this];simp only[aG];exact⟨l,rfl,aY.sI G.rep⟩
  cases h
theorem Zh{m:Nat}{r:Reach}{Z:Nat}:∀(A:List TypeId)(vs:List Value)(z:List (DataW H))(ps:List MemPlace),DataW.TrodAll enc P w base (fun _=>true) held A vs z ps→(A.all (eJ P m))=true→(∀(j:Nat)t v,A[j]?=some t→vs[j]?=some v→Value.okWide P w r Z t v)→
  ∀(n:Nat)(ρ:Ho)(t0:HT),RS P w n ρ t0→∃n' ρ' t' G,gf n ρ t0 n' ρ' t'∧RS P w n' ρ' t'∧bQ ρ' G vs∧aY (iv n' t') iO (fun _=>0) (H5 P A z) G
 |[],vs,z,ps,h,_,_,n,ρ,t0,I=>by
  cases vs with
  |cons=>cases z<;>simp[DataW.TrodAll] at h
  |nil=>cases z with
   |cons=>simp[DataW.TrodAll] at h
   |nil=>exact⟨n,ρ,t0,[],gf.refl ..,I,by simp only[bQ],by simp only[H5,aY]⟩
 |t::A,vs,z,ps,h,L,M,n,ρ,t0,I=>by
  cases vs with
  |nil=>cases z<;>simp[DataW.TrodAll] at h
  |cons v vs=>cases z with
   |nil=>simp[DataW.TrodAll] at h
   |cons d z=>
    simp only[DataW.TrodAll] at h;obtain⟨p,q,⟨fuel,hx⟩,h2,rfl⟩:=h;simp only[IN,cU] at L;obtain⟨n1,O,t1,a,k1,k2,k3,k4⟩:=reads_arg L.1 (mem_of_ok (M 0 t v rfl rfl)) (M 0 t v rfl rfl) hx I;obtain⟨n2,U,t2,G,Y,j2,j3,j4⟩:=Zh A vs z q h2 L.2 (fun j t v h3 h4=>M (j+1) t v (by simpa using h3) (by simpa using h4)) n1 O t1 k2;refine⟨n2,U,t2,a::G,k1.trans Y,j2,?_,?_⟩
    ·simp only[bQ];exact⟨v,vs,rfl,k3.mono Y.ho,j3⟩
    simp only[H5,aY];exact⟨a,G,rfl,k4.lift Y.lift,j4⟩
theorem RS.start{n:Nat}(A:P.globals.size≤n)(z:xV P w):RS P w n (Ev.base P) .emp:=
 ⟨⟨(fun f o h=>by rw[show GT.emp.get f=none from GT.sL f] at h;cases h),(Dp z).my,(Dp z).gE,(Dp z).uniq,(Dp z).db⟩,(fun f g h e=>by obtain⟨_,_,rfl⟩:=pO e;rfl),(fun f g h e=>by obtain⟨k,_,_⟩:=pO e;omega),
  fun f _=>GT.sL f,PV⟩
theorem cQ.T8{ρ:Ho}{C:Nat→Option cV}{A L:ay}{v:ak}{w':World}{cv:Value}(G:∀f g h,ρ f g=some h→h.ro=true)(h:cQ ρ C w A v L cv w'):Kept w w':=by
 obtain⟨ρ',_,z,_⟩:=h;exact⟨z.os,z.tape,z.output,z.size,fun b M=>z.frame b M fun f g x O I _=>by rw[G f g x O] at I;cases I⟩
theorem evFn_keptR{call:dG}{f n lf:Nat}{ρ:Ho}{t:HT}{g:Func}{fn:aR}{args:List ak}{dV:Array Value}{v:ak}{O:ay}(U:je P call)(z:P.follows .mixedOrders=true)(Y:P.funcs[f]?=some g)(Z:yV P g=some fn)(A:RS P w n ρ t)
  (h:vK call lf fn args (iv n t)= .ok v O) (hv:bQ ρ args dV.toList):Calls P f dV w fun e w'=>∃cv ρ',e= .returned cv∧VR ρ' v cv∧Kept w w':=
 Calls.mono (Y' U z Y Z h (gX _) (fun x hx=>A.wf x hx) A.r (fun f o _ h=>h) (fun f g' L _=>by
  cases G:ρ f g' with
  |none=>rfl
  |some x=>have:=A.gp f g' x G;have L:n≤f:=L;omega) A.qz hv) fun e w'⟨cv,G,M⟩=>by
  have hk:=M.T8 A.ro;obtain⟨ρ',I,_,_⟩:=M;exact⟨cv,ρ',G,I,hk⟩
end
theorem sound_true{T:aO}{f:Nat}(A:T.ft.get f=none)(h2:T.xt.get f=some 2):Sound T f [] fun r=>r= .d (.b true):=by
 intro H0 X H β l G z;simp only[aY] at z;subst z;refine⟨1,.bool true,H,fun lf n _ h=>?_,.d (.b true),[],β,.refl,G,by simp only[aG,bK],by simp only[VV.nb],rfl⟩;obtain⟨n,rfl⟩:∃n',n=n'+1:=⟨n-1,aq⟩;show ob (T.ft.get f) (ob (T.xt.get f) (ob (T.zt.get f) (.err (Nat.add 10000 f)) fun F=>F [] H) fun c=>tR c [] H) _=_;rw[A,h2];rfl
section
variable{H:Type}{enc:TypeId×Value→H}{P:Program}{w w':World}{base:Nat}{sp:Nat→Bool}{held:Bool}
theorem Kept.sameAt(z:Kept w w'){p:MemPlace}(A:p.block<w.heap.size):w.sameAt w' p:=by
 cases p with
 |cell b off=>exact cell_of_heap (a:=⟨b,off,none⟩) (z.uk b A)
 |map b=>exact z.uk b A
theorem law_runs{T:aO}{f m:Nat}{g:Func}{fn:aR}{A:List TypeId}{args:Array Value}{I:List (DataW H)}{ps:List MemPlace}{r:Reach}{b1:Nat}
  (hT:Gi P T.ft) (L:MM P T.xt) (hz:QV P T.zt) (z:P.follows .mixedOrders=true) (hf:P.funcs[f]?=some g) (hg:yV P g=some fn) (M:T.ft.get f=some fn)
  (O:xV P w) (hA:DataW.TrodAll enc P w base (fun _=>true) held A args.toList I ps) (U:A.all (eJ P m)=true)
  (Y:∀(j:Nat)t v,A[j]?=some t→args.toList[j]?=some v→Value.okWide P w r b1 t v) (hs:Sound T f (H5 P A I) fun r=>r= .d (.b true)):
  Calls P f args w fun e w'=>e= .returned (.bool true)∧Kept w w':=by
 obtain⟨n,ρ,t,G,_,h2,h3,h4⟩:=Zh A args.toList I ps hA U Y _ _ _ (RS.start (P:=P) (w:=w) (bt _) O);have Z:fc (iv n t) iO (iv n t) (XB iO [] fun _=>0):=⟨bt _,fun f _ L=>⟨fun k=>L (R2 f k),rfl⟩⟩;obtain⟨N,v,H',k1,rv,_,_,_,_,k3,_,rfl⟩:=hs (fun _=>0) iO (iv n t) (fun _=>0) G (Rel.start (gX _) (fun _ h=>h.elim)) (aY.lift Z h4);simp only[aG,bK] at k3;subst k3;have k4:=k1 N (N+1) (bt _) (BE _);have k5:ob (T.ft.get f) (ob (T.xt.get f) (ob (T.zt.get f) (.err (Nat.add 10000 f)) fun F=>F G (iv n t)) fun c=>tR c G (iv n t)) (fun fn=>vK (T.call N N) N fn G (iv n t))= .ok (.bool true) H':=k4;rw[M,cS] at k5;refine Calls.mono (evFn_keptR (LS z hT L hz N) z hf hg h2 k5 h3) fun e w'⟨cv,ρ',he,hv,hk⟩=>?_
 simp only[VR] at hv;subst hv;exact⟨he,hk⟩
end
inductive j' where
 |i (k:IntKind)
 |b
 |s
 |sl (row:List j')
mutual
def j'.fits:j'→DC→Prop
 |.i k,d=>∃n,d= .i k n∧(Lit.int k n).wf=true
 |.b,d=>∃b,d= .b b
 |.s,d=>∃bs:List UInt8,d= .s bs.length (pack bs)∧bs.length≤maxLen
 |.sl row,d=>d= .nil∨∃rows,d= .sl rows∧rows.length≤maxLen∧∀r,r∈rows→ju row r
def ju:List j'→List DC→Prop
 |[],l=>l=[]
 |p::ps,l=>∃d r,l=d::r∧p.fits d∧ju ps r
end
mutual
def xr(P:Program):Nat→TypeId→List j'
 |0,_=>[]
 |n+1,t=>match P.underlying t with
  |some .bool=>[.b]
  |some (.int k)=>[.i k]
  |some .string=>[.s]
  |some (.slice e)=>[.sl (xr P n e)]
  |some (.struct fs)=>fs.toList.flatMap fun f=>xr P n f.type
  |some (.array k e)=>(vP P k e).flatMap fun f=>xr P n f.type
  |_=>[]
end
theorem Yt:∀{ps z:List j'}{l m:List DC},ju ps l→ju z m→ju (ps++z) (l++m)
 |[],z,l,m,h,k=>by simp only[ju] at h;subst h;exact k
 |p::ps,z,l,m,h,k=>by
  simp only[ju] at h;obtain⟨d,r,rfl,A,h2⟩:=h;simp only[El,ju];exact⟨d,_,rfl,A,Yt h2 k⟩
section
variable{H:Type}{enc:TypeId×Value→H}{P:Program}{w:World}{base:Nat}{held:Bool}
theorem PH{m n:Nat}{cs:List Value}(A:∀t cs x,eJ P m t=true→DataW.trod enc P w base (fun _=>true) held n t cs=some x→ju (xr P m t) (fx x.1)):
  ∀(fs:List Field)(off:Nat)(z:List (DataW H×List MemPlace)),uH P (eJ P m) fs off cs.length=true→z.length=fs.length→
   (∀(i:Nat)(f:Field),fs[i]?=some f→DataW.trod enc P w base (fun _=>true) held n f.type ((cs.drop f.offset).take (P.cellsOf f.type))=z[i]?)→ju (fs.flatMap fun f=>xr P m f.type) (xY (z.map (·.1)))
 |[],off,z,h,G,_=>by
  obtain rfl:z=[]:=o0 G;simp only[BH,xY,List.flatMap_nil,ju]
 |f::r,off,z,h,G,L=>by
  cases z with
  |nil=>simp at G
  |cons x0 M=>
   simp only[uH,cU] at h;obtain⟨⟨h1,h2⟩,O⟩:=h;have I:=L 0 f rfl;have U:=A _ _ x0 h2 (by simpa using I);have Y:=PH A r (off+P.cellsOf f.type) M O (by simpa using G) fun i g Z=>by simpa using L (i+1) g (by simpa using Z)
   simpa only[jz,xY,List.flatMap_cons] using Yt U Y
theorem fits_ty:∀(m:Nat)(fuel:Nat)(t:TypeId)(cs:List Value)(x:DataW H×List MemPlace),eJ P m t=true→DataW.trod enc P w base (fun _=>true) held fuel t cs=some x→ju (xr P m t) (fx x.1):=by
 intro m
 induction m with
 |zero=>intro fuel t cs x h;simp[eJ] at h
 |succ m M=>
  intro fuel t cs x h A;unfold eJ at h;unfold xr
  split at h
  ·rename_i z;obtain⟨b,rfl,rfl⟩:=DataW.trod_bool z A
   try rw[z]
   simp only[fx,ju,j'.fits];exact⟨_,_,rfl,⟨b,rfl⟩,rfl⟩
  ·rename_i k z;obtain⟨n,rfl,rfl,hw⟩:=DataW.trod_int z A
   try rw[z]
   simp only[fx,ju,j'.fits];exact⟨_,_,rfl,⟨n,rfl,hw⟩,rfl⟩
  ·rename_i z;obtain⟨s,rfl,rfl,hl⟩:=DataW.trod_string z A
   try rw[z]
   simp only[fx,ju,j'.fits];exact⟨_,_,rfl,⟨_,rfl,by rw[o6];exact hl⟩,rfl⟩
  ·rename_i e z;simp only[cU] at h;obtain⟨⟨_,h1⟩,h2⟩:=h
   try rw[z]
   rcases DataW.trod_slice z A with⟨rfl,rfl⟩|⟨a,len,cap,elems,rest,n,rfl,rfl,rfl,_,I,L,G,k5,_,_⟩
   ·simp only[fx,ju,j'.fits];exact⟨_,_,rfl,.inl rfl,rfl⟩
   simp only[fx,ju,j'.fits];refine⟨_,_,rfl,.inr ⟨_,rfl,by rw[Kz];simp only[n6];omega,fun r hr=>?_⟩,rfl⟩;rw[Kz,TN] at hr;obtain⟨x,A,rfl⟩:=List.mem_map.1 hr;obtain⟨i,hi⟩:=Vp A;have O:i<len:=by rw[←G];exact(List.getElem?_eq_some_iff.1 hi).1
   have h:=k5 i O;rw[hi] at h;obtain⟨cs,c1,c2⟩:=Option.bind_eq_some_iff.1 h;exact M n e cs x h2 c2
  ·rename_i fs z;obtain⟨U,n,rfl,rfl,I,L,G⟩:=DataW.trod_struct z A
   try rw[z]
   simp only[fx];exact PH (cs:=cs) (fun t cs x Y A=>M n t cs x Y A) fs.toList 0 U (by rw[I];exact h) (by simpa using L) (fun i f Z=>G i f (by simpa using Z))
  ·rename_i k e z;simp only[cU] at h;obtain⟨U,n,rfl,rfl,I,L,G⟩:=DataW.trod_array z A
   try rw[z]
   simp only[fx];exact PH (cs:=cs) (fun t cs x Y A=>M n t cs x Y A) (vP P k e) 0 U (by rw[I];exact h.2) (by rw[L];unfold vP;rw[n6,MF]) (fun i f Z=>by obtain⟨hi,h1,h2⟩:=aaB Z;rw[h1,h2];exact G i hi)
  cases h
theorem fits_args{m:Nat}:∀(A:List TypeId)(vs:List Value)(z:List (DataW H))(ps:List MemPlace),DataW.TrodAll enc P w base (fun _=>true) held A vs z ps→(A.all (eJ P m))=true→
  z.length=A.length∧∀(i:Nat)(t:TypeId)(d:DataW H),A[i]?=some t→z[i]?=some d→ju (xr P m t) (fx d)
 |[],vs,z,ps,h,_=>by
  cases vs with
  |cons=>cases z<;>simp[DataW.TrodAll] at h
  |nil=>cases z with
   |cons=>simp[DataW.TrodAll] at h
   |nil=>exact⟨rfl,fun i t d h=>by simp at h⟩
 |t::A,vs,z,ps,h,G=>by
  cases vs with
  |nil=>cases z<;>simp[DataW.TrodAll] at h
  |cons v vs=>cases z with
   |nil=>simp[DataW.TrodAll] at h
   |cons d z=>
    simp only[DataW.TrodAll] at h;obtain⟨p,q,⟨fuel,L⟩,h2,rfl⟩:=h;simp only[IN,cU] at G;obtain⟨M,O⟩:=fits_args A vs z q h2 G.2;refine⟨by simp[M],fun i t' U hi I=>?_⟩
    cases i with
    |zero=>simp at hi I;subst hi;subst I;exact fits_ty m fuel t _ _ G.1 L
    |succ i=>exact O i t' U (by simpa using hi) (by simpa using I)
end
@[reducible] def t0:aI:=.t mE
@[reducible] def t1:aI:=.t ow
@[reducible] def t2:aI:=.t i3
@[reducible] def t4:aI:=.t gD
section
variable{P:Program}
theorem PI{ok:TypeId→Bool}:∀{fs:List Field}{off n:Nat},uH P ok fs off n=true→(∀f∈fs,ok f.type=true)∧n=off+(fs.map fun f=>P.cellsOf f.type).sum∧∀(j:Nat)f,fs[j]?=some f→f.offset=off+((fs.take j).map fun f=>P.cellsOf f.type).sum
 |[],off,n,h=>by
  have h:off=n:=cD h;subst h;exact⟨fun f h=>by simp at h,by simp,fun j f h=>by simp at h⟩
 |f::r,off,n,h=>by
  simp only[uH,cU] at h;obtain⟨⟨z,h2⟩,I⟩:=h;have z:f.offset=off:=cD z;obtain⟨L,M,O⟩:=PI I;refine⟨fun g A=>?_,by rw[M];simp only[jz,List.sum_cons];omega,fun j g G=>?_⟩
  ·rcases List.mem_cons.1 A with rfl|A
   ·exact h2
   exact L g A
  cases j with
  |zero=>simp at G;subst G;simpa using z
  |succ j=>
   rw[O j g (by simpa using G)];simp only[vh,jz,List.sum_cons];omega
def J4(P:Program)(t:TypeId):Prop:=∃m,eJ P m t=true
theorem J4.kids:Kids P (J4 P):=by
 refine⟨fun{t e}⟨m,h⟩z=>?_,fun{t e}⟨m,h⟩z=>?_,fun{t e n}⟨m,h⟩z=>?_,fun{t fs}⟨m,h⟩z=>?_,fun{t k e}⟨m,h⟩z=>?_⟩
 all_goals cases m with
  |zero=>simp[eJ] at h
  |succ m=>?_
 ·unfold eJ at h;rw[z] at h;simp at h
 ·unfold eJ at h;rw[z] at h;simp only[cU] at h;exact⟨m,h.2⟩
 ·unfold eJ at h;rw[z] at h;simp only[cU] at h;refine⟨⟨m,h.1⟩,?_⟩;rw[(PI h.2).2.1,fM];unfold vP;rw[TN,show((fun f:Field=>P.cellsOf f.type)∘fun i=>Field.mk default e (i*P.cellsOf e) default default default default)=fun _=>P.cellsOf e from rfl];clear h z;generalize P.cellsOf e=c
  induction n with
  |zero=>simp
  |succ n A=>rw[List.range_succ,lK,List.sum_append,A,yC];simp
 ·unfold eJ at h;rw[z] at h;obtain⟨G,I,L⟩:=PI h;exact⟨fun f M=>⟨m,G f M⟩,by rw[I,fM],fun j f O=>by rw[L j f O,fM]⟩
 unfold eJ at h;rw[z] at h;simp at h
theorem J4.pos{t e:TypeId}(h:J4 P t)(z:P.underlying t=some (.slice e)):0<P.cellsOf e:=by
 obtain⟨m,h⟩:=h
 cases m with
 |zero=>simp[eJ] at h
 |succ m=>
  unfold eJ at h;rw[z] at h;simp only[cU] at h;exact aV h.1.2
variable{H:Type}{enc:TypeId×Value→H}{w w':World}{base:Nat}{sp':Nat→Bool}
theorem Kept.rereads{m:Nat}(O:Kept w w')(G:∀b,b<w.heap.size→sp' b=true):∀{I:List TypeId}{vs:List Value}{z:List (DataW H)}{ps:List MemPlace},I.all (eJ P m)=true→DataW.TrodAll enc P w base (fun _=>true) true I vs z ps→DataW.TrodAll enc P w' base sp' true I vs z ps
 |[],vs,z,ps,_,h=>by
  cases vs with
  |cons=>cases z<;>simp[DataW.TrodAll] at h
  |nil=>cases z with
   |cons=>simp[DataW.TrodAll] at h
   |nil=>exact h
 |t::I,vs,z,ps,L,h=>by
  cases vs with
  |nil=>cases z<;>simp[DataW.TrodAll] at h
  |cons v vs=>cases z with
   |nil=>simp[DataW.TrodAll] at h
   |cons d z=>
    simp only[IN,cU] at L;simp only[DataW.TrodAll] at h⊢;obtain⟨p,q,⟨fuel,M⟩,h2,rfl⟩:=h;refine⟨p,q,⟨fuel,DataW.trod_stays J4.kids (fun h=>h.pos) (fun h=>by cases h) ⟨m,L.1⟩ M (fun x A=>O.sameAt (DataW.trod_lt _ _ _ _ M x A)) fun x A=>G _ (DataW.trod_lt _ _ _ _ M x A)⟩,O.rereads G L.2 h2,rfl⟩
end
def al(bs:List UInt8):DC:=.s bs.length (pack bs)
section
variable{T:aO}{H0:Nat→Nat}{X0:Nat→Prop}{VE bH:bq}{B B':aU}{E:Env}{H H':ay}{β:Nat→Nat}{X:Nat→Prop}
variable{W:List Nat}{Q:VV→aU→Prop}
theorem Rel.strA(z:Rel H0 X0 VE B E H β){x:aI}{l v:Nat}(A:x.vv VE=some (.d (.s l v))):x.ev E=some (.str l v):=by
 obtain⟨_,G,h2⟩:=z.bG A;simp only[aG,bK] at h2;rw[G,h2]
theorem Rel.str(z:Rel H0 X0 VE B E H β){x:aI}{bs:List UInt8}(A:x.vv VE=some (.d (al bs))):x.ev E=some (.str bs.length (pack bs)):=z.strA A
theorem Rel.tV(z:Rel H0 X0 VE B E H β){x:aI}{k:IntKind}{n:Int}(A:x.vv VE=some (.d (.i k n))):x.ev E=some (.int k n):=by
 obtain⟨_,G,h2⟩:=z.bG A;simp only[aG,bK] at h2;rw[G,h2]
theorem Qe{x i:aI}{bs:List UInt8}{k:IntKind}{j:Nat}{c:UInt8}(I:x.vv VE=some (.d (al bs)))(hi:i.vv VE=some (.d (.i k (j:Int))))(L:bs[j]?=some c)(M:Q (.d (.i .u8 (c.toNat:Nat))) B):VI T (.Dj x i) VE B [] Q:=fun _ _ _ _ _ A=>by
 have O:=A.str I;have h2:=A.tV hi;obtain⟨z,U⟩:=List.getElem?_eq_some_iff.1 L;refine eU (v:=.int .u8 (.ofNat c.toNat)) (fun call=>?_) (dC A (v:=.d (.i .u8 (c.toNat:Nat))) (by simp only[aG,bK];rfl) M);show bo x _ (.err 14) (fun v=>jQ v (.err 14) fun l s=>bo i _ (.err 14) fun G=>Ev.idx G l (.err 14) fun j=>cL (AH s j) fun b=>.ok (.int .u8 (.ofNat b)) _)=_;rw[cR,O,cS];show bo i _ (.err 14) (fun G=>Ev.idx G bs.length (.err 14) fun j=>cL (AH (pack bs) j) fun b=>.ok (.int .u8 (.ofNat b)) _)=_;rw[cR,h2,cS];show aD (Nat.ble (Nat.succ j) bs.length) (cL (AH (pack bs) j) fun b=>aC.ok (.int .u8 (.ofNat b)) _) (aC.err 14)=_;rw[show Nat.ble (Nat.succ j) bs.length=true from gW z,et,fQ,YK bs j z,U]
def yX(VE:bq):Option aI→Nat→Nat→Prop
 |none,d,n=>n=d
 |some x,_,n=>∃k,x.vv VE=some (.d (.i k (n:Int)))
theorem Ld(A:Rel H0 X0 VE B E H β){x:Option aI}{d n y:Nat}(z:yX VE x d n)(G:n≤y)(I:d≤y){e:aC}{k:Nat→aC}:er E x d y e k=k n:=by
 cases x with
 |none=>simp only[yX] at z;subst z;rfl
 |some x=>
  obtain⟨L,z⟩:=z;have h2:=A.tV z;show ob (x.ev E) e (fun v=>fq v e fun _ i=>gR i e fun n=>aD (Nat.ble n y) (k n) e)=_;rw[h2,cS];show aD (Nat.ble n y) (k n) e=_;rw[gW G,et]
theorem fo{x y:aI}{a b:List UInt8}(A:x.vv VE=some (.d (al a)))(G:y.vv VE=some (.d (al b)))(I:a.length+b.length≤4611686018427387904)(L:Q (.d (al (a++b))) B):VI T (.bin .add x y) VE B [] Q:=fun _ _ _ _ _ z=>
 xj (z.str A) (z.str G) (v:=.str (a.length+b.length) (GC a.length (pack a) (pack b))) (by
  show aD (Nat.ble (Nat.add a.length b.length) 4611686018427387904) (some (ak.str (Nat.add a.length b.length) (GC a.length (pack a) (pack b)))) none=_
  rw[show Nat.ble (Nat.add a.length b.length) 4611686018427387904=true from gW I];rfl)
  (dC z (v:=.d (al (a++b))) (by simp only[aG,al,bK,fv,YL]) L)
theorem Ar{x y:aI}{a b:List UInt8}(A:x.vv VE=some (.d (al a)))(G:y.vv VE=some (.d (al b)))(I:Q (.d (.b (decide (a=b)))) B):VI T (.bin .eql x y) VE B [] Q:=fun _ _ _ _ _ z=>
 xj (z.str A) (z.str G) (v:=.bool (s7 a.length (pack a) b.length (pack b))) rfl (dC z (v:=.d (.b (decide (a=b)))) (by simp only[aG,bK,Kx]) I)
theorem nE{x y:aI}{a b:List UInt8}(A:x.vv VE=some (.d (al a)))(G:y.vv VE=some (.d (al b)))(I:Q (.d (.b (!decide (a=b)))) B):VI T (.bin .neq x y) VE B [] Q:=fun _ _ _ _ _ z=>
 xj (z.str A) (z.str G) (v:=.bool (!s7 a.length (pack a) b.length (pack b))) rfl (dC z (v:=.d (.b (!decide (a=b)))) (by simp only[aG,bK,Kx]) I)
theorem vi_lenStr{x:aI}{bs:List UInt8}(A:x.vv VE=some (.d (al bs)))(G:Q (.d (.i .i64 (bs.length:Nat))) B):VI T (.tQ x) VE B [] Q:=fun _ _ _ _ _ z=>
 aan (z.str A) (dC z (v:=.d (.i .i64 (bs.length:Nat))) (by simp only[aG,bK]) G)
theorem Du{op:BinOp}{x y:aI}{k:IntKind}{a b:Int}{r:Bool}(A:x.vv VE=some (.d (.i k a)))(G:y.vv VE=some (.d (.i k b)))(h:ga op k a k b=some (.bool r))(I:Q (.d (.b r)) B):VI T (.bin op x y) VE B [] Q:=fun _ _ _ _ _ z=>
 xj (z.tV A) (z.tV G) (v:=.bool r) h (dC z (v:=.d (.b r)) (by simp only[aG,bK]) I)
theorem R3{x y:aI}{k:IntKind}{a b:Int}(z:x.vv VE=some (.d (.i k a)))(A:y.vv VE=some (.d (.i k b)))(G:Q (.d (.b (decide (a<b)))) B):VI T (.bin .lss x y) VE B [] Q:=Du z A (by rw[←nK];cases k<;>rfl) G
theorem vi_gtK{x y:aI}{k:IntKind}{a b:Int}(z:x.vv VE=some (.d (.i k a)))(A:y.vv VE=some (.d (.i k b)))(G:Q (.d (.b (decide (b<a)))) B):VI T (.bin .gtr x y) VE B [] Q:=Du z A (by rw[←nK];cases k<;>rfl) G
theorem ZU(a b:Int):(!decide (a<b))=decide (b≤a):=by
 by_cases h:a<b
 ·simp[h,Int.not_le.2 h]
 simp[h,Int.not_lt.1 h]
theorem vi_leK{x y:aI}{k:IntKind}{a b:Int}(z:x.vv VE=some (.d (.i k a)))(A:y.vv VE=some (.d (.i k b)))(G:Q (.d (.b (decide (a≤b)))) B):VI T (.bin .leq x y) VE B [] Q:=Du z A (r:=!decide (b<a)) (by rw[←nK];cases k<;>rfl) (by rw[ZU];exact G)
theorem vi_geK{x y:aI}{k:IntKind}{a b:Int}(z:x.vv VE=some (.d (.i k a)))(A:y.vv VE=some (.d (.i k b)))(G:Q (.d (.b (decide (b≤a)))) B):VI T (.bin .geq x y) VE B [] Q:=Du z A (r:=!decide (a<b)) (by rw[←nK];cases k<;>rfl) (by rw[ZU];exact G)
theorem LV{x y:aI}{k:IntKind}{a b:Int}(z:x.vv VE=some (.d (.i k a)))(A:y.vv VE=some (.d (.i k b)))(G:Q (.d (.b (decide (a=b)))) B):VI T (.bin .eql x y) VE B [] Q:=Du z A (by rw[←rl];cases k<;>rfl) G
theorem vi_neK{x y:aI}{k:IntKind}{a b:Int}(z:x.vv VE=some (.d (.i k a)))(A:y.vv VE=some (.d (.i k b)))(G:Q (.d (.b (!decide (a=b)))) B):VI T (.bin .neq x y) VE B [] Q:=Du z A (by rw[←rl];cases k<;>rfl) G
theorem As{op:BinOp}{x y:aI}{k:IntKind}{a b r:Int}(A:x.vv VE=some (.d (.i k a)))(G:y.vv VE=some (.d (.i k b)))(h:ga op k a k b=some (.int k r))(I:Q (.d (.i k r)) B):VI T (.bin op x y) VE B [] Q:=fun _ _ _ _ _ z=>
 xj (z.tV A) (z.tV G) (v:=.int k r) h (dC z (v:=.d (.i k r)) (by simp only[aG,bK]) I)
theorem abt{x y:aI}{k:IntKind}{a b:Int}(z:x.vv VE=some (.d (.i k a)))(A:y.vv VE=some (.d (.i k b)))(G:Q (.d (.i k (k.wrap (a+b)))) B):VI T (.bin .add x y) VE B [] Q:=As z A (by rw[←nD];cases k<;>rfl) G
theorem abu{x y:aI}{k:IntKind}{a b:Int}(z:x.vv VE=some (.d (.i k a)))(A:y.vv VE=some (.d (.i k b)))(G:Q (.d (.i k (k.wrap (a-b)))) B):VI T (.bin .sub x y) VE B [] Q:=As z A (by rw[←nD];cases k<;>rfl) G
theorem vi_mulK{x y:aI}{k:IntKind}{a b:Int}(z:x.vv VE=some (.d (.i k a)))(A:y.vv VE=some (.d (.i k b)))(G:Q (.d (.i k (k.wrap (a*b)))) B):VI T (.bin .mul x y) VE B [] Q:=As z A (by rw[←nD];cases k<;>rfl) G
theorem abv{x y:aI}{k:IntKind}{a b:Int}(z:x.vv VE=some (.d (.i k a)))(A:y.vv VE=some (.d (.i k b)))(h0:kX b 0=false)(G:Q (.d (.i k (k.wrap (a.tdiv b)))) B):VI T (.bin .quo x y) VE B [] Q:=As z A (by
 have:ga .quo k a k b=aD (Nat.beq (cG k) (cG k)) (aD (kX b 0) none (some (.int k (lA k (a.tdiv b))))) none:=rfl
 rw[this,h0,←nD,show Nat.beq (cG k) (cG k)=true from ij _];rfl) G
theorem Q3{x y:aI}{k:IntKind}{a b:Int}(z:x.vv VE=some (.d (.i k a)))(A:y.vv VE=some (.d (.i k b)))(h0:kX b 0=false)(G:Q (.d (.i k (a.tmod b))) B):VI T (.bin .rem x y) VE B [] Q:=As z A (by
 have:ga .rem k a k b=aD (Nat.beq (cG k) (cG k)) (aD (kX b 0) none (some (.int k (a.tmod b)))) none:=rfl
 rw[this,h0,show Nat.beq (cG k) (cG k)=true from ij _];rfl) G
theorem wrap_i64{a:Int}(z: -9223372036854775808≤a)(h2:a≤9223372036854775807):IntKind.i64.wrap a=a:=wrap64 z h2
theorem dO{x y:aI}{a b:Int}(z:x.vv VE=some (.d (.i .i64 a)))(A:y.vv VE=some (.d (.i .i64 b)))(G: -9223372036854775808≤a-b)(h2:a-b≤9223372036854775807)(I:Q (.d (.i .i64 (a-b))) B):VI T (.bin .sub x y) VE B [] Q:=
 abu z A (by rw[wrap_i64 G h2];exact I)
theorem bB{x y:aI}{a b:Int}(z:x.vv VE=some (.d (.i .i64 a)))(A:y.vv VE=some (.d (.i .i64 b)))(G: -9223372036854775808≤a+b)(h2:a+b≤9223372036854775807)(I:Q (.d (.i .i64 (a+b))) B):VI T (.bin .add x y) VE B [] Q:=
 abt z A (by rw[wrap_i64 G h2];exact I)
theorem vi_subA{x:aI}{off n:Nat}{l:List VV}(A:x.vv VE=some (.agg l))(G:Nat.ble (off+n) l.length=true)(I:Q (.agg ((l.drop off).take n)) B):VI T (.sub x off n true) VE B [] Q:=fun _ _ _ _ _ z=>by
 obtain⟨_,L,h2⟩:=z.bG A;simp only[aG] at h2;obtain⟨cs,rfl,h2⟩:=h2;refine eU (v:=.agg ((cs.drop off).take n)) (fun call=>?_) (dC z (v:=.agg ((l.drop off).take n)) (by simp only[aG];exact⟨_,rfl,(h2.drop off).take n⟩) I);show bo x _ (.err 10) (fun v=>mh v (.err 10) fun cs=>aD (Nat.ble (Nat.add off n) (gz cs)) (fN true ((cs.drop off).take n) (.err 10) fun v=>.ok v _) (.err 10))=_;rw[cR,L,cS];show aD (Nat.ble (Nat.add off n) (gz cs)) (fN true ((cs.drop off).take n) (aC.err 10) fun v=>aC.ok v _) (aC.err 10)=_;rw[oL,h2.length,show Nat.ble (Nat.add off n) l.length=true from G];rfl
theorem vi_sub1{x:aI}{off:Nat}{l:List VV}{v:VV}(G:x.vv VE=some (.agg l))(I:l[off]?=some v)(L:Q v B):VI T (.sub x off 1 false) VE B [] Q:=fun _ _ _ _ _ z=>by
 obtain⟨_,M,h2⟩:=z.bG G;simp only[aG] at h2;obtain⟨cs,rfl,h2⟩:=h2;obtain⟨a,O,U⟩:=h2.get I;obtain⟨A,Y⟩:=List.getElem?_eq_some_iff.1 O;refine eU (v:=a) (fun call=>?_) (dC z U L);show bo x _ (.err 10) (fun v=>mh v (.err 10) fun cs=>aD (Nat.ble (Nat.add off 1) (gz cs)) (fN false ((cs.drop off).take 1) (.err 10) fun v=>.ok v _) (.err 10))=_;rw[cR,M,cS];show aD (Nat.ble (Nat.add off 1) (gz cs)) (fN false ((cs.drop off).take 1) (aC.err 10) fun v=>aC.ok v _) (aC.err 10)=_;rw[oL,show Nat.ble (Nat.add off 1) cs.length=true from gW A,et,NG A,vh,NI,Y];rfl
theorem vi_mkfn{f:Nat}{l:List aI}{eG:List VV}(A:s9 VE l=some eG)(G:Q (.fn f eG) B):VI T (.yO f [] l) VE B [] Q:=fun _ _ _ _ _ z=>by
 obtain⟨vs,I,h2⟩:=KH z A;refine eU (v:=.func f [] vs) (fun call=>?_) (dC z (v:=.fn f eG) (by simp only[aG];exact⟨vs,rfl,h2⟩) G);show ob (jq _ l) (aC.err 20) (fun vs=>aC.ok (.func f [] vs) _)=_;rw[I,cS]
theorem vi_nilckV{x:aI}{b o:Nat}(G:x.vv VE=some (.vp b o))(I:Q (.vp b o) B):VI T (.rB x) VE B [] Q:=fun _ _ _ _ _ z=>by
 obtain⟨a,L,h2⟩:=z.bG G;have A:=h2;simp only[aG] at A;refine eU (v:=a) (fun call=>?_) (dC z h2 I);show bo x _ (.err 19) (fun v=>aD (C2 v) (.ok v _) (.err 19))=_;rw[cR,L,cS,A];rfl
theorem vi_nilckR{x:aI}{row:List DC}{o:Nat}(G:x.vv VE=some (.rp row o))(I:Q (.rp row o) B):VI T (.rB x) VE B [] Q:=fun _ _ _ _ _ A=>by
 obtain⟨a,L,h2⟩:=A.bG G;have z:=h2;simp only[aG] at z;obtain⟨f,g,q,l,z,_⟩:=z;refine eU (v:=a) (fun call=>?_) (dC A h2 I);show bo x _ (.err 19) (fun v=>aD (C2 v) (.ok v _) (.err 19))=_;rw[cR,L,cS,z];rfl
theorem vi_nilckB{x:aI}{b g q o es:Nat}(G:x.vv VE=some (.bp b g q o es))(I:Q (.bp b g q o es) B):VI T (.rB x) VE B [] Q:=fun _ _ _ _ _ z=>by
 obtain⟨a,L,h2⟩:=z.bG G;have A:=h2;simp only[aG] at A;refine eU (v:=a) (fun call=>?_) (dC z h2 I);show bo x _ (.err 19) (fun v=>aD (C2 v) (.ok v _) (.err 19))=_;rw[cR,L,cS,A];rfl
theorem vi_nilckF{x:aI}{f:Nat}{c:List VV}(G:x.vv VE=some (.fn f c))(I:Q (.fn f c) B):VI T (.rB x) VE B [] Q:=fun _ _ _ _ _ A=>by
 obtain⟨a,L,h2⟩:=A.bG G;have z:=h2;simp only[aG] at z;obtain⟨cs,z,_⟩:=z;refine eU (v:=a) (fun call=>?_) (dC A h2 I);show bo x _ (.err 19) (fun v=>aD (C2 v) (.ok v _) (.err 19))=_;rw[cR,L,cS,z];rfl
theorem vi_mkif{t:Nat}{x:aI}{v:VV}(A:x.vv VE=some v)(G:Q .iq B):VI T (.yP t x) VE B [] Q:=fun _ _ _ _ _ z=>by
 obtain⟨a,I,_⟩:=z.bG A;refine eU (v:=.iface t a) (fun call=>?_) (dC z (v:=.iq) (by simp only[aG];exact⟨_,_,rfl⟩) G);show bo x _ (.err 21) (fun v=>.ok (.iface t v) _)=_;rw[cR,I,cS]
def T9:VV→Option Bool
 |.k .ke=>some true
 |.iq=>some false
 |_=>none
theorem vi_ifNil{neg:Bool}{x y:aI}{v:VV}{t:Bool}(I:x.vv VE=some v)(L:y.vv VE=some (.k .ke))(z:T9 v=some t)(M:Q (.d (.b (Bool.xor neg t))) B):VI T (.eqv .iface neg x y) VE B [] Q:=fun _ _ _ _ _ A=>by
 obtain⟨a,O,h2⟩:=A.bG I;obtain⟨c,U,G⟩:=A.bG L;simp only[aG] at G;subst G;have Y:ox .iface a .ke=some t:=by
  cases v with
  |iq=>simp only[aG] at h2;obtain⟨_,_,rfl⟩:=h2;cases z;rfl
  |k x=>
   simp only[aG] at h2;subst h2
   cases a<;>simp only[T9,reduceCtorEq,eA] at z
   subst z;rfl
  |_=>cases z
 exact K6 O U Y (dC A (v:=.d (.b (Bool.xor neg t))) (by simp only[aG,bK]) M)
end
@[reducible] def dI(x:Int):VV:=.d (.i .i64 x)
@[reducible] def dS(x:List UInt8):VV:=.d (al x)
@[reducible] def dB(x:Bool):VV:=.d (.b x)
@[reducible] def dN:VV:=.d .nil
@[reducible] def d0:VV:=.d (.i .i64 0)
@[reducible] def i0:DC:=.i .i64 0
@[reducible] def zS:List VV:=[d0,d0,d0,d0,dN,dN,dS [],dS [],dN,d0,d0,dN,d0,dN,dN,dN,dN,dN,d0,d0,d0]
variable{T:aO}{VE:bq}{B:aU}{Q:bq→aU→Prop}
theorem KJ{call:dG}{E:Env}{H H1:ay}{n:Nat}{w:Bool}{a:aI}{f g o:Nat}{v:ak}(z:a.ev E=some (.ptr f g o))(h:(bm.load n w a).ev call E H= .ok v H1):H1=H:=by
 have key:PS H ((bm.load n w a).ev call E H):=by
  rw[QY z];exact PS.iT (fun _ _ _ _ _ _ _=>PS.aD (PS.aD (PS.aD (PS.aD (PS.ob (fun _=>PS.aD (PS.fN (fun _=>PS.ok) PS.err) (PS.fN (fun _=>PS.ok) PS.err)) PS.err) PS.err) PS.err) PS.err) PS.err) PS.err
 exact key _ _ h
theorem vq_markL{fl:List FL}{d:Key}{l:List Nat}{n:Nat}{w:Bool}{a:aI}{b o:Nat}{s:BS}{r:List bl}(ha:a.vv VE=some (.vp b o))(U:aN B b=some s)(Y:s.born)(hk:mg [] l fl=true)(h:VI T (.load n w a) VE B [] fun v B'=>VQ T r ((d.n,v)::VE) B' (.rd [b]::fl) Q):VQ T (⟨some d,none,some l,.load n w a⟩::r) VE B fl Q:=by
 intro H0 X0 E H β A bb L;obtain⟨N,v0,H',e,M,v,B',β',Z,O,hv,hq⟩:=uK h A;obtain⟨x,hx,G⟩:=A.bG ha;simp only[aG] at G;subst G;have z:H'=H.mark:=KJ hx (e N N (bt _) (bt _));have I:H.mark.ws=[]∧H.mark.next=H.next:=by cases H;exact⟨rfl,rfl⟩
 have k:rN H.next B β (.rd [b]) ⟨(bm.load n w a).reads E,H'.ws,H.next,H'.next⟩:=by
  refine⟨by rw[z];exact I.1,by show H.next=H'.next;rw[z];exact I.2.symm,[β b],?_,fun f L=>?_⟩
  ·show some (fS (a.ev E))=_;rw[hx];rfl
  rcases List.mem_singleton.1 L with rfl
  exact⟨(A.new b s U Y).2,fun c t M h2 h3=>List.mem_singleton.2 (A.inj c b t s M U h2 Y h3)⟩
 obtain⟨N2,E2,H2,e2,hp⟩:=hq H0 X0 _ _ β' (O.set hv) (⟨(bm.load n w a).reads E,H'.ws,H.next,H'.next⟩::bb) ((L.cons k).step Z);refine⟨max N N2,E2,H2,fun lf n a1 a2=>?_,hp.of Z A.aQ⟩;show bl.ji (T.call lf n) ⟨some d,none,some l,_⟩ E H bb (iE (T.call lf n) r)=_;rw[uA,uB (e lf n aq aq) (xg L M hk)];exact e2 lf n aq aq
theorem Rel.ghostB{H0:Nat→Nat}{X0:Nat→Prop}{E:Env}{H:ay}{β:Nat→Nat}(h:Rel H0 X0 VE B E H β){b i g e I elem aE es:Nat}{row:List VV}(O:aN B b=some (.one e I row))(hi:row[i]?=some (.d .nil))(hg:aN B g=none):Rel H0 X0 VE ((g,.acc elem aE es [])::(b,.one e I (row.set i (.ac g 0 es)))::B) E H β:=by
 have hgb:g≠b:=fun k=>by rw[k,O] at hg;cases hg
 have M:∀c s,aN ((g,BS.acc elem aE es [])::(b,BS.one e I (row.set i (.ac g 0 es)))::B) c=some s→s.born→∃t,aN B c=some t∧t.born:=fun c s z ho=>by
  rw[dr] at z
  by_cases L:g=c
  ·rw[bj L] at z;cases z;exact absurd rfl ho
  rw[aZ L,dr] at z
  by_cases k:b=c
  ·subst k;exact⟨_,O,trivial⟩
  rw[aZ k] at z;exact⟨s,z,ho⟩
 have hX:∀f,XB X0 ((g,BS.acc elem aE es [])::(b,BS.one e I (row.set i (.ac g 0 es)))::B) β f→XB X0 B β f:=fun f U=>U.imp id fun⟨c,s,Y,ho,h2⟩=>by
  obtain⟨t,A,G⟩:=M c s Y ho;exact⟨c,t,A,G,h2⟩
 have Z:fc H (XB X0 B β) H (XB X0 ((g,BS.acc elem aE es [])::(b,BS.one e I (row.set i (.ac g 0 es)))::B) β):=⟨bt _,fun f _ U=>⟨fun k=>U (hX f k),rfl⟩⟩;refine⟨h.kY,h.aQ,h.x0,fun c s z ho=>?_,fun c d s t z wI hs ht he=>?_,fun k v hk=>?_,fun c s z=>?_⟩
 ·obtain⟨t,A,G⟩:=M c s z ho;exact h.new c t A G
 ·obtain⟨s',A,G⟩:=M c s z hs;obtain⟨t',k3,k4⟩:=M d t wI ht;exact h.inj c d s' t' A k3 G k4 he
 ·obtain⟨a,Y,h2⟩:=h.env k v hk;exact⟨a,Y,h2.lift Z⟩
 rw[dr] at z
 by_cases L:g=c
 ·rw[bj L] at z;cases z;exact .inl rfl
 rw[aZ L,dr] at z
 by_cases k:b=c
 ·subst k;rw[bj rfl] at z
  cases z
  obtain⟨l,lo,cs,A,G,k3,k4⟩:=h.box b _ O;exact⟨l,lo,cs,A,G,k3,aY.lift Z (aY.setAt (new:=.ac g 0 es) (fun a ha=>by simp only[aG,bK] at ha⊢;exact .inl ⟨trivial,ha⟩) k4 hi)⟩
 rw[aZ k] at z;exact(h.box c s z).lift Z rfl
end Go.Ev
