/- Part 11 of rules for walks through the code of a program, and of such walks; what each part proves is said by its theorems. -/
import Derived.Test.YtdaamclhcpjdpaaGreatDoorT10
set_option linter.unusedVariables false
set_option linter.unusedSimpArgs false
noncomputable section
set_option maxRecDepth 100000
set_option maxHeartbeats 4000000
namespace Go.Ev
def base(P:Program):Ho:=fun f g=>if f<P.globals.size∧g=1 then some ⟨f,0,0,true,I1 P f⟩ else none
def H0(n:Nat):ay:=⟨n,0,[],.emp⟩
section
variable{P:Program}{ρ:Ho}{C:Nat→Option cV}{w w':World}{H H':ay}{call:dG}{f n:Nat}{args:List ak}{dV:Array Value}{v:ak}
theorem pO{f g:Nat}{h:Hm}(e:base P f g=some h):f<P.globals.size∧g=1∧h=⟨f,0,0,true,I1 P f⟩:=by
 unfold base at e
 split at e
 ·rename_i k;cases e;exact⟨k.1,k.2,rfl⟩
 cases e
theorem Dp(z:xV P w):R (base P) (fun _=>none) w:=by
 refine⟨fun f o h=>(by cases h),fun f g h f' g' h' e A _ _=>?_,fun f g h e=>?_,fun f g h g' h' e A _=>?_,fun f g h e _ G=>?_⟩
 rotate_right
 ·obtain⟨k,_,rfl⟩:=pO e;exact⟨fun g' h' A=>by obtain⟨_,_,rfl⟩:=pO A;rfl,(z f k).2 G⟩
 ·obtain⟨_,_,rfl⟩:=pO e;obtain⟨_,_,rfl⟩:=pO A;exact⟨rfl,rfl⟩
 ·obtain⟨k,_,rfl⟩:=pO e;exact(z f k).1
 obtain⟨_,_,rfl⟩:=pO e;obtain⟨_,_,rfl⟩:=pO A;rfl
theorem PV:vn P (base P):=fun g z=>⟨⟨g,0,0,true,I1 P g⟩,by simp[base,z],rfl,rfl,fun h=>⟨rfl,h⟩⟩
theorem ZH(z:P.globals.size≤n)(m:Nat):fw (base P) n m:=fun f g A _=>by
 unfold base;rw[aZ aq]
theorem afR:WF (H0 n):=fun x _=>GT.sL x
theorem aal:gJ (base P) (fun _=>none) (H0 n):=fun f o _ h=>by
 rw[show(H0 n).t.get f=none from GT.sL f] at h;cases h
theorem cQ.kept{cv:Value}(h:cQ (base P) C w H v H' cv w'):Kept w w':=by
 obtain⟨ρ',_,z,_⟩:=h;exact⟨z.os,z.tape,z.output,z.size,fun b A=>z.frame b A fun f g x G I _=>by obtain⟨_,_,rfl⟩:=pO G;cases I⟩
theorem trueOk_of(O:je P call){I:Nat}(U:P.globals.size≤n)(Y:call I [] (H0 n)= .ok (.bool true) H'):adx P I:=fun w L=>by
 have post:∀{cv:Value}{w':World},cQ (base P) (fun _=>none) w (H0 n) (.bool true) H' cv w'→cv= .bool true∧Kept w w':=by
  intro cv w' G;have z:=G.kept;obtain⟨_,A,_,_⟩:=G;simp only[VR] at A;exact⟨A,z⟩
 rcases O.sound I [] (H0 n) (.bool true) H' (base P) (fun _=>none) w #[] Y (gX _) afR (Dp L) aal (ZH U _) PV (by simp only[bQ]) with⟨M,h2⟩|⟨cv,w',M,h2⟩
 ·exact .inl ⟨M,Calls.mono h2 fun e w'⟨cv,Z,G⟩=>by
   obtain⟨rfl,z⟩:=post G
   exact⟨Z,z⟩⟩
 obtain⟨rfl,z⟩:=post h2;exact .inr ⟨w',M,z⟩
def H3{α:Type}(l:List (Nat×α)):Tr α:=List.rec (motive:=fun _=>Tr α) .leaf (fun p _ z=>z.set p.1 p.2) l
theorem ZI{α:Type}{f:Nat}{x:α}:∀{l:List (Nat×α)},(H3 l).get f=some x→(f,x)∈l
 |[],h=>by rw[show H3 ([]:List (Nat×α))= .leaf from rfl,Tr.uE] at h;cases h
 |p::r,h=>by
  have h:((H3 r).set p.1 p.2).get f=some x:=h;rw[Tr.dn] at h
  split at h
  ·rename_i e;cases h;subst e;exact iI ..
  exact mu _ (ZI h)
def RowOk(P:Program)(p:Nat×aR):Prop:=∃g,P.funcs[p.1]?=some g∧yV P g=some p.2
theorem tabOf_ok{l:List (Nat×aR)}(h:∀p,p∈l→RowOk P p):Gi P (H3 l):=fun f fn z=>h (f,fn) (ZI z)
end
def okT(r:aC):Bool:=aC.rec (motive:=fun _=>Bool) (fun v _=>ak.rec (motive_1:=fun _=>Bool) (motive_2:=fun _=>Unit) (fun b=>b) (fun _ _=>false) (fun _ _=>false) (fun _ _ _=>false) false (fun _ _ _ _ _=>false) false (fun _ _=>false) (fun _ _=>false) (fun _ _ _ _ _=>false) false (fun _ _ _=>false) false (fun _=>false) false false () (fun _ _ _ _=>()) v) (fun _=>false) r
theorem okT_ok{r:aC}(h:okT r=true):∃H,r= .ok (.bool true) H:=by
 cases r with
 |err n=>cases h
 |ok v H=>
  cases v with
  |bool b=>cases b with
   |true=>exact⟨H,rfl⟩
   |false=>cases h
  |_=>cases h
section
variable{call:dG}{lf:Nat}{E:Env}{H:ay}
theorem params_cons(k:Key)(ks:List Key)(v:ak)(l:List ak)(E:Env)(c:Env→aC):params (k::ks) (v::l) E c=params ks l (E.set k v) c:=
 T4.jc E k v fun E=>params ks l E c
theorem region_ev(ops:List bl):(IC.region false ops).ev call lf E H=E7 (mi call ops E H):=rfl
theorem regionQ_ev(ops:List bl):(IC.region true ops).ev call lf E H=E7 (iE call ops E H []):=rfl
theorem R0(a b:IC):(IC.seq a b).ev call lf E H=xb (a.ev call lf E H) (b.ev call lf):=rfl
theorem ady(E:Env)(H:ay):E7 (.ok E H)= .ok .normal E H:=rfl
theorem YX(E:Env)(H:ay)(k:Env→ay→Out):xb (.ok .normal E H) k=k E H:=rfl
theorem YY(d:Option Key)(q:Option (List Nat))(op:bm)(r:List bl):mi call (⟨d,none,q,op⟩::r) E H=fin d E (mi call r) (op.ev call E H):=rfl
theorem KR(d:Key)(v:ak)(k:Env→ay→dD):fin (some d) E k (.ok v H)=k (E.set d v) H:=T4.F8 E d v fun E=>k E H
theorem fin_none(v:ak)(k:Env→ay→dD):fin none E k (.ok v H)=k E H:=rfl
theorem cS{α β:Type}(x:α)(e:β)(k:α→β):ob (some x) e k=k x:=rfl
theorem mov_ev(x:aI):(bm.cj x).ev call E H=ob (x.ev E) (.err 1) fun v=>.ok v H:=cR x E _ _
theorem bin_ev(op:BinOp)(x y:aI):(bm.bin op x y).ev call E H=ob (x.ev E) (.err 6) fun a=>ob (y.ev E) (.err 6) fun b=>ob (BJ op a b) (.err 6) fun v=>.ok v H:=by
 show bo x E (.err 6) (fun a=>bo y E (.err 6) fun b=>Ez op a b fun v=>.ok v H)=_;simp only[cR,K3,wW]
theorem conv_ev(k:IntKind)(x:aI):(bm.conv k x).ev call E H=ob (x.ev E) (.err 36) fun v=>fq v (.err 36) fun _ n=>.ok (.int k (lA k n)) H:=by
 show bo x E (.err 36) (fun v=>fq v (.err 36) fun _ n=>lq (lA k n) fun n=>.ok (.int k n) H)=_;simp only[cR,wV]
theorem onInt_mk(k:IntKind)(n:Int)(e:aC)(f:IntKind→Int→aC):fq (.int k n) e f=f k n:=rfl
def fnEnd(fn:aR)(o:Out):aC:=
 Out.rec (motive:=fun _=>aC) (fun x E H=>Ex.rec (motive:=fun _=>aC) (results E H fn.res) (fun _=>.err 72) (results E H fn.res) x) .err o
theorem evFn_eq(fn:aR)(args:List ak)(H:ay):vK call lf fn args H=params fn.ps args .emp fun E=>fnEnd fn (fn.body.ev call lf E H):=rfl
end
theorem Kept.keptBut{w w':World}(h:Kept w w')(may:MemPlace→Prop):w.keptBut w' may:=by
 refine⟨h.os,h.output,fun i hi=>?_⟩;rw[h.uk i hi]
 cases w.heap[i]?with
 |none=>rfl
 |some o=>cases o with
  |cells c t z=>exact⟨rfl,rfl,rfl,fun _ _=>rfl⟩
  |map es clock=>exact .inr ⟨rfl,rfl⟩
  |_=>rfl
theorem low_of_shaped{P:Program}{w:World}(h:w.ShapedOpen P)(I:((List.range P.globals.size).all fun g=>((((begin P (fun _ _=>0) default).world.heap[g]?).bind Obj.row?).isSome))=true):∀g,g<P.globals.size→g<w.heap.size:=by
 intro g z;have A:=List.all_eq_true.1 I g (List.mem_range.2 z)
 cases G:((begin P (fun _ _=>0) default).world.heap[g]?).bind Obj.row? with
 |none=>rw[G] at A;cases A
 |some x=>
  obtain⟨zero,t⟩:=x;obtain⟨cs,L,_⟩:=h.1 g zero t z G;exact(Array.getElem?_eq_some_iff.1 L).1
mutual
def flatD{H:Type}:DataW H→List Value
 |.lit (.int k n)=>[.int k n]
 |.lit (.bool b)=>[.bool b]
 |.lit (.string bs)=>[.string ⟨bs.toArray⟩]
 |.agg parts=>adz parts
 |_=>[]
def adz{H:Type}:List (DataW H)→List Value
 |[]=>[]
 |d::r=>flatD d++adz r
end
def putG(h:Array Obj)(g:Nat)(cs:List Value):Array Obj:=h.modify g fun
 |.cells _ t frozen=>.cells cs.toArray t frozen
 |o=>o
structure aO where
 ft:Tr aR
 xt:Tr Nat
 zt:ZT:=.leaf
def aO.call(T:aO)(lf n:Nat):dG:=sa T.ft T.xt T.zt lf n
def gF(T:aO)(op:bm)(E:Env)(H:ay)(Q:ak→ay→Prop):Prop:=∃N v H',(∀lf n,N≤lf→N≤n→op.ev (T.call lf n) E H= .ok v H')∧Q v H'
def oB(T:aO)(ops:List bl)(E:Env)(H:ay)(Q:Env→ay→Prop):Prop:=∃N E' H',(∀lf n,N≤lf→N≤n→mi (T.call lf n) ops E H= .ok E' H')∧Q E' H'
def JY(T:aO)(ops:List bl)(E:Env)(H:ay)(bb:List FP)(Q:Env→ay→Prop):Prop:=∃N E' H',(∀lf n,N≤lf→N≤n→iE (T.call lf n) ops E H bb= .ok E' H')∧Q E' H'
def j0(T:aO)(c:IC)(E:Env)(H:ay)(Q:Ex→Env→ay→Prop):Prop:=∃N x E' H',(∀lf n,N≤lf→N≤n→c.ev (T.call lf n) lf E H= .ok x E' H')∧Q x E' H'
def zK(T:aO)(f:Nat)(args:List ak)(H:ay)(Q:ak→ay→Prop):Prop:=∃N v H',(∀lf n,N≤lf→N≤n→T.call lf n f args H= .ok v H')∧Q v H'
section
variable{T:aO}{E:Env}{H:ay}
theorem zK.mono{f:Nat}{args:List ak}{Q z:ak→ay→Prop}(h:zK T f args H Q)(k:∀v H',Q v H'→z v H'):zK T f args H z:=
 let⟨N,v,H',a,b⟩:=h;⟨N,v,H',a,k _ _ b⟩
theorem j0.mono{c:IC}{Q z:Ex→Env→ay→Prop}(h:j0 T c E H Q)(k:∀x E' H',Q x E' H'→z x E' H'):j0 T c E H z:=
 let⟨N,x,E',H',a,b⟩:=h;⟨N,x,E',H',a,k _ _ _ b⟩
theorem eU{op:bm}{v:ak}{H':ay}{Q:ak→ay→Prop}(h:∀call,op.ev call E H= .ok v H')(z:Q v H'):gF T op E H Q:=⟨0,v,H',fun _ _ _ _=>h _,z⟩
theorem wpI_mov{x:aI}{v:ak}{Q:ak→ay→Prop}(h:x.ev E=some v)(z:Q v H):gF T (.cj x) E H Q:=
 eU (fun _=>by rw[mov_ev,h,cS]) z
theorem xj{op:BinOp}{x y:aI}{a b v:ak}{Q:ak→ay→Prop}(z:x.ev E=some a)(A:y.ev E=some b)(h:BJ op a b=some v)(G:Q v H):gF T (.bin op x y) E H Q:=
 eU (fun _=>by rw[bin_ev,z,A,cS,cS,h,cS]) G
theorem wpI_un{op:UnOp}{x:aI}{a v:ak}{Q:ak→ay→Prop}(z:x.ev E=some a)(h:OU op a=some v)(A:Q v H):gF T (.un op x) E H Q:=
 eU (fun _=>by show bo x E (.err 8) (fun a=>ob (OU op a) (.err 8) fun v=>me v fun v=>.ok v H)=_;rw[cR,z,cS,h,cS,wW]) A
theorem K6{c:E4}{neg:Bool}{x y:aI}{a b:ak}{r:Bool}{Q:ak→ay→Prop}(z:x.ev E=some a)(A:y.ev E=some b)(h:ox c a b=some r)(G:Q (.bool (Bool.xor neg r)) H):gF T (.eqv c neg x y) E H Q:=
 eU (fun _=>by show bo x E (.err 7) (fun a=>bo y E (.err 7) fun b=>ob (ox c a b) (.err 7) fun r=>nG (Bool.xor neg r) fun r=>.ok (.bool r) H)=_;rw[cR,z,cS,cR,A,cS,h,cS,PR]) G
theorem aam{c x y:aI}{t:Bool}{v:ak}{Q:ak→ay→Prop}(A:c.ev E=some (.bool t))(z:(if t then x.ev E else y.ev E)=some v)(G:Q v H):gF T (.pick c x y) E H Q:=
 eU (fun _=>by
  show bo c E (.err 2) (fun v=>uT v (.err 2) fun t=>aD t (kU x E H) (kU y E H))=_;rw[cR,A,cS]
  cases t
  ·show kU y E H=_;have z:y.ev E=some v:=z;unfold kU;rw[cR,z,cS]
  show kU x E H=_;have z:x.ev E=some v:=z
  unfold kU;rw[cR,z,cS]) G
theorem wpI_conv{k z:IntKind}{x:aI}{n:Int}{Q:ak→ay→Prop}(A:x.ev E=some (.int z n))(G:Q (.int k (lA k n)) H):gF T (.conv k x) E H Q:=
 eU (fun _=>by rw[conv_ev,A,cS,onInt_mk]) G
theorem Qq{x:aI}{k f g o:Nat}{Q:ak→ay→Prop}(z:x.ev E=some (.ptr f g o))(A:Q (.ptr f g (o+k)) H):gF T (.dM x k) E H Q:=
 eU (fun _=>by show bo x E (.err 9) (fun v=>gw v (.err 9) fun f g off=>cL (Nat.add off k) fun off=>.ok (.ptr f g off) H)=_;rw[cR,z,cS];show cL (o+k) (fun off=>aC.ok (.ptr f g off) H)=_;rw[fQ]) A
theorem K7{x:aI}{f g o l es:Nat}{Q:ak→ay→Prop}(z:x.ev E=some (.slice f g o l es))(A:Q (.int .i64 l) H):gF T (.len x) E H Q:=
 eU (fun _=>by show bo x E (.err 25) (fun v=>eT v (.err 25) (.ok (.int .i64 (.ofNat 0)) H) fun _ _ _ l _=>.ok (.int .i64 (.ofNat l)) H)=_;rw[cR,z,cS];rfl) A
theorem YZ{x:aI}{Q:ak→ay→Prop}(z:x.ev E=some .fL)(A:Q (.int .i64 0) H):gF T (.len x) E H Q:=
 eU (fun _=>by show bo x E (.err 25) (fun v=>eT v (.err 25) (.ok (.int .i64 (.ofNat 0)) H) fun _ _ _ l _=>.ok (.int .i64 (.ofNat l)) H)=_;rw[cR,z,cS];rfl) A
theorem aan{x:aI}{l s:Nat}{Q:ak→ay→Prop}(z:x.ev E=some (.str l s))(A:Q (.int .i64 l) H):gF T (.tQ x) E H Q:=
 eU (fun _=>by show bo x E (.err 25) (fun v=>jQ v (.err 25) fun l _=>.ok (.int .i64 (.ofNat l)) H)=_;rw[cR,z,cS];rfl) A
theorem P8{x i:aI}{es f g o l cY:Nat}{k:IntKind}{j:Nat}{Q:ak→ay→Prop}(A:x.ev E=some (.slice f g o l cY))(hi:i.ev E=some (.int k (j:Int)))(G:j<l)(I:Q (.ptr f g (o+j*es)) H):gF T (.gQ es x i) E H Q:=
 eU (fun _=>by
  show bo x E (.err 12) (fun v=>eT v (.err 12) (.err 12) fun f g off L _=>bo i E (.err 12) fun z=>idx z L (.err 12) fun j=>cL (Nat.add off (Nat.mul j es)) fun off=>.ok (.ptr f g off) H)=_;rw[cR,A,cS];show bo i E (.err 12) (fun z=>idx z l (.err 12) fun j=>cL (Nat.add o (Nat.mul j es)) fun off=>.ok (.ptr f g off) H)=_;rw[cR,hi,cS];show aD (Nat.ble (Nat.succ j) l) (cL (o+j*es) fun off=>aC.ok (.ptr f g off) H) (aC.err 12)=_
  rw[gW G,et,fQ]) I
theorem wpI_extr{x:aI}{vs:List ak}{i:Nat}{v:ak}{Q:ak→ay→Prop}(z:x.ev E=some (.tuple vs))(hi:vs[i]?=some v)(A:Q v H):gF T (.vI x i) E H Q:=
 eU (fun _=>by show bo x E (.err 18) (fun v=>uJ v (.err 18) fun vs=>ob (vs[i]?) (.err 18) fun v=>.ok v H)=_;rw[cR,z,cS];show ob (vs[i]?) (aC.err 18) (fun v=>aC.ok v H)=_;rw[hi,cS]) A
theorem wpI_build{z cs:List ak}{ps:List (Nat×Nat×aI)}{Q:ak→ay→Prop}(h:pV E ps z=some cs)(A:Q (.agg cs) H):gF T (.build z ps) E H Q:=
 eU (fun _=>by show ob (pV E ps z) (aC.err 23) (fun cs=>aC.ok (.agg cs) H)=_;rw[h,cS]) A
theorem aao{f:Nat}{l:List aI}{vs:List ak}{Q:ak→ay→Prop}(z:jq E l=some vs)(h:zK T f vs H Q):gF T (.call f l) E H Q:=by
 obtain⟨N,v,H',a,b⟩:=h;exact⟨N,v,H',fun lf n A h2=>by show ob (jq E l) (aC.err 42) (fun vs=>T.call lf n f vs H)=_;rw[z,cS];exact a lf n A h2,b⟩
theorem evs_nil:jq E []=some []:=rfl
theorem aap{x:aI}{r:List aI}{v:ak}{vs:List ak}(h:x.ev E=some v)(k:jq E r=some vs):jq E (x::r)=some (v::vs):=by
 show ob (x.ev E) none (fun v=>ob (jq E r) none fun vs=>some (v::vs))=_;rw[h,cS,k,cS]
theorem wpO_nil{Q:Env→ay→Prop}(h:Q E H):oB T [] E H Q:=⟨0,E,H,fun _ _ _ _=>rfl,h⟩
theorem wpO_cons{d:Key}{q:Option (List Nat)}{op:bm}{r:List bl}{Q:Env→ay→Prop}(h:gF T op E H fun v H'=>oB T r (E.set d v) H' Q):oB T (⟨some d,none,q,op⟩::r) E H Q:=by
 obtain⟨N,v,H',a,z,A,G,b,c⟩:=h;refine⟨max N z,A,G,fun lf n I h2=>?_,c⟩;rw[YY,a lf n aq aq,KR];exact b lf n aq aq
theorem wpO_consN{q:Option (List Nat)}{op:bm}{r:List bl}{Q:Env→ay→Prop}(h:gF T op E H fun _ H'=>oB T r E H' Q):oB T (⟨none,none,q,op⟩::r) E H Q:=by
 obtain⟨N,v,H',a,z,A,G,b,c⟩:=h;refine⟨max N z,A,G,fun lf n I h2=>?_,c⟩;rw[YY,a lf n aq aq,fin_none];exact b lf n aq aq
theorem Za{call:dG}{d:Option Key}{g:Key}{want:Bool}{q:Option (List Nat)}{op:bm}{t:Bool}{k:Env→ay→dD}(z:E.get g=some (.bool t)):
  bl.step call ⟨d,some (g,want),q,op⟩ E H k=if t=want then fin d E k (op.ev call E H) else k (iK E d .undef) H:=by
 show ob (E.get g) (.err 51) (fun v=>yR v (ib d E H k) fun b=>aD (Bool.xor b want) (ib d E H k) (bl.run call ⟨d,some (g,want),q,op⟩ E H k))=_;rw[z,cS];show aD (Bool.xor t want) (ib d E H k) (bl.run call ⟨d,some (g,want),q,op⟩ E H k)=_;rw[xe]
 cases t<;>cases want<;>rfl
theorem wpO_skip{d:Key}{g:Key}{want t:Bool}{q:Option (List Nat)}{op:bm}{r:List bl}{Q:Env→ay→Prop}(z:E.get g=some (.bool t))(A:t≠want)(h:oB T r (E.set d .undef) H Q):oB T (⟨some d,some (g,want),q,op⟩::r) E H Q:=by
 obtain⟨G,I,L,b,c⟩:=h;exact⟨G,I,L,fun lf n M h2=>by show bl.step (T.call lf n) ⟨some d,some (g,want),q,op⟩ E H (mi (T.call lf n) r)=_;rw[Za z,aZ A];exact b lf n M h2,c⟩
theorem wpO_want{d:Key}{g:Key}{want:Bool}{q:Option (List Nat)}{op:bm}{r:List bl}{Q:Env→ay→Prop}(z:E.get g=some (.bool want))(h:gF T op E H fun v H'=>oB T r (E.set d v) H' Q):oB T (⟨some d,some (g,want),q,op⟩::r) E H Q:=by
 obtain⟨N,v,H',a,A,G,I,b,c⟩:=h;refine⟨max N A,G,I,fun lf n L h2=>?_,c⟩;show bl.step (T.call lf n) ⟨some d,some (g,want),q,op⟩ E H (mi (T.call lf n) r)=_;rw[Za z,bj rfl,a lf n aq aq,KR];exact b lf n aq aq
theorem wpC_seq{a b:IC}{Q:Ex→Env→ay→Prop}(h:j0 T a E H fun x E' H'=>(x= .normal→j0 T b E' H' Q)∧(x≠.normal→Q x E' H')):j0 T (.seq a b) E H Q:=by
 obtain⟨N,x,E1,H1,G,h2,I⟩:=h
 cases x with
 |normal=>
  obtain⟨L,x2,M,O,U,Y⟩:=h2 rfl;refine⟨max N L,x2,M,O,fun lf n z A=>?_,Y⟩;rw[R0,G lf n aq aq,YX];exact U lf n aq aq
 |exit id=>exact⟨N,_,E1,H1,fun lf n z A=>by rw[R0,G lf n z A];rfl,I (by simp)⟩
 |ret=>exact⟨N,_,E1,H1,fun lf n z A=>by rw[R0,G lf n z A];rfl,I (by simp)⟩
theorem wpC_region{ops:List bl}{Q:Ex→Env→ay→Prop}(h:oB T ops E H fun E' H'=>Q .normal E' H'):j0 T (.region false ops) E H Q:=by
 obtain⟨N,E1,H1,z,h2⟩:=h;exact⟨N,_,E1,H1,fun lf n A G=>by rw[region_ev,z lf n A G,ady],h2⟩
theorem wpC_regionQ{ops:List bl}{Q:Ex→Env→ay→Prop}(h:JY T ops E H [] fun E' H'=>Q .normal E' H'):j0 T (.region true ops) E H Q:=by
 obtain⟨N,E1,H1,z,h2⟩:=h;exact⟨N,_,E1,H1,fun lf n A G=>by rw[regionQ_ev,z lf n A G,ady],h2⟩
theorem wpC_skip{Q:Ex→Env→ay→Prop}(h:Q .normal E H):j0 T .skip E H Q:=⟨0,_,E,H,fun _ _ _ _=>rfl,h⟩
theorem wpC_exit{id:Nat}{Q:Ex→Env→ay→Prop}(h:Q (.exit id) E H):j0 T (.exit id) E H Q:=⟨0,_,E,H,fun _ _ _ _=>rfl,h⟩
theorem wpC_ret{Q:Ex→Env→ay→Prop}(h:Q .ret E H):j0 T .ret E H Q:=⟨0,_,E,H,fun _ _ _ _=>rfl,h⟩
theorem Qr{c:aI}{a b:IC}{t:Bool}{Q:Ex→Env→ay→Prop}(L:c.ev E=some (.bool t))(M:t=true→j0 T a E H Q)(h2:t=false→j0 T b E H Q):j0 T (.cond c a b) E H Q:=by
 have key:∀lf n,(IC.cond c a b).ev (T.call lf n) lf E H=if t=true then a.ev (T.call lf n) lf E H else b.ev (T.call lf n) lf E H:=fun lf n=>by
  show ob (c.ev E) (.err 61) (fun v=>aa2 v (.err 61) fun t=>aD t (a.ev (T.call lf n) lf E H) (b.ev (T.call lf n) lf E H))=_;rw[L,cS]
  cases t<;>rfl
 cases t with
 |true=>obtain⟨N,x,E1,H1,z,A⟩:=M rfl;exact⟨N,x,E1,H1,fun lf n G I=>by rw[key,bj rfl];exact z lf n G I,A⟩
 |false=>obtain⟨N,x,E1,H1,z,A⟩:=h2 rfl;exact⟨N,x,E1,H1,fun lf n G I=>by rw[key,aZ (by simp)];exact z lf n G I,A⟩
def O6(id:Nat):Ex→Ex
 |.exit j=>if j=id then .normal else .exit j
 |x=>x
theorem wpC_block{id:Nat}{c:IC}{Q:Ex→Env→ay→Prop}(h:j0 T c E H fun x E' H'=>Q (O6 id x) E' H'):j0 T (.block id c) E H Q:=by
 obtain⟨N,x,E1,H1,z,h2⟩:=h;refine⟨N,O6 id x,E1,H1,fun lf n A G=>?_,h2⟩;show GK id c (c.ev (T.call lf n) lf) E H=_;unfold GK;rw[z lf n A G]
 cases x with
 |normal=>rfl
 |ret=>rfl
 |exit j=>
  show aD (Nat.beq j id) (Out.ok .normal E1 H1) (.ok (.exit j) E1 H1)=Out.ok (if j=id then .normal else .exit j) E1 H1
  by_cases h:j=id
  ·rw[bj h,h,show Nat.beq id id=true from ij id];rfl
  rw[aZ h]
  cases I:Nat.beq j id
  ·rfl
  exact absurd (cD I) h
theorem wpC_loop{c:IC}{Q:Ex→Env→ay→Prop}(I:Nat→Env→ay→Prop)(Y:∀k E H,I k E H→j0 T c E H fun x E' H'=>(x= .normal→∃j,j<k∧I j E' H')∧(x≠.normal→Q x E' H')):
  ∀k E H,I k E H→j0 T (.loop c) E H Q:=by
 have main:∀k E H,I k E H→∃N x E' H',(∀lf n m,N≤lf→N≤n→N≤m→xT (c.ev (T.call lf n) lf) m E H= .ok x E' H')∧Q x E' H':=by
  intro k
  induction k using Nat.strongRecOn with
  |_ k Z=>
   intro E H h;obtain⟨N,x,E1,H1,A,h2,O⟩:=Y k E H h;have key:∀lf n m,N≤lf→N≤n→xT (c.ev (T.call lf n) lf) (m+1) E H=xb (.ok x E1 H1) (xT (c.ev (T.call lf n) lf) m):=fun lf n m G L=>by
    show xb (c.ev (T.call lf n) lf E H) (xT (c.ev (T.call lf n) lf) m)=_;rw[A lf n G L]
   cases x with
   |normal=>
    obtain⟨j,hj,M⟩:=h2 rfl;obtain⟨N2,x2,E2,H2,k1,k2⟩:=Z j hj E1 H1 M;refine⟨max N N2+1,x2,E2,H2,fun lf n m G L U=>?_,k2⟩;obtain⟨m,rfl⟩:∃z,m=z+1:=⟨m-1,aq⟩;rw[key lf n m aq aq,YX];exact k1 lf n m aq aq aq
   |exit id=>
    refine⟨N+1,_,E1,H1,fun lf n m G L U=>?_,O (by simp)⟩;obtain⟨m,rfl⟩:∃z,m=z+1:=⟨m-1,aq⟩;rw[key lf n m aq aq];rfl
   |ret=>
    refine⟨N+1,_,E1,H1,fun lf n m G L U=>?_,O (by simp)⟩;obtain⟨m,rfl⟩:∃z,m=z+1:=⟨m-1,aq⟩;rw[key lf n m aq aq];rfl
 intro k E H h;obtain⟨N,x,E',H',a,b⟩:=main k E H h;exact⟨N,x,E',H',fun lf n A h2=>a lf n lf A h2 A,b⟩
def N6(ks:List Key):List ak→Env→Env:=
 List.rec (motive:=fun _=>List ak→Env→Env) (fun _ E=>E) (fun k _ z l E=>List.rec (motive:=fun _=>Env) E (fun v r _=>z r (E.set k v)) l) ks
theorem ZJ:∀(ks:List Key)(l:List ak)(E:Env)(c:Env→aC),ks.length=l.length→params ks l E c=c (N6 ks l E)
 |[],[],E,c,_=>rfl
 |k::ks,v::l,E,c,h=>by rw[params_cons,ZJ ks l _ c (by simpa using h)];rfl
 |[],_::_,_,_,h=>by simp at h
 |_::_,[],_,_,h=>by simp at h
theorem wpF_fn{f:Nat}{fn:aR}{args:List ak}{Q:ak→ay→Prop}(A:T.ft.get f=some fn)(G:fn.ps.length=args.length)
  (h:j0 T fn.body (N6 fn.ps args .emp) H fun x E' H'=>(∀id,x≠.exit id)∧∃v,results E' H' fn.res= .ok v H'∧Q v H'):zK T f args H Q:=by
 obtain⟨N,x,E1,H1,I,h2,v,z,L⟩:=h;refine⟨N+1,v,H1,fun lf n M O=>?_,L⟩;obtain⟨n,rfl⟩:∃n',n=n'+1:=⟨n-1,aq⟩;show ob (T.ft.get f) _ (fun fn=>vK (T.call lf n) lf fn args H)=_;rw[A,cS,evFn_eq,ZJ _ _ _ _ G,I lf n aq aq]
 cases x with
 |normal=>exact z
 |ret=>exact z
 |exit id=>exact absurd rfl (h2 id)
end
inductive DC where
 |i (k:IntKind) (n:Int)
 |b (b:Bool)
 |s (l v:Nat)
 |nil
 |sl (rows:List (List DC))
 |raw (f n es:Nat)
def lj(H:ay)(f g Q:Nat)(l:List ak):Prop:=
 ∃elem aE m lo fl cs,H.t.get f=some (.row elem l.length aE m lo fl cs)∧lo≤g∧g≤m∧Q<g∧cs.get Q=some l
mutual
def bK(H:ay)(X:Nat→Prop):DC→ak→Prop
 |.i k n,a=>a= .int k n
 |.b b,a=>a= .bool b
 |.s l v,a=>a= .str l v
 |.nil,a=>a= .fL
 |.raw f n es,a=>a= .slice f n 0 n es
 |.sl rows,a=>∃f g off es,a= .slice f g off rows.length es∧(rows=[]∨¬X f∧f<H.next∧∃q,off=q*es∧dF H X f g es q rows)
def dF(H:ay)(X:Nat→Prop)(f g es:Nat):Nat→List (List DC)→Prop
 |_,[]=>True
 |q,row::r=>(∃l,lj H f g q l∧l.length=es∧bZ H X row l)∧dF H X f g es (q+1) r
def bZ(H:ay)(X:Nat→Prop):List DC→List ak→Prop
 |[],l=>l=[]
 |d::r,l=>∃a s,l=a::s∧bK H X d a∧bZ H X r s
end
structure vN(H H':ay):Prop where
 next:H.next≤H'.next
 aQ:H'.aQ=H.aQ
 ws:H'.ws=H.ws
 same:∀f,f<H.next→H'.t.get f=H.t.get f
theorem vN.refl(H:ay):vN H H:=⟨bt _,rfl,rfl,fun _ _=>rfl⟩
theorem vN.trans{A B C:ay}(h:vN A B)(k:vN B C):vN A C:=
 ⟨eZ h.next k.next,k.aQ.trans h.aQ,k.ws.trans h.ws,fun f z=>(k.same f (jj z h.next)).trans (h.same f z)⟩
structure Step(X:Nat→Prop)(H H':ay):Prop where
 next:H.next≤H'.next
 same:∀f,f<H.next→¬X f→H'.t.get f=H.t.get f
theorem Step.refl(X:Nat→Prop)(H:ay):Step X H H:=⟨bt _,fun _ _ _=>rfl⟩
theorem vN.step{H H':ay}(h:vN H H')(X:Nat→Prop):Step X H H':=⟨h.next,fun f z _=>h.same f z⟩
theorem Step.trans{X:Nat→Prop}{A B C:ay}(h:Step X A B)(k:Step X B C):Step X A C:=
 ⟨eZ h.next k.next,fun f z G=>(k.same f (jj z h.next) G).trans (h.same f z G)⟩
section
variable{H H':ay}{X:Nat→Prop}
theorem lj.gg{f g Q:Nat}{l:List ak}(h:lj H f g Q l)(z:H'.t.get f=H.t.get f):lj H' f g Q l:=by
 obtain⟨a,b,c,d,e,k,A,h2⟩:=h;exact⟨a,b,c,d,e,k,z.trans A,h2⟩
mutual
theorem bK.step(z:Step X H H'):∀{d:DC}{a:ak},bK H X d a→bK H' X d a
 |.i _ _,_,h=>h
 |.b _,_,h=>h
 |.s _ _,_,h=>h
 |.nil,_,h=>h
 |.raw _ _ _,_,h=>h
 |.sl rows,a,h=>by
  simp only[bK] at h⊢;obtain⟨f,g,off,es,I,h2⟩:=h;refine⟨f,g,off,es,I,h2.imp id fun⟨A,G,q,ho,L⟩=>⟨A,jj G z.next,q,ho,dF.step z A G L⟩⟩
theorem dF.step(z:Step X H H'){f g es:Nat}(A:¬X f)(G:f<H.next):∀{q:Nat}{rows:List (List DC)},dF H X f g es q rows→dF H' X f g es q rows
 |_,[],_=>trivial
 |q,row::r,h=>by
  simp only[dF] at h⊢;obtain⟨⟨l,I,h2,L⟩,M⟩:=h;exact⟨⟨l,I.gg (z.same f G A),h2,bZ.step z L⟩,dF.step z A G M⟩
theorem bZ.step(z:Step X H H'):∀{row:List DC}{l:List ak},bZ H X row l→bZ H' X row l
 |[],_,h=>h
 |d::r,l,h=>by
  simp only[bZ] at h⊢;obtain⟨a,s,A,h2,G⟩:=h;exact⟨a,s,A,bK.step z h2,bZ.step z G⟩
end
theorem dF.get{f g es:Nat}:∀{q:Nat}{rows:List (List DC)},dF H X f g es q rows→∀{i:Nat}{row:List DC},rows[i]?=some row→∃l,lj H f g (q+i) l∧l.length=es∧bZ H X row l
 |q,[],_,i,row,hi=>by simp at hi
 |q,x::r,h,i,row,hi=>by
  simp only[dF] at h
  cases i with
  |zero=>simp at hi;subst hi;exact h.1
  |succ i=>
   obtain⟨l,z,h2⟩:=dF.get h.2 (i:=i) (row:=row) (by simpa using hi);exact⟨l,by rw[show q+(i+1)=q+1+i by omega];exact z,h2⟩
theorem bZ.get:∀{row:List DC}{l:List ak},bZ H X row l→∀{i:Nat}{d:DC},row[i]?=some d→∃a,l[i]?=some a∧bK H X d a
 |[],_,_,i,d,hi=>by simp at hi
 |x::r,l,h,i,d,hi=>by
  simp only[bZ] at h;obtain⟨a,s,rfl,z,h2⟩:=h
  cases i with
  |zero=>simp at hi;subst hi;exact⟨a,rfl,z⟩
  |succ i=>simpa using bZ.get h2 (i:=i) (d:=d) (by simpa using hi)
theorem bZ.length:∀{row:List DC}{l:List ak},bZ H X row l→l.length=row.length
 |[],_,h=>by simp only[bZ] at h;subst h;rfl
 |d::r,l,h=>by
  simp only[bZ] at h;obtain⟨a,s,rfl,_,h2⟩:=h;simp[bZ.length h2]
theorem bK.slice{rows:List (List DC)}{a:ak}(h:bK H X (.sl rows) a):∃f g off es,a= .slice f g off rows.length es∧
  ∀{i:Nat}{row:List DC},rows[i]?=some row→¬X f∧f<H.next∧∃Q l,lj H f g Q l∧l.length=es∧off+i*es=Q*es∧bZ H X row l:=by
 simp only[bK] at h;obtain⟨f,g,off,es,z,h2⟩:=h;refine⟨f,g,off,es,z,fun{i row}hi=>?_⟩;rcases h2 with rfl|⟨A,G,q,ho,I⟩
 ·simp at hi
 obtain⟨l,L,M,O⟩:=I.get hi;exact⟨A,G,q+i,l,L,M,by rw[ho,kI],O⟩
theorem MN{β:Type}{f g Q k n:Nat}{l:List ak}{e:β}{c:List ak→β}(h:lj H f g Q l)(z:k+n≤l.length)(h0:0<n):rd H f g (Q*l.length+k) n e c=c ((l.drop k).take n):=by
 obtain⟨elem,aE,m,lo,fl,cs,A,h2,G,I,L⟩:=h;have M:(Q*l.length+k)/l.length=Q:=by
  rw[qu,Nat.mul_add_div aq,afI aq];rfl
 have O:(Q*l.length+k) % l.length=k:=by
  rw[qu,Nat.mul_add_mod,Em aq]
 unfold rd;rw[A];simp only[iT,sT];rw[show Nat.mod (Q*l.length+k) l.length=k from O,show Nat.div (Q*l.length+k) l.length=Q from M,bj (gW h2),bj (gW G),show Nat.ble (Nat.add k n) l.length=true from gW z,bj rfl,bj (gW I),L,cS]
 split
 ·rename_i U;have:=cD U;have Y:k=0:=by omega
  subst Y;rw[List.drop_zero,o5 aq]
 rfl
theorem QY{call:dG}{E:Env}{n:Nat}{agg:Bool}{a:aI}{f g o:Nat}(z:a.ev E=some (.ptr f g o)):(bm.load n agg a).ev call E H=rd H f g o n (.err 4) fun l=>fN agg l (.err 4) fun v=>.ok v H:=by
 show bo a E (.err 4) (fun v=>gw v (.err 4) fun f g off=>rd H f g off n (.err 4) fun l=>fN agg l (.err 4) fun v=>.ok v H)=_;rw[cR,z,cS];rfl
variable{T:aO}{E:Env}
theorem FK{a:aI}{f g o Q k:Nat}{l:List ak}{x:ak}{R:ak→ay→Prop}(A:a.ev E=some (.ptr f g o))(G:lj H f g Q l)(ho:o=Q*l.length+k)(z:l[k]?=some x)(I:R x H):gF T (.load 1 false a) E H R:=
 eU (fun _=>by
  have L:k<l.length:=(List.getElem?_eq_some_iff.1 z).1;rw[QY A,ho,MN G aq aq];have:(l.drop k).take 1=[x]:=by
   rw[NG L,vh,NI];congr 1;exact(List.getElem?_eq_some_iff.1 z).2
  rw[this];rfl) I
theorem KE{n:Nat}{a:aI}{f g o Q k:Nat}{l:List ak}{R:ak→ay→Prop}(z:a.ev E=some (.ptr f g o))(A:lj H f g Q l)(ho:o=Q*l.length+k)(G:k+n≤l.length)(h0:0<n)(I:R (.agg ((l.drop k).take n)) H):gF T (.load n true a) E H R:=
 eU (fun _=>by rw[QY z,ho,MN A G h0];rfl) I
def DR(H:ay)(f:Nat)(cells:List ak):Prop:=∃elem aE lo cs,H.t.get f=some (.row elem cells.length aE 1 lo 0 cs)∧lo≤1∧cs.get 0=some cells
theorem DR.cells{f:Nat}{l:List ak}(h:DR H f l):lj H f 1 0 l:=by
 obtain⟨a,b,lo,cs,z,h2,A⟩:=h;exact⟨a,b,1,lo,0,cs,z,h2,bt _,wB _,A⟩
theorem DR.gg{f:Nat}{l:List ak}(h:DR H f l)(z:H'.t.get f=H.t.get f):DR H' f l:=by
 obtain⟨a,b,lo,cs,A,h2⟩:=h;exact⟨a,b,lo,cs,z.trans A,h2⟩
def N7(H:ay)(elem aE:Nat)(cells:List ak):ay:=⟨H.next+1,H.aQ,H.ws,H.t.set H.next (.row elem cells.length aE 1 1 0 (.one cells))⟩
theorem boxH_at(elem aE:Nat)(cells:List ak):DR (N7 H elem aE cells) H.next cells:=
 ⟨elem,aE,1,.one cells,by show(H.t.set H.next _).get H.next=_;rw[GT.dn,bj rfl],bt _,rfl⟩
theorem ZK(elem aE:Nat)(cells:List ak):vN H (N7 H elem aE cells):=
 ⟨BE _,rfl,rfl,fun f z=>by show(H.t.set H.next _).get f=_;rw[GT.dn,aZ aq]⟩
theorem alloc_eq(o:cV)(k:Nat→ay→aC):H.alloc o k=k H.next ⟨H.next+1,H.aQ,H.ws,H.t.set H.next o⟩:=by
 cases H with
 |mk next aQ ws t=>
  show cL next (fun f=>t.fr f o fun t=>k f ⟨Nat.succ f,aQ,ws,t⟩)=_;rw[fQ,GT.jc]
theorem wpI_boxz{elem es aE:Nat}{cells:List ak}{R:ak→ay→Prop}(z:cells.length=es)(A:R (.ptr H.next 1 0) (N7 H elem aE cells)):gF T (.pb elem es aE cells) E H R:=
 eU (fun _=>by subst z;show H.alloc (.row elem cells.length aE 1 1 0 (.one cells)) (fun f H=>.ok (.ptr f 1 0) H)=_;rw[alloc_eq];rfl) A
theorem wpI_box{elem es aE:Nat}{x:aI}{v:ak}{cells:List ak}{R:ak→ay→Prop}(z:x.ev E=some v)(A:iD v=some cells)(G:cells.length=es)(I:R (.ptr H.next 1 0) (N7 H elem aE cells)):gF T (.box elem es aE x) E H R:=
 eU (fun _=>by
  subst G;show bo x E (.err 3) (fun v=>ob (iD v) (.err 3) fun l=>aD (Nat.beq (gz l) cells.length) (Bf elem cells.length aE l E H) (.err 3))=_;rw[cR,z,cS,A,cS,oL,show Nat.beq cells.length cells.length=true from ij _,et];show H.alloc (.row elem cells.length aE 1 1 0 (.one cells)) (fun f H=>.ok (.ptr f 1 0) H)=_
  rw[alloc_eq];rfl) I
variable{k:Nat}{Q:Env→ay→Prop}
theorem Zb{call:dG}{o:bl}{bb:List FP}{K:Env→ay→List FP→dD}(z:o.q=none):o.pc call E H bb K=fin o.dst E (fun E H=>K E H bb) (o.op.ev call E H):=by
 unfold bl.pc;rw[z];rfl
theorem uA{call:dG}{d:Option Key}{q:Option (List Nat)}{op:bm}{bb:List FP}{K:Env→ay→List FP→dD}:bl.ji call ⟨d,none,q,op⟩ E H bb K=bl.pc call ⟨d,none,q,op⟩ E H bb K:=rfl
theorem Kw{call:dG}{d:Option Key}{g:Key}{want:Bool}{q:Option (List Nat)}{op:bm}{t:Bool}{bb:List FP}{K:Env→ay→List FP→dD}(z:E.get g=some (.bool t)):
  bl.ji call ⟨d,some (g,want),q,op⟩ E H bb K=if t=want then bl.pc call ⟨d,some (g,want),q,op⟩ E H bb K else K (iK E d .undef) H (nT q bb):=by
 show ob (E.get g) (.err 51) (fun v=>yR v (ib d E H fun E H=>K E H (nT q bb)) fun b=>aD (Bool.xor b want) (ib d E H fun E H=>K E H (nT q bb)) (bl.pc call ⟨d,some (g,want),q,op⟩ E H bb K))=_;rw[z,cS];show aD (Bool.xor t want) (ib d E H fun E H=>K E H (nT q bb)) (bl.pc call ⟨d,some (g,want),q,op⟩ E H bb K)=_;rw[xe]
 cases t<;>cases want<;>rfl
end
abbrev aj:=List (List DC)
end Go.Ev
