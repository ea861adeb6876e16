/- Part 11 of rules for walks through the code of a program, and of such walks; what each part proves is said by its theorems. -/
import Derived.Test.YtdaamclhcpjdpaaGreatDoorR10
set_option linter.unusedVariables false
set_option linter.unusedSimpArgs false
noncomputable section
set_option maxRecDepth 100000
set_option maxHeartbeats 4000000
namespace Go.Ev
def base(P:Program):Ho:=fun f g=>if f<P.globals.size∧g=1 then some ⟨f,0,0,true,IS P f⟩ else none
def H0(n:Nat):aw:=⟨n,0,[],.emp⟩
section
variable{P:Program}{ρ:Ho}{C:Nat→Option cT}{w w':World}{H H':aw}{call:dG}{f n:Nat}{args:List al}{dj:Array Value}{v:al}
theorem pX{f g:Nat}{h:Hm}(e:base P f g=some h):f<P.globals.size∧g=1∧h=⟨f,0,0,true,IS P f⟩:=by
 unfold base at e
 split at e
 ·rename_i k;cases e;exact⟨k.1,k.2,rfl⟩
 cases e
theorem CR(z:xH P w):R (base P) (fun _=>none) w:=by
 refine⟨fun f o h=>(by cases h),fun f g h f' g' h' e A _ _=>?_,fun f g h e=>?_,fun f g h g' h' e A _=>?_,fun f g h e _ G=>?_⟩
 rotate_right
 ·obtain⟨k,_,rfl⟩:=pX e;exact⟨fun g' h' A=>by obtain⟨_,_,rfl⟩:=pX A;rfl,(z f k).2 G⟩
 ·obtain⟨_,_,rfl⟩:=pX e;obtain⟨_,_,rfl⟩:=pX A;exact⟨rfl,rfl⟩
 ·obtain⟨k,_,rfl⟩:=pX e;exact(z f k).1
 obtain⟨_,_,rfl⟩:=pX e;obtain⟨_,_,rfl⟩:=pX A;rfl
theorem PF:vf P (base P):=fun g z=>⟨⟨g,0,0,true,IS P g⟩,by simp[base,z],rfl,rfl,fun h=>⟨rfl,h⟩⟩
theorem Zg(z:P.globals.size≤n)(m:Nat):fk (base P) n m:=fun f g A _=>by
 unfold base;rw[aZ ah]
theorem afz:WF (H0 n):=fun x _=>GT.s7 x
theorem ZY:gE (base P) (fun _=>none) (H0 n):=fun f o _ h=>by
 rw[show(H0 n).t.get f=none from GT.s7 f] at h;cases h
theorem cP.kept{cv:Value}(h:cP (base P) C w H v H' cv w'):Kept w w':=by
 obtain⟨ρ',_,z,_⟩:=h;exact⟨z.os,z.tape,z.output,z.size,fun b A=>z.frame b A fun f g x G I _=>by obtain⟨_,_,rfl⟩:=pX G;cases I⟩
theorem trueOk_of(O:jb P call){I:Nat}(U:P.globals.size≤n)(Y:call I [] (H0 n)= .ok (.bool true) H'):ac8 P I:=fun w L=>by
 have post:∀{cv:Value}{w':World},cP (base P) (fun _=>none) w (H0 n) (.bool true) H' cv w'→cv= .bool true∧Kept w w':=by
  intro cv w' G;have z:=G.kept;obtain⟨_,A,_,_⟩:=G;simp only[VR] at A;exact⟨A,z⟩
 rcases O.sound I [] (H0 n) (.bool true) H' (base P) (fun _=>none) w #[] Y (gT _) afz (CR L) ZY (Zg U _) PF (by simp only[bO]) with⟨M,h2⟩|⟨cv,w',M,h2⟩
 ·exact .inl ⟨M,Calls.mono h2 fun e w'⟨cv,Z,G⟩=>by
   obtain⟨rfl,z⟩:=post G
   exact⟨Z,z⟩⟩
 obtain⟨rfl,z⟩:=post h2;exact .inr ⟨w',M,z⟩
def HR{α:Type}(l:List (Nat×α)):Tr α:=List.rec (motive:=fun _=>Tr α) .leaf (fun p _ z=>z.set p.1 p.2) l
theorem Zh{α:Type}{f:Nat}{x:α}:∀{l:List (Nat×α)},(HR l).get f=some x→(f,x)∈l
 |[],h=>by rw[show HR ([]:List (Nat×α))= .leaf from rfl,Tr.uH] at h;cases h
 |p::r,h=>by
  have h:((HR r).set p.1 p.2).get f=some x:=h;rw[Tr.di] at h
  split at h
  ·rename_i e;cases h;subst e;exact gu ..
  exact m5 _ (Zh h)
def RowOk(P:Program)(p:Nat×aV):Prop:=∃g,P.funcs[p.1]?=some g∧yv P g=some p.2
theorem tabOf_ok{l:List (Nat×aV)}(h:∀p,p∈l→RowOk P p):F3 P (HR l):=fun f fn z=>h (f,fn) (Zh z)
end
def okT(r:aC):Bool:=aC.rec (motive:=fun _=>Bool) (fun v _=>al.rec (motive_1:=fun _=>Bool) (motive_2:=fun _=>Unit) (fun b=>b) (fun _ _=>false) (fun _ _=>false) (fun _ _ _=>false) false (fun _ _ _ _ _=>false) false (fun _ _=>false) (fun _ _=>false) (fun _ _ _ _ _=>false) false (fun _ _ _=>false) false (fun _=>false) false false () (fun _ _ _ _=>()) v) (fun _=>false) r
theorem okT_ok{r:aC}(h:okT r=true):∃H,r= .ok (.bool true) H:=by
 cases r with
 |err n=>cases h
 |ok v H=>
  cases v with
  |bool b=>cases b with
   |true=>exact⟨H,rfl⟩
   |false=>cases h
  |_=>cases h
section
variable{call:dG}{lf:Nat}{E:Env}{H:aw}
theorem params_cons(k:Key)(ks:List Key)(v:al)(l:List al)(E:Env)(c:Env→aC):params (k::ks) (v::l) E c=params ks l (E.set k v) c:=
 T4.i4 E k v fun E=>params ks l E c
theorem region_ev(ops:List bl):(IC.region false ops).ev call lf E H=EP (me call ops E H):=rfl
theorem regionQ_ev(ops:List bl):(IC.region true ops).ev call lf E H=EP (iC call ops E H []):=rfl
theorem RG(a b:IC):(IC.seq a b).ev call lf E H=wP (a.ev call lf E H) (b.ev call lf):=rfl
theorem ac9(E:Env)(H:aw):EP (.ok E H)= .ok .normal E H:=rfl
theorem Yv(E:Env)(H:aw)(k:Env→aw→Out):wP (.ok .normal E H) k=k E H:=rfl
theorem Yw(d:Option Key)(q:Option (List Nat))(op:bn)(r:List bl):me call (⟨d,none,q,op⟩::r) E H=fin d E (me call r) (op.ev call E H):=rfl
theorem KK(d:Key)(v:al)(k:Env→aw→dD):fin (some d) E k (.ok v H)=k (E.set d v) H:=T4.FN E d v fun E=>k E H
theorem fin_none(v:al)(k:Env→aw→dD):fin none E k (.ok v H)=k E H:=rfl
theorem cI{α β:Type}(x:α)(e:β)(k:α→β):ob (some x) e k=k x:=rfl
theorem mov_ev(x:aH):(bn.ch x).ev call E H=ob (x.ev E) (.err 1) fun v=>.ok v H:=cL x E _ _
theorem bin_ev(op:BinOp)(x y:aH):(bn.bin op x y).ev call E H=ob (x.ev E) (.err 6) fun a=>ob (y.ev E) (.err 6) fun b=>ob (Ee op a b) (.err 6) fun v=>.ok v H:=by
 show bk x E (.err 6) (fun a=>bk y E (.err 6) fun b=>Ef op a b fun v=>.ok v H)=_;simp only[cL,KX,wL]
theorem conv_ev(k:IntKind)(x:aH):(bn.conv k x).ev call E H=ob (x.ev E) (.err 36) fun v=>ff v (.err 36) fun _ n=>.ok (.int k (lv k n)) H:=by
 show bk x E (.err 36) (fun v=>ff v (.err 36) fun _ n=>lq (lv k n) fun n=>.ok (.int k n) H)=_;simp only[cL,wK]
theorem onInt_mk(k:IntKind)(n:Int)(e:aC)(f:IntKind→Int→aC):ff (.int k n) e f=f k n:=rfl
def fnEnd(fn:aV)(o:Out):aC:=
 Out.rec (motive:=fun _=>aC) (fun x E H=>Ex.rec (motive:=fun _=>aC) (results E H fn.res) (fun _=>.err 72) (results E H fn.res) x) .err o
theorem evFn_eq(fn:aV)(args:List al)(H:aw):vC call lf fn args H=params fn.ps args .emp fun E=>fnEnd fn (fn.body.ev call lf E H):=rfl
end
theorem Kept.keptBut{w w':World}(h:Kept w w')(may:MemPlace→Prop):w.keptBut w' may:=by
 refine⟨h.os,h.output,fun i hi=>?_⟩;rw[h.uo i hi]
 cases w.heap[i]?with
 |none=>rfl
 |some o=>cases o with
  |cells c t z=>exact⟨rfl,rfl,rfl,fun _ _=>rfl⟩
  |map es clock=>exact .inr ⟨rfl,rfl⟩
  |_=>rfl
theorem low_of_shaped{P:Program}{w:World}(h:w.ShapedOpen P)(I:((List.range P.globals.size).all fun g=>((((begin P (fun _ _=>0) default).world.heap[g]?).bind Obj.row?).isSome))=true):∀g,g<P.globals.size→g<w.heap.size:=by
 intro g z;have A:=List.all_eq_true.1 I g (List.mem_range.2 z)
 cases G:((begin P (fun _ _=>0) default).world.heap[g]?).bind Obj.row? with
 |none=>rw[G] at A;cases A
 |some x=>
  obtain⟨zero,t⟩:=x;obtain⟨cs,L,_⟩:=h.1 g zero t z G;exact(Array.getElem?_eq_some_iff.1 L).1
mutual
def flatD{H:Type}:DataW H→List Value
 |.lit (.int k n)=>[.int k n]
 |.lit (.bool b)=>[.bool b]
 |.lit (.string bs)=>[.string ⟨bs.toArray⟩]
 |.agg parts=>ada parts
 |_=>[]
def ada{H:Type}:List (DataW H)→List Value
 |[]=>[]
 |d::r=>flatD d++ada r
end
def putG(h:Array Obj)(g:Nat)(cs:List Value):Array Obj:=h.modify g fun
 |.cells _ t frozen=>.cells cs.toArray t frozen
 |o=>o
structure aN where
 ft:Tr aV
 xt:Tr Nat
 zt:ZT:=.leaf
def aN.call(T:aN)(lf n:Nat):dG:=sv T.ft T.xt T.zt lf n
def gg(T:aN)(op:bn)(E:Env)(H:aw)(Q:al→aw→Prop):Prop:=∃N v H',(∀lf n,N≤lf→N≤n→op.ev (T.call lf n) E H= .ok v H')∧Q v H'
def oB(T:aN)(ops:List bl)(E:Env)(H:aw)(Q:Env→aw→Prop):Prop:=∃N E' H',(∀lf n,N≤lf→N≤n→me (T.call lf n) ops E H= .ok E' H')∧Q E' H'
def JV(T:aN)(ops:List bl)(E:Env)(H:aw)(bc:List FP)(Q:Env→aw→Prop):Prop:=∃N E' H',(∀lf n,N≤lf→N≤n→iC (T.call lf n) ops E H bc= .ok E' H')∧Q E' H'
def jO(T:aN)(c:IC)(E:Env)(H:aw)(Q:Ex→Env→aw→Prop):Prop:=∃N x E' H',(∀lf n,N≤lf→N≤n→c.ev (T.call lf n) lf E H= .ok x E' H')∧Q x E' H'
def wv(T:aN)(f:Nat)(args:List al)(H:aw)(Q:al→aw→Prop):Prop:=∃N v H',(∀lf n,N≤lf→N≤n→T.call lf n f args H= .ok v H')∧Q v H'
section
variable{T:aN}{E:Env}{H:aw}
theorem wv.mono{f:Nat}{args:List al}{Q z:al→aw→Prop}(h:wv T f args H Q)(k:∀v H',Q v H'→z v H'):wv T f args H z:=
 let⟨N,v,H',a,b⟩:=h;⟨N,v,H',a,k _ _ b⟩
theorem jO.mono{c:IC}{Q z:Ex→Env→aw→Prop}(h:jO T c E H Q)(k:∀x E' H',Q x E' H'→z x E' H'):jO T c E H z:=
 let⟨N,x,E',H',a,b⟩:=h;⟨N,x,E',H',a,k _ _ _ b⟩
theorem eO{op:bn}{v:al}{H':aw}{Q:al→aw→Prop}(h:∀call,op.ev call E H= .ok v H')(z:Q v H'):gg T op E H Q:=⟨0,v,H',fun _ _ _ _=>h _,z⟩
theorem wpI_mov{x:aH}{v:al}{Q:al→aw→Prop}(h:x.ev E=some v)(z:Q v H):gg T (.ch x) E H Q:=
 eO (fun _=>by rw[mov_ev,h,cI]) z
theorem zM{op:BinOp}{x y:aH}{a b v:al}{Q:al→aw→Prop}(z:x.ev E=some a)(A:y.ev E=some b)(h:Ee op a b=some v)(G:Q v H):gg T (.bin op x y) E H Q:=
 eO (fun _=>by rw[bin_ev,z,A,cI,cI,h,cI]) G
theorem wpI_un{op:UnOp}{x:aH}{a v:al}{Q:al→aw→Prop}(z:x.ev E=some a)(h:OH op a=some v)(A:Q v H):gg T (.un op x) E H Q:=
 eO (fun _=>by show bk x E (.err 8) (fun a=>ob (OH op a) (.err 8) fun v=>l6 v fun v=>.ok v H)=_;rw[cL,z,cI,h,cI,wL]) A
theorem F4{c:EM}{neg:Bool}{x y:aH}{a b:al}{r:Bool}{Q:al→aw→Prop}(z:x.ev E=some a)(A:y.ev E=some b)(h:nq c a b=some r)(G:Q (.bool (Bool.xor neg r)) H):gg T (.eqv c neg x y) E H Q:=
 eO (fun _=>by show bk x E (.err 7) (fun a=>bk y E (.err 7) fun b=>ob (nq c a b) (.err 7) fun r=>nH (Bool.xor neg r) fun r=>.ok (.bool r) H)=_;rw[cL,z,cI,cL,A,cI,h,cI,PC]) G
theorem ZZ{c x y:aH}{t:Bool}{v:al}{Q:al→aw→Prop}(A:c.ev E=some (.bool t))(z:(if t then x.ev E else y.ev E)=some v)(G:Q v H):gg T (.pick c x y) E H Q:=
 eO (fun _=>by
  show bk c E (.err 2) (fun v=>uV v (.err 2) fun t=>aD t (kS x E H) (kS y E H))=_;rw[cL,A,cI]
  cases t
  ·show kS y E H=_;have z:y.ev E=some v:=z;unfold kS;rw[cL,z,cI]
  show kS x E H=_;have z:x.ev E=some v:=z
  unfold kS;rw[cL,z,cI]) G
theorem wpI_conv{k z:IntKind}{x:aH}{n:Int}{Q:al→aw→Prop}(A:x.ev E=some (.int z n))(G:Q (.int k (lv k n)) H):gg T (.conv k x) E H Q:=
 eO (fun _=>by rw[conv_ev,A,cI,onInt_mk]) G
theorem Qc{x:aH}{k f g o:Nat}{Q:al→aw→Prop}(z:x.ev E=some (.ptr f g o))(A:Q (.ptr f g (o+k)) H):gg T (.dM x k) E H Q:=
 eO (fun _=>by show bk x E (.err 9) (fun v=>gq v (.err 9) fun f g off=>ct (Nat.add off k) fun off=>.ok (.ptr f g off) H)=_;rw[cL,z,cI];show ct (o+k) (fun off=>aC.ok (.ptr f g off) H)=_;rw[fK]) A
theorem K0{x:aH}{f g o l es:Nat}{Q:al→aw→Prop}(z:x.ev E=some (.slice f g o l es))(A:Q (.int .i64 l) H):gg T (.len x) E H Q:=
 eO (fun _=>by show bk x E (.err 25) (fun v=>eR v (.err 25) (.ok (.int .i64 (.ofNat 0)) H) fun _ _ _ l _=>.ok (.int .i64 (.ofNat l)) H)=_;rw[cL,z,cI];rfl) A
theorem Yx{x:aH}{Q:al→aw→Prop}(z:x.ev E=some .fE)(A:Q (.int .i64 0) H):gg T (.len x) E H Q:=
 eO (fun _=>by show bk x E (.err 25) (fun v=>eR v (.err 25) (.ok (.int .i64 (.ofNat 0)) H) fun _ _ _ l _=>.ok (.int .i64 (.ofNat l)) H)=_;rw[cL,z,cI];rfl) A
theorem Z0{x:aH}{l s:Nat}{Q:al→aw→Prop}(z:x.ev E=some (.str l s))(A:Q (.int .i64 l) H):gg T (.tW x) E H Q:=
 eO (fun _=>by show bk x E (.err 25) (fun v=>jm v (.err 25) fun l _=>.ok (.int .i64 (.ofNat l)) H)=_;rw[cL,z,cI];rfl) A
theorem PO{x i:aH}{es f g o l cV:Nat}{k:IntKind}{j:Nat}{Q:al→aw→Prop}(A:x.ev E=some (.slice f g o l cV))(hi:i.ev E=some (.int k (j:Int)))(G:j<l)(I:Q (.ptr f g (o+j*es)) H):gg T (.iE es x i) E H Q:=
 eO (fun _=>by
  show bk x E (.err 12) (fun v=>eR v (.err 12) (.err 12) fun f g off L _=>bk i E (.err 12) fun z=>idx z L (.err 12) fun j=>ct (Nat.add off (Nat.mul j es)) fun off=>.ok (.ptr f g off) H)=_;rw[cL,A,cI];show bk i E (.err 12) (fun z=>idx z l (.err 12) fun j=>ct (Nat.add o (Nat.mul j es)) fun off=>.ok (.ptr f g off) H)=_;rw[cL,hi,cI];show aD (Nat.ble (Nat.succ j) l) (ct (o+j*es) fun off=>aC.ok (.ptr f g off) H) (aC.err 12)=_
  rw[gF G,dV,fK]) I
theorem wpI_extr{x:aH}{vs:List al}{i:Nat}{v:al}{Q:al→aw→Prop}(z:x.ev E=some (.tuple vs))(hi:vs[i]?=some v)(A:Q v H):gg T (.vA x i) E H Q:=
 eO (fun _=>by show bk x E (.err 18) (fun v=>uM v (.err 18) fun vs=>ob (vs[i]?) (.err 18) fun v=>.ok v H)=_;rw[cL,z,cI];show ob (vs[i]?) (aC.err 18) (fun v=>aC.ok v H)=_;rw[hi,cI]) A
theorem wpI_build{z cs:List al}{ps:List (Nat×Nat×aH)}{Q:al→aw→Prop}(h:p9 E ps z=some cs)(A:Q (.agg cs) H):gg T (.build z ps) E H Q:=
 eO (fun _=>by show ob (p9 E ps z) (aC.err 23) (fun cs=>aC.ok (.agg cs) H)=_;rw[h,cI]) A
theorem Z1{f:Nat}{l:List aH}{vs:List al}{Q:al→aw→Prop}(z:ik E l=some vs)(h:wv T f vs H Q):gg T (.call f l) E H Q:=by
 obtain⟨N,v,H',a,b⟩:=h;exact⟨N,v,H',fun lf n A h2=>by show ob (ik E l) (aC.err 42) (fun vs=>T.call lf n f vs H)=_;rw[z,cI];exact a lf n A h2,b⟩
theorem evs_nil:ik E []=some []:=rfl
theorem Z2{x:aH}{r:List aH}{v:al}{vs:List al}(h:x.ev E=some v)(k:ik E r=some vs):ik E (x::r)=some (v::vs):=by
 show ob (x.ev E) none (fun v=>ob (ik E r) none fun vs=>some (v::vs))=_;rw[h,cI,k,cI]
theorem wpO_nil{Q:Env→aw→Prop}(h:Q E H):oB T [] E H Q:=⟨0,E,H,fun _ _ _ _=>rfl,h⟩
theorem wpO_cons{d:Key}{q:Option (List Nat)}{op:bn}{r:List bl}{Q:Env→aw→Prop}(h:gg T op E H fun v H'=>oB T r (E.set d v) H' Q):oB T (⟨some d,none,q,op⟩::r) E H Q:=by
 obtain⟨N,v,H',a,z,A,G,b,c⟩:=h;refine⟨max N z,A,G,fun lf n I h2=>?_,c⟩;rw[Yw,a lf n ah ah,KK];exact b lf n ah ah
theorem wpO_consN{q:Option (List Nat)}{op:bn}{r:List bl}{Q:Env→aw→Prop}(h:gg T op E H fun _ H'=>oB T r E H' Q):oB T (⟨none,none,q,op⟩::r) E H Q:=by
 obtain⟨N,v,H',a,z,A,G,b,c⟩:=h;refine⟨max N z,A,G,fun lf n I h2=>?_,c⟩;rw[Yw,a lf n ah ah,fin_none];exact b lf n ah ah
theorem YK{call:dG}{d:Option Key}{g:Key}{want:Bool}{q:Option (List Nat)}{op:bn}{t:Bool}{k:Env→aw→dD}(z:E.get g=some (.bool t)):
  bl.step call ⟨d,some (g,want),q,op⟩ E H k=if t=want then fin d E k (op.ev call E H) else k (iJ E d .undef) H:=by
 show ob (E.get g) (.err 51) (fun v=>yp v (hU d E H k) fun b=>aD (Bool.xor b want) (hU d E H k) (bl.run call ⟨d,some (g,want),q,op⟩ E H k))=_;rw[z,cI];show aD (Bool.xor t want) (hU d E H k) (bl.run call ⟨d,some (g,want),q,op⟩ E H k)=_;rw[wR]
 cases t<;>cases want<;>rfl
theorem wpO_skip{d:Key}{g:Key}{want t:Bool}{q:Option (List Nat)}{op:bn}{r:List bl}{Q:Env→aw→Prop}(z:E.get g=some (.bool t))(A:t≠want)(h:oB T r (E.set d .undef) H Q):oB T (⟨some d,some (g,want),q,op⟩::r) E H Q:=by
 obtain⟨G,I,L,b,c⟩:=h;exact⟨G,I,L,fun lf n M h2=>by show bl.step (T.call lf n) ⟨some d,some (g,want),q,op⟩ E H (me (T.call lf n) r)=_;rw[YK z,aZ A];exact b lf n M h2,c⟩
theorem wpO_want{d:Key}{g:Key}{want:Bool}{q:Option (List Nat)}{op:bn}{r:List bl}{Q:Env→aw→Prop}(z:E.get g=some (.bool want))(h:gg T op E H fun v H'=>oB T r (E.set d v) H' Q):oB T (⟨some d,some (g,want),q,op⟩::r) E H Q:=by
 obtain⟨N,v,H',a,A,G,I,b,c⟩:=h;refine⟨max N A,G,I,fun lf n L h2=>?_,c⟩;show bl.step (T.call lf n) ⟨some d,some (g,want),q,op⟩ E H (me (T.call lf n) r)=_;rw[YK z,bh rfl,a lf n ah ah,KK];exact b lf n ah ah
theorem wpC_seq{a b:IC}{Q:Ex→Env→aw→Prop}(h:jO T a E H fun x E' H'=>(x= .normal→jO T b E' H' Q)∧(x≠.normal→Q x E' H')):jO T (.seq a b) E H Q:=by
 obtain⟨N,x,E1,H1,G,h2,I⟩:=h
 cases x with
 |normal=>
  obtain⟨L,x2,M,O,U,Y⟩:=h2 rfl;refine⟨max N L,x2,M,O,fun lf n z A=>?_,Y⟩;rw[RG,G lf n ah ah,Yv];exact U lf n ah ah
 |exit id=>exact⟨N,_,E1,H1,fun lf n z A=>by rw[RG,G lf n z A];rfl,I (by simp)⟩
 |ret=>exact⟨N,_,E1,H1,fun lf n z A=>by rw[RG,G lf n z A];rfl,I (by simp)⟩
theorem wpC_region{ops:List bl}{Q:Ex→Env→aw→Prop}(h:oB T ops E H fun E' H'=>Q .normal E' H'):jO T (.region false ops) E H Q:=by
 obtain⟨N,E1,H1,z,h2⟩:=h;exact⟨N,_,E1,H1,fun lf n A G=>by rw[region_ev,z lf n A G,ac9],h2⟩
theorem wpC_regionQ{ops:List bl}{Q:Ex→Env→aw→Prop}(h:JV T ops E H [] fun E' H'=>Q .normal E' H'):jO T (.region true ops) E H Q:=by
 obtain⟨N,E1,H1,z,h2⟩:=h;exact⟨N,_,E1,H1,fun lf n A G=>by rw[regionQ_ev,z lf n A G,ac9],h2⟩
theorem wpC_skip{Q:Ex→Env→aw→Prop}(h:Q .normal E H):jO T .skip E H Q:=⟨0,_,E,H,fun _ _ _ _=>rfl,h⟩
theorem wpC_exit{id:Nat}{Q:Ex→Env→aw→Prop}(h:Q (.exit id) E H):jO T (.exit id) E H Q:=⟨0,_,E,H,fun _ _ _ _=>rfl,h⟩
theorem wpC_ret{Q:Ex→Env→aw→Prop}(h:Q .ret E H):jO T .ret E H Q:=⟨0,_,E,H,fun _ _ _ _=>rfl,h⟩
theorem KL{c:aH}{a b:IC}{t:Bool}{Q:Ex→Env→aw→Prop}(L:c.ev E=some (.bool t))(M:t=true→jO T a E H Q)(h2:t=false→jO T b E H Q):jO T (.cond c a b) E H Q:=by
 have key:∀lf n,(IC.cond c a b).ev (T.call lf n) lf E H=if t=true then a.ev (T.call lf n) lf E H else b.ev (T.call lf n) lf E H:=fun lf n=>by
  show ob (c.ev E) (.err 61) (fun v=>aaH v (.err 61) fun t=>aD t (a.ev (T.call lf n) lf E H) (b.ev (T.call lf n) lf E H))=_;rw[L,cI]
  cases t<;>rfl
 cases t with
 |true=>obtain⟨N,x,E1,H1,z,A⟩:=M rfl;exact⟨N,x,E1,H1,fun lf n G I=>by rw[key,bh rfl];exact z lf n G I,A⟩
 |false=>obtain⟨N,x,E1,H1,z,A⟩:=h2 rfl;exact⟨N,x,E1,H1,fun lf n G I=>by rw[key,aZ (by simp)];exact z lf n G I,A⟩
def OT(id:Nat):Ex→Ex
 |.exit j=>if j=id then .normal else .exit j
 |x=>x
theorem wpC_block{id:Nat}{c:IC}{Q:Ex→Env→aw→Prop}(h:jO T c E H fun x E' H'=>Q (OT id x) E' H'):jO T (.block id c) E H Q:=by
 obtain⟨N,x,E1,H1,z,h2⟩:=h;refine⟨N,OT id x,E1,H1,fun lf n A G=>?_,h2⟩;show Gx id c (c.ev (T.call lf n) lf) E H=_;unfold Gx;rw[z lf n A G]
 cases x with
 |normal=>rfl
 |ret=>rfl
 |exit j=>
  show aD (Nat.beq j id) (Out.ok .normal E1 H1) (.ok (.exit j) E1 H1)=Out.ok (if j=id then .normal else .exit j) E1 H1
  by_cases h:j=id
  ·rw[bh h,h,show Nat.beq id id=true from ia id];rfl
  rw[aZ h]
  cases I:Nat.beq j id
  ·rfl
  exact absurd (cq I) h
theorem wpC_loop{c:IC}{Q:Ex→Env→aw→Prop}(I:Nat→Env→aw→Prop)(Y:∀k E H,I k E H→jO T c E H fun x E' H'=>(x= .normal→∃j,j<k∧I j E' H')∧(x≠.normal→Q x E' H')):
  ∀k E H,I k E H→jO T (.loop c) E H Q:=by
 have main:∀k E H,I k E H→∃N x E' H',(∀lf n m,N≤lf→N≤n→N≤m→xF (c.ev (T.call lf n) lf) m E H= .ok x E' H')∧Q x E' H':=by
  intro k
  induction k using Nat.strongRecOn with
  |_ k Z=>
   intro E H h;obtain⟨N,x,E1,H1,A,h2,O⟩:=Y k E H h;have key:∀lf n m,N≤lf→N≤n→xF (c.ev (T.call lf n) lf) (m+1) E H=wP (.ok x E1 H1) (xF (c.ev (T.call lf n) lf) m):=fun lf n m G L=>by
    show wP (c.ev (T.call lf n) lf E H) (xF (c.ev (T.call lf n) lf) m)=_;rw[A lf n G L]
   cases x with
   |normal=>
    obtain⟨j,hj,M⟩:=h2 rfl;obtain⟨N2,x2,E2,H2,k1,k2⟩:=Z j hj E1 H1 M;refine⟨max N N2+1,x2,E2,H2,fun lf n m G L U=>?_,k2⟩;obtain⟨m,rfl⟩:∃z,m=z+1:=⟨m-1,ah⟩;rw[key lf n m ah ah,Yv];exact k1 lf n m ah ah ah
   |exit id=>
    refine⟨N+1,_,E1,H1,fun lf n m G L U=>?_,O (by simp)⟩;obtain⟨m,rfl⟩:∃z,m=z+1:=⟨m-1,ah⟩;rw[key lf n m ah ah];rfl
   |ret=>
    refine⟨N+1,_,E1,H1,fun lf n m G L U=>?_,O (by simp)⟩;obtain⟨m,rfl⟩:∃z,m=z+1:=⟨m-1,ah⟩;rw[key lf n m ah ah];rfl
 intro k E H h;obtain⟨N,x,E',H',a,b⟩:=main k E H h;exact⟨N,x,E',H',fun lf n A h2=>a lf n lf A h2 A,b⟩
def NW(ks:List Key):List al→Env→Env:=
 List.rec (motive:=fun _=>List al→Env→Env) (fun _ E=>E) (fun k _ z l E=>List.rec (motive:=fun _=>Env) E (fun v r _=>z r (E.set k v)) l) ks
theorem Zi:∀(ks:List Key)(l:List al)(E:Env)(c:Env→aC),ks.length=l.length→params ks l E c=c (NW ks l E)
 |[],[],E,c,_=>rfl
 |k::ks,v::l,E,c,h=>by rw[params_cons,Zi ks l _ c (by simpa using h)];rfl
 |[],_::_,_,_,h=>by simp at h
 |_::_,[],_,_,h=>by simp at h
theorem wpF_fn{f:Nat}{fn:aV}{args:List al}{Q:al→aw→Prop}(A:T.ft.get f=some fn)(G:fn.ps.length=args.length)
  (h:jO T fn.body (NW fn.ps args .emp) H fun x E' H'=>(∀id,x≠.exit id)∧∃v,results E' H' fn.res= .ok v H'∧Q v H'):wv T f args H Q:=by
 obtain⟨N,x,E1,H1,I,h2,v,z,L⟩:=h;refine⟨N+1,v,H1,fun lf n M O=>?_,L⟩;obtain⟨n,rfl⟩:∃n',n=n'+1:=⟨n-1,ah⟩;show ob (T.ft.get f) _ (fun fn=>vC (T.call lf n) lf fn args H)=_;rw[A,cI,evFn_eq,Zi _ _ _ _ G,I lf n ah ah]
 cases x with
 |normal=>exact z
 |ret=>exact z
 |exit id=>exact absurd rfl (h2 id)
end
inductive DC where
 |i (k:IntKind) (n:Int)
 |b (b:Bool)
 |s (l v:Nat)
 |nil
 |sl (rows:List (List DC))
 |raw (f n es:Nat)
def lj(H:aw)(f g Q:Nat)(l:List al):Prop:=
 ∃elem aF m lo fl cs,H.t.get f=some (.row elem l.length aF m lo fl cs)∧lo≤g∧g≤m∧Q<g∧cs.get Q=some l
mutual
def bH(H:aw)(X:Nat→Prop):DC→al→Prop
 |.i k n,a=>a= .int k n
 |.b b,a=>a= .bool b
 |.s l v,a=>a= .str l v
 |.nil,a=>a= .fE
 |.raw f n es,a=>a= .slice f n 0 n es
 |.sl rows,a=>∃f g off es,a= .slice f g off rows.length es∧(rows=[]∨¬X f∧f<H.next∧∃q,off=q*es∧dF H X f g es q rows)
def dF(H:aw)(X:Nat→Prop)(f g es:Nat):Nat→List (List DC)→Prop
 |_,[]=>True
 |q,row::r=>(∃l,lj H f g q l∧l.length=es∧bU H X row l)∧dF H X f g es (q+1) r
def bU(H:aw)(X:Nat→Prop):List DC→List al→Prop
 |[],l=>l=[]
 |d::r,l=>∃a s,l=a::s∧bH H X d a∧bU H X r s
end
structure vF(H H':aw):Prop where
 next:H.next≤H'.next
 aQ:H'.aQ=H.aQ
 ws:H'.ws=H.ws
 same:∀f,f<H.next→H'.t.get f=H.t.get f
theorem vF.refl(H:aw):vF H H:=⟨bq _,rfl,rfl,fun _ _=>rfl⟩
theorem vF.trans{A B C:aw}(h:vF A B)(k:vF B C):vF A C:=
 ⟨eZ h.next k.next,k.aQ.trans h.aQ,k.ws.trans h.ws,fun f z=>(k.same f (jg z h.next)).trans (h.same f z)⟩
structure Step(X:Nat→Prop)(H H':aw):Prop where
 next:H.next≤H'.next
 same:∀f,f<H.next→¬X f→H'.t.get f=H.t.get f
theorem Step.refl(X:Nat→Prop)(H:aw):Step X H H:=⟨bq _,fun _ _ _=>rfl⟩
theorem vF.step{H H':aw}(h:vF H H')(X:Nat→Prop):Step X H H':=⟨h.next,fun f z _=>h.same f z⟩
theorem Step.trans{X:Nat→Prop}{A B C:aw}(h:Step X A B)(k:Step X B C):Step X A C:=
 ⟨eZ h.next k.next,fun f z G=>(k.same f (jg z h.next) G).trans (h.same f z G)⟩
section
variable{H H':aw}{X:Nat→Prop}
theorem lj.fX{f g Q:Nat}{l:List al}(h:lj H f g Q l)(z:H'.t.get f=H.t.get f):lj H' f g Q l:=by
 obtain⟨a,b,c,d,e,k,A,h2⟩:=h;exact⟨a,b,c,d,e,k,z.trans A,h2⟩
mutual
theorem bH.step(z:Step X H H'):∀{d:DC}{a:al},bH H X d a→bH H' X d a
 |.i _ _,_,h=>h
 |.b _,_,h=>h
 |.s _ _,_,h=>h
 |.nil,_,h=>h
 |.raw _ _ _,_,h=>h
 |.sl rows,a,h=>by
  simp only[bH] at h⊢;obtain⟨f,g,off,es,I,h2⟩:=h;refine⟨f,g,off,es,I,h2.imp id fun⟨A,G,q,ho,L⟩=>⟨A,jg G z.next,q,ho,dF.step z A G L⟩⟩
theorem dF.step(z:Step X H H'){f g es:Nat}(A:¬X f)(G:f<H.next):∀{q:Nat}{rows:List (List DC)},dF H X f g es q rows→dF H' X f g es q rows
 |_,[],_=>trivial
 |q,row::r,h=>by
  simp only[dF] at h⊢;obtain⟨⟨l,I,h2,L⟩,M⟩:=h;exact⟨⟨l,I.fX (z.same f G A),h2,bU.step z L⟩,dF.step z A G M⟩
theorem bU.step(z:Step X H H'):∀{row:List DC}{l:List al},bU H X row l→bU H' X row l
 |[],_,h=>h
 |d::r,l,h=>by
  simp only[bU] at h⊢;obtain⟨a,s,A,h2,G⟩:=h;exact⟨a,s,A,bH.step z h2,bU.step z G⟩
end
theorem dF.get{f g es:Nat}:∀{q:Nat}{rows:List (List DC)},dF H X f g es q rows→∀{i:Nat}{row:List DC},rows[i]?=some row→∃l,lj H f g (q+i) l∧l.length=es∧bU H X row l
 |q,[],_,i,row,hi=>by simp at hi
 |q,x::r,h,i,row,hi=>by
  simp only[dF] at h
  cases i with
  |zero=>simp at hi;subst hi;exact h.1
  |succ i=>
   obtain⟨l,z,h2⟩:=dF.get h.2 (i:=i) (row:=row) (by simpa using hi);exact⟨l,by rw[show q+(i+1)=q+1+i by omega];exact z,h2⟩
theorem bU.get:∀{row:List DC}{l:List al},bU H X row l→∀{i:Nat}{d:DC},row[i]?=some d→∃a,l[i]?=some a∧bH H X d a
 |[],_,_,i,d,hi=>by simp at hi
 |x::r,l,h,i,d,hi=>by
  simp only[bU] at h;obtain⟨a,s,rfl,z,h2⟩:=h
  cases i with
  |zero=>simp at hi;subst hi;exact⟨a,rfl,z⟩
  |succ i=>simpa using bU.get h2 (i:=i) (d:=d) (by simpa using hi)
theorem bU.length:∀{row:List DC}{l:List al},bU H X row l→l.length=row.length
 |[],_,h=>by simp only[bU] at h;subst h;rfl
 |d::r,l,h=>by
  simp only[bU] at h;obtain⟨a,s,rfl,_,h2⟩:=h;simp[bU.length h2]
theorem bH.slice{rows:List (List DC)}{a:al}(h:bH H X (.sl rows) a):∃f g off es,a= .slice f g off rows.length es∧
  ∀{i:Nat}{row:List DC},rows[i]?=some row→¬X f∧f<H.next∧∃Q l,lj H f g Q l∧l.length=es∧off+i*es=Q*es∧bU H X row l:=by
 simp only[bH] at h;obtain⟨f,g,off,es,z,h2⟩:=h;refine⟨f,g,off,es,z,fun{i row}hi=>?_⟩;rcases h2 with rfl|⟨A,G,q,ho,I⟩
 ·simp at hi
 obtain⟨l,L,M,O⟩:=I.get hi;exact⟨A,G,q+i,l,L,M,by rw[ho,ku],O⟩
theorem My{β:Type}{f g Q k n:Nat}{l:List al}{e:β}{c:List al→β}(h:lj H f g Q l)(z:k+n≤l.length)(h0:0<n):rd H f g (Q*l.length+k) n e c=c ((l.drop k).take n):=by
 obtain⟨elem,aF,m,lo,fl,cs,A,h2,G,I,L⟩:=h;have M:(Q*l.length+k)/l.length=Q:=by
  rw[qC,Nat.mul_add_div ah,afq ah];rfl
 have O:(Q*l.length+k) % l.length=k:=by
  rw[qC,Nat.mul_add_mod,DU ah]
 unfold rd;rw[A];simp only[iR,tc];rw[show Nat.mod (Q*l.length+k) l.length=k from O,show Nat.div (Q*l.length+k) l.length=Q from M,bh (gF h2),bh (gF G),show Nat.ble (Nat.add k n) l.length=true from gF z,bh rfl,bh (gF I),L,cI]
 split
 ·rename_i U;have:=cq U;have Y:k=0:=by omega
  subst Y;rw[List.drop_zero,mq ah]
 rfl
theorem QI{call:dG}{E:Env}{n:Nat}{agg:Bool}{a:aH}{f g o:Nat}(z:a.ev E=some (.ptr f g o)):(bn.load n agg a).ev call E H=rd H f g o n (.err 4) fun l=>fH agg l (.err 4) fun v=>.ok v H:=by
 show bk a E (.err 4) (fun v=>gq v (.err 4) fun f g off=>rd H f g off n (.err 4) fun l=>fH agg l (.err 4) fun v=>.ok v H)=_;rw[cL,z,cI];rfl
variable{T:aN}{E:Env}
theorem Fv{a:aH}{f g o Q k:Nat}{l:List al}{x:al}{R:al→aw→Prop}(A:a.ev E=some (.ptr f g o))(G:lj H f g Q l)(ho:o=Q*l.length+k)(z:l[k]?=some x)(I:R x H):gg T (.load 1 false a) E H R:=
 eO (fun _=>by
  have L:k<l.length:=(List.getElem?_eq_some_iff.1 z).1;rw[QI A,ho,My G ah ah];have:(l.drop k).take 1=[x]:=by
   rw[IA L,xD,Nx];congr 1;exact(List.getElem?_eq_some_iff.1 z).2
  rw[this];rfl) I
theorem Ky{n:Nat}{a:aH}{f g o Q k:Nat}{l:List al}{R:al→aw→Prop}(z:a.ev E=some (.ptr f g o))(A:lj H f g Q l)(ho:o=Q*l.length+k)(G:k+n≤l.length)(h0:0<n)(I:R (.agg ((l.drop k).take n)) H):gg T (.load n true a) E H R:=
 eO (fun _=>by rw[QI z,ho,My A G h0];rfl) I
def Dp(H:aw)(f:Nat)(cells:List al):Prop:=∃elem aF lo cs,H.t.get f=some (.row elem cells.length aF 1 lo 0 cs)∧lo≤1∧cs.get 0=some cells
theorem Dp.cells{f:Nat}{l:List al}(h:Dp H f l):lj H f 1 0 l:=by
 obtain⟨a,b,lo,cs,z,h2,A⟩:=h;exact⟨a,b,1,lo,0,cs,z,h2,bq _,wb _,A⟩
theorem Dp.fX{f:Nat}{l:List al}(h:Dp H f l)(z:H'.t.get f=H.t.get f):Dp H' f l:=by
 obtain⟨a,b,lo,cs,A,h2⟩:=h;exact⟨a,b,lo,cs,z.trans A,h2⟩
def NX(H:aw)(elem aF:Nat)(cells:List al):aw:=⟨H.next+1,H.aQ,H.ws,H.t.set H.next (.row elem cells.length aF 1 1 0 (.one cells))⟩
theorem boxH_at(elem aF:Nat)(cells:List al):Dp (NX H elem aF cells) H.next cells:=
 ⟨elem,aF,1,.one cells,by show(H.t.set H.next _).get H.next=_;rw[GT.di,bh rfl],bq _,rfl⟩
theorem Zj(elem aF:Nat)(cells:List al):vF H (NX H elem aF cells):=
 ⟨A5 _,rfl,rfl,fun f z=>by show(H.t.set H.next _).get f=_;rw[GT.di,aZ ah]⟩
theorem alloc_eq(o:cT)(k:Nat→aw→aC):H.alloc o k=k H.next ⟨H.next+1,H.aQ,H.ws,H.t.set H.next o⟩:=by
 cases H with
 |mk next aQ ws t=>
  show ct next (fun f=>t.fh f o fun t=>k f ⟨Nat.succ f,aQ,ws,t⟩)=_;rw[fK,GT.i4]
theorem wpI_boxz{elem es aF:Nat}{cells:List al}{R:al→aw→Prop}(z:cells.length=es)(A:R (.ptr H.next 1 0) (NX H elem aF cells)):gg T (.pf elem es aF cells) E H R:=
 eO (fun _=>by subst z;show H.alloc (.row elem cells.length aF 1 1 0 (.one cells)) (fun f H=>.ok (.ptr f 1 0) H)=_;rw[alloc_eq];rfl) A
theorem wpI_box{elem es aF:Nat}{x:aH}{v:al}{cells:List al}{R:al→aw→Prop}(z:x.ev E=some v)(A:iB v=some cells)(G:cells.length=es)(I:R (.ptr H.next 1 0) (NX H elem aF cells)):gg T (.box elem es aF x) E H R:=
 eO (fun _=>by
  subst G;show bk x E (.err 3) (fun v=>ob (iB v) (.err 3) fun l=>aD (Nat.beq (gv l) cells.length) (AF elem cells.length aF l E H) (.err 3))=_;rw[cL,z,cI,A,cI,oO,show Nat.beq cells.length cells.length=true from ia _,dV];show H.alloc (.row elem cells.length aF 1 1 0 (.one cells)) (fun f H=>.ok (.ptr f 1 0) H)=_
  rw[alloc_eq];rfl) I
variable{k:Nat}{Q:Env→aw→Prop}
theorem YL{call:dG}{o:bl}{bc:List FP}{K:Env→aw→List FP→dD}(z:o.q=none):o.pg call E H bc K=fin o.dst E (fun E H=>K E H bc) (o.op.ev call E H):=by
 unfold bl.pg;rw[z];rfl
theorem uB{call:dG}{d:Option Key}{q:Option (List Nat)}{op:bn}{bc:List FP}{K:Env→aw→List FP→dD}:bl.jd call ⟨d,none,q,op⟩ E H bc K=bl.pg call ⟨d,none,q,op⟩ E H bc K:=rfl
theorem Kp{call:dG}{d:Option Key}{g:Key}{want:Bool}{q:Option (List Nat)}{op:bn}{t:Bool}{bc:List FP}{K:Env→aw→List FP→dD}(z:E.get g=some (.bool t)):
  bl.jd call ⟨d,some (g,want),q,op⟩ E H bc K=if t=want then bl.pg call ⟨d,some (g,want),q,op⟩ E H bc K else K (iJ E d .undef) H (nX q bc):=by
 show ob (E.get g) (.err 51) (fun v=>yp v (hU d E H fun E H=>K E H (nX q bc)) fun b=>aD (Bool.xor b want) (hU d E H fun E H=>K E H (nX q bc)) (bl.pg call ⟨d,some (g,want),q,op⟩ E H bc K))=_;rw[z,cI];show aD (Bool.xor t want) (hU d E H fun E H=>K E H (nX q bc)) (bl.pg call ⟨d,some (g,want),q,op⟩ E H bc K)=_;rw[wR]
 cases t<;>cases want<;>rfl
end
abbrev ak:=List (List DC)
end Go.Ev
