/- Part 7 of rules for walks through the code of a program, and of such walks; what each part proves is said by its theorems. -/
import Derived.Test.YtmpoloiempjdpaaGreatS6
set_option linter.unusedVariables false
set_option linter.unusedSimpArgs false
noncomputable section
set_option maxRecDepth 100000
set_option maxHeartbeats 4000000
namespace Go.Ev
section
variable{call:dQ}{lf:Nat}{E:Env}{H:ax}
theorem params_cons(k:Key)(ks:List Key)(v:ai)(l:List ai)(E:Env)(c:Env→aD):params (k::ks) (v::l) E c=params ks l (E.set k v) c:=
 T4.jO E k v fun E=>params ks l E c
theorem region_ev(ops:List bl):(IC.region false ops).ev call lf E H=EU (nc call ops E H):=rfl
theorem regionQ_ev(ops:List bl):(IC.region true ops).ev call lf E H=EU (iS call ops E H []):=rfl
theorem Sz(a b:IC):(IC.seq a b).ev call lf E H=xo (a.ev call lf E H) (b.ev call lf):=rfl
theorem ad4(E:Env)(H:ax):EU (.ok E H)= .ok .normal E H:=rfl
theorem Zd(E:Env)(H:ax)(k:Env→ax→Out):xo (.ok .normal E H) k=k E H:=rfl
theorem Ze(d:Option Key)(q:Option (List Nat))(op:br)(r:List bl):nc call (⟨d,none,q,op⟩::r) E H=fin d E (nc call r) (op.ev call E H):=rfl
theorem KW(d:Key)(v:ai)(k:Env→ax→dO):fin (some d) E k (.ok v H)=k (E.set d v) H:=T4.FZ E d v fun E=>k E H
theorem fin_none(v:ai)(k:Env→ax→dO):fin none E k (.ok v H)=k E H:=rfl
theorem cA{α β:Type}(x:α)(e:β)(k:α→β):ob (some x) e k=k x:=rfl
theorem mov_ev(x:aG):(br.eb x).ev call E H=ob (x.ev E) (.err 1) fun v=>.ok v H:=cQ x E _ _
theorem bin_ev(op:BinOp)(x y:aG):(br.bin op x y).ev call E H=ob (x.ev E) (.err 6) fun a=>ob (y.ev E) (.err 6) fun b=>ob (Ei op a b) (.err 6) fun v=>.ok v H:=by
 show bq x E (.err 6) (fun a=>bq y E (.err 6) fun b=>Ej op a b fun v=>.ok v H)=_;simp only[cQ,K8,xk]
theorem conv_ev(k:IntKind)(x:aG):(br.conv k x).ev call E H=ob (x.ev E) (.err 36) fun v=>fG v (.err 36) fun _ n=>.ok (.int k (mf k n)) H:=by
 show bq x E (.err 36) (fun v=>fG v (.err 36) fun _ n=>mb (mf k n) fun n=>.ok (.int k n) H)=_;simp only[cQ,xj]
theorem onInt_mk(k:IntKind)(n:Int)(e:aD)(f:IntKind→Int→aD):fG (.int k n) e f=f k n:=rfl
def fnEnd(fn:aQ)(o:Out):aD:=
 Out.rec (motive:=fun _=>aD) (fun x E H=>Ex.rec (motive:=fun _=>aD) (results E H fn.res) (fun _=>.err 72) (results E H fn.res) x) .err o
theorem evFn_eq(fn:aQ)(args:List ai)(H:ax):vU call lf fn args H=params fn.ps args .emp fun E=>fnEnd fn (fn.body.ev call lf E H):=rfl
end
theorem Kept.keptBut{w w':World}(h:Kept w w')(may:MemPlace→Prop):w.keptBut w' may:=by
 refine⟨h.os,h.output,fun i hi=>?_⟩;rw[h.uG i hi]
 cases w.heap[i]?with
 |none=>rfl
 |some o=>cases o with
  |cells c t z=>exact⟨rfl,rfl,rfl,fun _ _=>rfl⟩
  |map es clock=>exact .inr ⟨rfl,rfl⟩
  |_=>rfl
mutual
def flatD{H:Type}:DataW H→List Value
 |.lit (.int k n)=>[.int k n]
 |.lit (.bool b)=>[.bool b]
 |.lit (.string bs)=>[.string ⟨bs.toArray⟩]
 |.agg parts=>ad5 parts
 |_=>[]
def ad5{H:Type}:List (DataW H)→List Value
 |[]=>[]
 |d::r=>flatD d++ad5 r
end
structure aL where
 ft:Tr aQ
 xt:Tr Nat
 zt:ZT:=.leaf
def aL.call(T:aL)(lf n:Nat):dQ:=sZ T.ft T.xt T.zt lf n
def gF(T:aL)(op:br)(E:Env)(H:ax)(Q:ai→ax→Prop):Prop:=∃N v H',(∀lf n,N≤lf→N≤n→op.ev (T.call lf n) E H= .ok v H')∧Q v H'
def oj(T:aL)(ops:List bl)(E:Env)(H:ax)(Q:Env→ax→Prop):Prop:=∃N E' H',(∀lf n,N≤lf→N≤n→nc (T.call lf n) ops E H= .ok E' H')∧Q E' H'
def J5(T:aL)(ops:List bl)(E:Env)(H:ax)(bf:List FP)(Q:Env→ax→Prop):Prop:=∃N E' H',(∀lf n,N≤lf→N≤n→iS (T.call lf n) ops E H bf= .ok E' H')∧Q E' H'
def jZ(T:aL)(c:IC)(E:Env)(H:ax)(Q:Ex→Env→ax→Prop):Prop:=∃N x E' H',(∀lf n,N≤lf→N≤n→c.ev (T.call lf n) lf E H= .ok x E' H')∧Q x E' H'
def uH(T:aL)(f:Nat)(args:List ai)(H:ax)(Q:ai→ax→Prop):Prop:=∃N v H',(∀lf n,N≤lf→N≤n→T.call lf n f args H= .ok v H')∧Q v H'
section
variable{T:aL}{E:Env}{H:ax}
theorem uH.mono{f:Nat}{args:List ai}{Q z:ai→ax→Prop}(h:uH T f args H Q)(k:∀v H',Q v H'→z v H'):uH T f args H z:=
 let⟨N,v,H',a,b⟩:=h;⟨N,v,H',a,k _ _ b⟩
theorem jZ.mono{c:IC}{Q z:Ex→Env→ax→Prop}(h:jZ T c E H Q)(k:∀x E' H',Q x E' H'→z x E' H'):jZ T c E H z:=
 let⟨N,x,E',H',a,b⟩:=h;⟨N,x,E',H',a,k _ _ _ b⟩
theorem eG{op:br}{v:ai}{H':ax}{Q:ai→ax→Prop}(h:∀call,op.ev call E H= .ok v H')(z:Q v H'):gF T op E H Q:=⟨0,v,H',fun _ _ _ _=>h _,z⟩
theorem wpI_mov{x:aG}{v:ai}{Q:ai→ax→Prop}(h:x.ev E=some v)(z:Q v H):gF T (.eb x) E H Q:=
 eG (fun _=>by rw[mov_ev,h,cA]) z
theorem Ab{op:BinOp}{x y:aG}{a b v:ai}{Q:ai→ax→Prop}(z:x.ev E=some a)(A:y.ev E=some b)(h:Ei op a b=some v)(G:Q v H):gF T (.bin op x y) E H Q:=
 eG (fun _=>by rw[bin_ev,z,A,cA,cA,h,cA]) G
theorem wpI_un{op:UnOp}{x:aG}{a v:ai}{Q:ai→ax→Prop}(z:x.ev E=some a)(h:Pt op a=some v)(A:Q v H):gF T (.un op x) E H Q:=
 eG (fun _=>by show bq x E (.err 8) (fun a=>ob (Pt op a) (.err 8) fun v=>mU v fun v=>.ok v H)=_;rw[cQ,z,cA,h,cA,xk]) A
theorem Lb{c:EP}{neg:Bool}{x y:aG}{a b:ai}{r:Bool}{Q:ai→ax→Prop}(z:x.ev E=some a)(A:y.ev E=some b)(h:qc c a b=some r)(G:Q (.bool (Bool.xor neg r)) H):gF T (.eqv c neg x y) E H Q:=
 eG (fun _=>by show bq x E (.err 7) (fun a=>bq y E (.err 7) fun b=>ob (qc c a b) (.err 7) fun r=>po (Bool.xor neg r) fun r=>.ok (.bool r) H)=_;rw[cQ,z,cA,cQ,A,cA,h,cA,Qy]) G
theorem aaN{c x y:aG}{t:Bool}{v:ai}{Q:ai→ax→Prop}(A:c.ev E=some (.bool t))(z:(if t then x.ev E else y.ev E)=some v)(G:Q v H):gF T (.pick c x y) E H Q:=
 eG (fun _=>by
  show bq c E (.err 2) (fun v=>vm v (.err 2) fun t=>aJ t (oX x E H) (oX y E H))=_;rw[cQ,A,cA]
  cases t
  ·show oX y E H=_;have z:y.ev E=some v:=z;unfold oX;rw[cQ,z,cA]
  show oX x E H=_;have z:x.ev E=some v:=z
  unfold oX;rw[cQ,z,cA]) G
theorem wpI_conv{k z:IntKind}{x:aG}{n:Int}{Q:ai→ax→Prop}(A:x.ev E=some (.int z n))(G:Q (.int k (mf k n)) H):gF T (.conv k x) E H Q:=
 eG (fun _=>by rw[conv_ev,A,cA,onInt_mk]) G
theorem Q6{x:aG}{k f g o:Nat}{Q:ai→ax→Prop}(z:x.ev E=some (.ptr f g o))(A:Q (.ptr f g (o+k)) H):gF T (.eY x k) E H Q:=
 eG (fun _=>by show bq x E (.err 9) (fun v=>jk v (.err 9) fun f g off=>ch (Nat.add off k) fun off=>.ok (.ptr f g off) H)=_;rw[cQ,z,cA];show ch (o+k) (fun off=>aD.ok (.ptr f g off) H)=_;rw[fc]) A
theorem Lc{x:aG}{f g o l es:Nat}{Q:ai→ax→Prop}(z:x.ev E=some (.slice f g o l es))(A:Q (.int .i64 l) H):gF T (.len x) E H Q:=
 eG (fun _=>by show bq x E (.err 25) (fun v=>fy v (.err 25) (.ok (.int .i64 (.ofNat 0)) H) fun _ _ _ l _=>.ok (.int .i64 (.ofNat l)) H)=_;rw[cQ,z,cA];rfl) A
theorem Zf{x:aG}{Q:ai→ax→Prop}(z:x.ev E=some .fV)(A:Q (.int .i64 0) H):gF T (.len x) E H Q:=
 eG (fun _=>by show bq x E (.err 25) (fun v=>fy v (.err 25) (.ok (.int .i64 (.ofNat 0)) H) fun _ _ _ l _=>.ok (.int .i64 (.ofNat l)) H)=_;rw[cQ,z,cA];rfl) A
theorem aaO{x:aG}{l s:Nat}{Q:ai→ax→Prop}(z:x.ev E=some (.str l s))(A:Q (.int .i64 l) H):gF T (.um x) E H Q:=
 eG (fun _=>by show bq x E (.err 25) (fun v=>kT v (.err 25) fun l _=>.ok (.int .i64 (.ofNat l)) H)=_;rw[cQ,z,cA];rfl) A
theorem QK{x i:aG}{es f g o l c6:Nat}{k:IntKind}{j:Nat}{Q:ai→ax→Prop}(A:x.ev E=some (.slice f g o l c6))(hi:i.ev E=some (.int k (j:Int)))(G:j<l)(I:Q (.ptr f g (o+j*es)) H):gF T (.kr es x i) E H Q:=
 eG (fun _=>by
  show bq x E (.err 12) (fun v=>fy v (.err 12) (.err 12) fun f g off L _=>bq i E (.err 12) fun z=>idx z L (.err 12) fun j=>ch (Nat.add off (Nat.mul j es)) fun off=>.ok (.ptr f g off) H)=_;rw[cQ,A,cA];show bq i E (.err 12) (fun z=>idx z l (.err 12) fun j=>ch (Nat.add o (Nat.mul j es)) fun off=>.ok (.ptr f g off) H)=_;rw[cQ,hi,cA];show aJ (Nat.ble (Nat.succ j) l) (ch (o+j*es) fun off=>aD.ok (.ptr f g off) H) (aD.err 12)=_
  rw[fR G,dM,fc]) I
theorem wpI_extr{x:aG}{vs:List ai}{i:Nat}{v:ai}{Q:ai→ax→Prop}(z:x.ev E=some (.tuple vs))(hi:vs[i]?=some v)(A:Q v H):gF T (.vS x i) E H Q:=
 eG (fun _=>by show bq x E (.err 18) (fun v=>vd v (.err 18) fun vs=>ob (vs[i]?) (.err 18) fun v=>.ok v H)=_;rw[cQ,z,cA];show ob (vs[i]?) (aD.err 18) (fun v=>aD.ok v H)=_;rw[hi,cA]) A
theorem wpI_build{z cs:List ai}{ps:List (Nat×Nat×aG)}{Q:ai→ax→Prop}(h:qG E ps z=some cs)(A:Q (.agg cs) H):gF T (.build z ps) E H Q:=
 eG (fun _=>by show ob (qG E ps z) (aD.err 23) (fun cs=>aD.ok (.agg cs) H)=_;rw[h,cA]) A
theorem Q7{f:Nat}{l:List aG}{vs:List ai}{Q:ai→ax→Prop}(z:iK E l=some vs)(h:uH T f vs H Q):gF T (.call f l) E H Q:=by
 obtain⟨N,v,H',a,b⟩:=h;exact⟨N,v,H',fun lf n A h2=>by show ob (iK E l) (aD.err 42) (fun vs=>T.call lf n f vs H)=_;rw[z,cA];exact a lf n A h2,b⟩
theorem evs_nil:iK E []=some []:=rfl
theorem aaP{x:aG}{r:List aG}{v:ai}{vs:List ai}(h:x.ev E=some v)(k:iK E r=some vs):iK E (x::r)=some (v::vs):=by
 show ob (x.ev E) none (fun v=>ob (iK E r) none fun vs=>some (v::vs))=_;rw[h,cA,k,cA]
theorem wpO_nil{Q:Env→ax→Prop}(h:Q E H):oj T [] E H Q:=⟨0,E,H,fun _ _ _ _=>rfl,h⟩
theorem Q8{d:Key}{q:Option (List Nat)}{op:br}{r:List bl}{Q:Env→ax→Prop}(h:gF T op E H fun v H'=>oj T r (E.set d v) H' Q):oj T (⟨some d,none,q,op⟩::r) E H Q:=by
 obtain⟨N,v,H',a,z,A,G,b,c⟩:=h;refine⟨max N z,A,G,fun lf n I h2=>?_,c⟩;rw[Ze,a lf n an an,KW];exact b lf n an an
theorem Z4{q:Option (List Nat)}{op:br}{r:List bl}{Q:Env→ax→Prop}(h:gF T op E H fun _ H'=>oj T r E H' Q):oj T (⟨none,none,q,op⟩::r) E H Q:=by
 obtain⟨N,v,H',a,z,A,G,b,c⟩:=h;refine⟨max N z,A,G,fun lf n I h2=>?_,c⟩;rw[Ze,a lf n an an,fin_none];exact b lf n an an
theorem Zu{call:dQ}{d:Option Key}{g:Key}{want:Bool}{q:Option (List Nat)}{op:br}{t:Bool}{k:Env→ax→dO}(z:E.get g=some (.bool t)):
  bl.step call ⟨d,some (g,want),q,op⟩ E H k=if t=want then fin d E k (op.ev call E H) else k (ja E d .undef) H:=by
 show ob (E.get g) (.err 51) (fun v=>yG v (iA d E H k) fun b=>aJ (Bool.xor b want) (iA d E H k) (bl.run call ⟨d,some (g,want),q,op⟩ E H k))=_;rw[z,cA];show aJ (Bool.xor t want) (iA d E H k) (bl.run call ⟨d,some (g,want),q,op⟩ E H k)=_;rw[xp]
 cases t<;>cases want<;>rfl
theorem wpO_skip{d:Key}{g:Key}{want t:Bool}{q:Option (List Nat)}{op:br}{r:List bl}{Q:Env→ax→Prop}(z:E.get g=some (.bool t))(A:t≠want)(h:oj T r (E.set d .undef) H Q):oj T (⟨some d,some (g,want),q,op⟩::r) E H Q:=by
 obtain⟨G,I,L,b,c⟩:=h;exact⟨G,I,L,fun lf n M h2=>by show bl.step (T.call lf n) ⟨some d,some (g,want),q,op⟩ E H (nc (T.call lf n) r)=_;rw[Zu z,aX A];exact b lf n M h2,c⟩
theorem wpO_want{d:Key}{g:Key}{want:Bool}{q:Option (List Nat)}{op:br}{r:List bl}{Q:Env→ax→Prop}(z:E.get g=some (.bool want))(h:gF T op E H fun v H'=>oj T r (E.set d v) H' Q):oj T (⟨some d,some (g,want),q,op⟩::r) E H Q:=by
 obtain⟨N,v,H',a,A,G,I,b,c⟩:=h;refine⟨max N A,G,I,fun lf n L h2=>?_,c⟩;show bl.step (T.call lf n) ⟨some d,some (g,want),q,op⟩ E H (nc (T.call lf n) r)=_;rw[Zu z,bg rfl,a lf n an an,KW];exact b lf n an an
theorem abQ{a b:IC}{Q:Ex→Env→ax→Prop}(h:jZ T a E H fun x E' H'=>(x= .normal→jZ T b E' H' Q)∧(x≠.normal→Q x E' H')):jZ T (.seq a b) E H Q:=by
 obtain⟨N,x,E1,H1,G,h2,I⟩:=h
 cases x with
 |normal=>
  obtain⟨L,x2,M,O,U,Y⟩:=h2 rfl;refine⟨max N L,x2,M,O,fun lf n z A=>?_,Y⟩;rw[Sz,G lf n an an,Zd];exact U lf n an an
 |exit id=>exact⟨N,_,E1,H1,fun lf n z A=>by rw[Sz,G lf n z A];rfl,I (by simp)⟩
 |ret=>exact⟨N,_,E1,H1,fun lf n z A=>by rw[Sz,G lf n z A];rfl,I (by simp)⟩
theorem Zv{ops:List bl}{Q:Ex→Env→ax→Prop}(h:oj T ops E H fun E' H'=>Q .normal E' H'):jZ T (.region false ops) E H Q:=by
 obtain⟨N,E1,H1,z,h2⟩:=h;exact⟨N,_,E1,H1,fun lf n A G=>by rw[region_ev,z lf n A G,ad4],h2⟩
theorem wpC_regionQ{ops:List bl}{Q:Ex→Env→ax→Prop}(h:J5 T ops E H [] fun E' H'=>Q .normal E' H'):jZ T (.region true ops) E H Q:=by
 obtain⟨N,E1,H1,z,h2⟩:=h;exact⟨N,_,E1,H1,fun lf n A G=>by rw[regionQ_ev,z lf n A G,ad4],h2⟩
theorem wpC_skip{Q:Ex→Env→ax→Prop}(h:Q .normal E H):jZ T .skip E H Q:=⟨0,_,E,H,fun _ _ _ _=>rfl,h⟩
theorem wpC_exit{id:Nat}{Q:Ex→Env→ax→Prop}(h:Q (.exit id) E H):jZ T (.exit id) E H Q:=⟨0,_,E,H,fun _ _ _ _=>rfl,h⟩
theorem wpC_ret{Q:Ex→Env→ax→Prop}(h:Q .ret E H):jZ T .ret E H Q:=⟨0,_,E,H,fun _ _ _ _=>rfl,h⟩
theorem FI{c:aG}{a b:IC}{t:Bool}{Q:Ex→Env→ax→Prop}(L:c.ev E=some (.bool t))(M:t=true→jZ T a E H Q)(h2:t=false→jZ T b E H Q):jZ T (.cond c a b) E H Q:=by
 have key:∀lf n,(IC.cond c a b).ev (T.call lf n) lf E H=if t=true then a.ev (T.call lf n) lf E H else b.ev (T.call lf n) lf E H:=fun lf n=>by
  show ob (c.ev E) (.err 61) (fun v=>abA v (.err 61) fun t=>aJ t (a.ev (T.call lf n) lf E H) (b.ev (T.call lf n) lf E H))=_;rw[L,cA]
  cases t<;>rfl
 cases t with
 |true=>obtain⟨N,x,E1,H1,z,A⟩:=M rfl;exact⟨N,x,E1,H1,fun lf n G I=>by rw[key,bg rfl];exact z lf n G I,A⟩
 |false=>obtain⟨N,x,E1,H1,z,A⟩:=h2 rfl;exact⟨N,x,E1,H1,fun lf n G I=>by rw[key,aX (by simp)];exact z lf n G I,A⟩
def E9(id:Nat):Ex→Ex
 |.exit j=>if j=id then .normal else .exit j
 |x=>x
theorem Z5{id:Nat}{c:IC}{Q:Ex→Env→ax→Prop}(h:jZ T c E H fun x E' H'=>Q (E9 id x) E' H'):jZ T (.block id c) E H Q:=by
 obtain⟨N,x,E1,H1,z,h2⟩:=h;refine⟨N,E9 id x,E1,H1,fun lf n A G=>?_,h2⟩;show GD id c (c.ev (T.call lf n) lf) E H=_;unfold GD;rw[z lf n A G]
 cases x with
 |normal=>rfl
 |ret=>rfl
 |exit j=>
  show aJ (Nat.beq j id) (Out.ok .normal E1 H1) (.ok (.exit j) E1 H1)=Out.ok (if j=id then .normal else .exit j) E1 H1
  by_cases h:j=id
  ·rw[bg h,h,show Nat.beq id id=true from gu id];rfl
  rw[aX h]
  cases I:Nat.beq j id
  ·rfl
  exact absurd (cW I) h
theorem aaQ{c:IC}{Q:Ex→Env→ax→Prop}(I:Nat→Env→ax→Prop)(Y:∀k E H,I k E H→jZ T c E H fun x E' H'=>(x= .normal→∃j,j<k∧I j E' H')∧(x≠.normal→Q x E' H')):
  ∀k E H,I k E H→jZ T (.loop c) E H Q:=by
 have main:∀k E H,I k E H→∃N x E' H',(∀lf n m,N≤lf→N≤n→N≤m→xX (c.ev (T.call lf n) lf) m E H= .ok x E' H')∧Q x E' H':=by
  intro k
  induction k using Nat.strongRecOn with
  |_ k Z=>
   intro E H h;obtain⟨N,x,E1,H1,A,h2,O⟩:=Y k E H h;have key:∀lf n m,N≤lf→N≤n→xX (c.ev (T.call lf n) lf) (m+1) E H=xo (.ok x E1 H1) (xX (c.ev (T.call lf n) lf) m):=fun lf n m G L=>by
    show xo (c.ev (T.call lf n) lf E H) (xX (c.ev (T.call lf n) lf) m)=_;rw[A lf n G L]
   cases x with
   |normal=>
    obtain⟨j,hj,M⟩:=h2 rfl;obtain⟨N2,x2,E2,H2,k1,k2⟩:=Z j hj E1 H1 M;refine⟨max N N2+1,x2,E2,H2,fun lf n m G L U=>?_,k2⟩;obtain⟨m,rfl⟩:∃z,m=z+1:=⟨m-1,an⟩;rw[key lf n m an an,Zd];exact k1 lf n m an an an
   |exit id=>
    refine⟨N+1,_,E1,H1,fun lf n m G L U=>?_,O (by simp)⟩;obtain⟨m,rfl⟩:∃z,m=z+1:=⟨m-1,an⟩;rw[key lf n m an an];rfl
   |ret=>
    refine⟨N+1,_,E1,H1,fun lf n m G L U=>?_,O (by simp)⟩;obtain⟨m,rfl⟩:∃z,m=z+1:=⟨m-1,an⟩;rw[key lf n m an an];rfl
 intro k E H h;obtain⟨N,x,E',H',a,b⟩:=main k E H h;exact⟨N,x,E',H',fun lf n A h2=>a lf n lf A h2 A,b⟩
def OA(ks:List Key):List ai→Env→Env:=
 List.rec (motive:=fun _=>List ai→Env→Env) (fun _ E=>E) (fun k _ z l E=>List.rec (motive:=fun _=>Env) E (fun v r _=>z r (E.set k v)) l) ks
theorem Z6:∀(ks:List Key)(l:List ai)(E:Env)(c:Env→aD),ks.length=l.length→params ks l E c=c (OA ks l E)
 |[],[],E,c,_=>rfl
 |k::ks,v::l,E,c,h=>by rw[params_cons,Z6 ks l _ c (by simpa using h)];rfl
 |[],_::_,_,_,h=>by simp at h
 |_::_,[],_,_,h=>by simp at h
theorem ad6{f:Nat}{fn:aQ}{args:List ai}{Q:ai→ax→Prop}(A:T.ft.get f=some fn)(G:fn.ps.length=args.length)
  (h:jZ T fn.body (OA fn.ps args .emp) H fun x E' H'=>(∀id,x≠.exit id)∧∃v,results E' H' fn.res= .ok v H'∧Q v H'):uH T f args H Q:=by
 obtain⟨N,x,E1,H1,I,h2,v,z,L⟩:=h;refine⟨N+1,v,H1,fun lf n M O=>?_,L⟩;obtain⟨n,rfl⟩:∃n',n=n'+1:=⟨n-1,an⟩;show ob (T.ft.get f) _ (fun fn=>vU (T.call lf n) lf fn args H)=_;rw[A,cA,evFn_eq,Z6 _ _ _ _ G,I lf n an an]
 cases x with
 |normal=>exact z
 |ret=>exact z
 |exit id=>exact absurd rfl (h2 id)
end
inductive DC where
 |i (k:IntKind) (n:Int)
 |b (b:Bool)
 |s (l v:Nat)
 |nil
 |sl (rows:List (List DC))
 |raw (f n es:Nat)
def l8(H:ax)(f g Q:Nat)(l:List ai):Prop:=
 ∃elem aC m lo fl cs,H.t.get f=some (.row elem l.length aC m lo fl cs)∧lo≤g∧g≤m∧Q<g∧cs.get Q=some l
mutual
def bA(H:ax)(X:Nat→Prop):DC→ai→Prop
 |.i k n,a=>a= .int k n
 |.b b,a=>a= .bool b
 |.s l v,a=>a= .str l v
 |.nil,a=>a= .fV
 |.raw f n es,a=>a= .slice f n 0 n es
 |.sl rows,a=>∃f g off es,a= .slice f g off rows.length es∧(rows=[]∨¬X f∧f<H.next∧∃q,off=q*es∧dF H X f g es q rows)
def dF(H:ax)(X:Nat→Prop)(f g es:Nat):Nat→List (List DC)→Prop
 |_,[]=>True
 |q,row::r=>(∃l,l8 H f g q l∧l.length=es∧bS H X row l)∧dF H X f g es (q+1) r
def bS(H:ax)(X:Nat→Prop):List DC→List ai→Prop
 |[],l=>l=[]
 |d::r,l=>∃a s,l=a::s∧bA H X d a∧bS H X r s
end
structure vY(H H':ax):Prop where
 next:H.next≤H'.next
 aS:H'.aS=H.aS
 ws:H'.ws=H.ws
 same:∀f,f<H.next→H'.t.get f=H.t.get f
theorem vY.refl(H:ax):vY H H:=⟨bd _,rfl,rfl,fun _ _=>rfl⟩
theorem vY.trans{A B C:ax}(h:vY A B)(k:vY B C):vY A C:=
 ⟨eT h.next k.next,k.aS.trans h.aS,k.ws.trans h.ws,fun f z=>(k.same f (jn z h.next)).trans (h.same f z)⟩
structure Step(X:Nat→Prop)(H H':ax):Prop where
 next:H.next≤H'.next
 same:∀f,f<H.next→¬X f→H'.t.get f=H.t.get f
theorem Step.refl(X:Nat→Prop)(H:ax):Step X H H:=⟨bd _,fun _ _ _=>rfl⟩
theorem vY.step{H H':ax}(h:vY H H')(X:Nat→Prop):Step X H H':=⟨h.next,fun f z _=>h.same f z⟩
theorem Step.trans{X:Nat→Prop}{A B C:ax}(h:Step X A B)(k:Step X B C):Step X A C:=
 ⟨eT h.next k.next,fun f z G=>(k.same f (jn z h.next) G).trans (h.same f z G)⟩
section
variable{H H':ax}{X:Nat→Prop}
theorem l8.gN{f g Q:Nat}{l:List ai}(h:l8 H f g Q l)(z:H'.t.get f=H.t.get f):l8 H' f g Q l:=by
 obtain⟨a,b,c,d,e,k,A,h2⟩:=h;exact⟨a,b,c,d,e,k,z.trans A,h2⟩
mutual
theorem bA.step(z:Step X H H'):∀{d:DC}{a:ai},bA H X d a→bA H' X d a
 |.i _ _,_,h=>h
 |.b _,_,h=>h
 |.s _ _,_,h=>h
 |.nil,_,h=>h
 |.raw _ _ _,_,h=>h
 |.sl rows,a,h=>by
  simp only[bA] at h⊢;obtain⟨f,g,off,es,I,h2⟩:=h;refine⟨f,g,off,es,I,h2.imp id fun⟨A,G,q,ho,L⟩=>⟨A,jn G z.next,q,ho,dF.step z A G L⟩⟩
theorem dF.step(z:Step X H H'){f g es:Nat}(A:¬X f)(G:f<H.next):∀{q:Nat}{rows:List (List DC)},dF H X f g es q rows→dF H' X f g es q rows
 |_,[],_=>trivial
 |q,row::r,h=>by
  simp only[dF] at h⊢;obtain⟨⟨l,I,h2,L⟩,M⟩:=h;exact⟨⟨l,I.gN (z.same f G A),h2,bS.step z L⟩,dF.step z A G M⟩
theorem bS.step(z:Step X H H'):∀{row:List DC}{l:List ai},bS H X row l→bS H' X row l
 |[],_,h=>h
 |d::r,l,h=>by
  simp only[bS] at h⊢;obtain⟨a,s,A,h2,G⟩:=h;exact⟨a,s,A,bA.step z h2,bS.step z G⟩
end
theorem dF.get{f g es:Nat}:∀{q:Nat}{rows:List (List DC)},dF H X f g es q rows→∀{i:Nat}{row:List DC},rows[i]?=some row→∃l,l8 H f g (q+i) l∧l.length=es∧bS H X row l
 |q,[],_,i,row,hi=>by simp at hi
 |q,x::r,h,i,row,hi=>by
  simp only[dF] at h
  cases i with
  |zero=>simp at hi;subst hi;exact h.1
  |succ i=>
   obtain⟨l,z,h2⟩:=dF.get h.2 (i:=i) (row:=row) (by simpa using hi);exact⟨l,by rw[show q+(i+1)=q+1+i by omega];exact z,h2⟩
theorem bS.get:∀{row:List DC}{l:List ai},bS H X row l→∀{i:Nat}{d:DC},row[i]?=some d→∃a,l[i]?=some a∧bA H X d a
 |[],_,_,i,d,hi=>by simp at hi
 |x::r,l,h,i,d,hi=>by
  simp only[bS] at h;obtain⟨a,s,rfl,z,h2⟩:=h
  cases i with
  |zero=>simp at hi;subst hi;exact⟨a,rfl,z⟩
  |succ i=>simpa using bS.get h2 (i:=i) (d:=d) (by simpa using hi)
theorem bS.length:∀{row:List DC}{l:List ai},bS H X row l→l.length=row.length
 |[],_,h=>by simp only[bS] at h;subst h;rfl
 |d::r,l,h=>by
  simp only[bS] at h;obtain⟨a,s,rfl,_,h2⟩:=h;simp[bS.length h2]
theorem bA.slice{rows:List (List DC)}{a:ai}(h:bA H X (.sl rows) a):∃f g off es,a= .slice f g off rows.length es∧
  ∀{i:Nat}{row:List DC},rows[i]?=some row→¬X f∧f<H.next∧∃Q l,l8 H f g Q l∧l.length=es∧off+i*es=Q*es∧bS H X row l:=by
 simp only[bA] at h;obtain⟨f,g,off,es,z,h2⟩:=h;refine⟨f,g,off,es,z,fun{i row}hi=>?_⟩;rcases h2 with rfl|⟨A,G,q,ho,I⟩
 ·simp at hi
 obtain⟨l,L,M,O⟩:=I.get hi;exact⟨A,G,q+i,l,L,M,by rw[ho,lq],O⟩
theorem MI{β:Type}{f g Q k n:Nat}{l:List ai}{e:β}{c:List ai→β}(h:l8 H f g Q l)(z:k+n≤l.length)(h0:0<n):rd H f g (Q*l.length+k) n e c=c ((l.drop k).take n):=by
 obtain⟨elem,aC,m,lo,fl,cs,A,h2,G,I,L⟩:=h;have M:(Q*l.length+k)/l.length=Q:=by
  rw[re,Nat.mul_add_div an,agm an];rfl
 have O:(Q*l.length+k) % l.length=k:=by
  rw[re,Nat.mul_add_mod,Eb an]
 unfold rd;rw[A];simp only[kU,tQ];rw[show Nat.mod (Q*l.length+k) l.length=k from O,show Nat.div (Q*l.length+k) l.length=Q from M,bg (fR h2),bg (fR G),show Nat.ble (Nat.add k n) l.length=true from fR z,bg rfl,bg (fR I),L,cA]
 split
 ·rename_i U;have:=cW U;have Y:k=0:=by omega
  subst Y;rw[List.drop_zero,rf an]
 rfl
theorem RF{call:dQ}{E:Env}{n:Nat}{agg:Bool}{a:aG}{f g o:Nat}(z:a.ev E=some (.ptr f g o)):(br.load n agg a).ev call E H=rd H f g o n (.err 4) fun l=>fT agg l (.err 4) fun v=>.ok v H:=by
 show bq a E (.err 4) (fun v=>jk v (.err 4) fun f g off=>rd H f g off n (.err 4) fun l=>fT agg l (.err 4) fun v=>.ok v H)=_;rw[cQ,z,cA];rfl
variable{T:aL}{E:Env}
theorem zM{a:aG}{f g o Q k:Nat}{l:List ai}{x:ai}{R:ai→ax→Prop}(A:a.ev E=some (.ptr f g o))(G:l8 H f g Q l)(ho:o=Q*l.length+k)(z:l[k]?=some x)(I:R x H):gF T (.load 1 false a) E H R:=
 eG (fun _=>by
  have L:k<l.length:=(List.getElem?_eq_some_iff.1 z).1;rw[RF A,ho,MI G an an];have:(l.drop k).take 1=[x]:=by
   rw[Br L,xV,NH];congr 1;exact(List.getElem?_eq_some_iff.1 z).2
  rw[this];rfl) I
theorem KH{n:Nat}{a:aG}{f g o Q k:Nat}{l:List ai}{R:ai→ax→Prop}(z:a.ev E=some (.ptr f g o))(A:l8 H f g Q l)(ho:o=Q*l.length+k)(G:k+n≤l.length)(h0:0<n)(I:R (.agg ((l.drop k).take n)) H):gF T (.load n true a) E H R:=
 eG (fun _=>by rw[RF z,ho,MI A G h0];rfl) I
def DD(H:ax)(f:Nat)(cells:List ai):Prop:=∃elem aC lo cs,H.t.get f=some (.row elem cells.length aC 1 lo 0 cs)∧lo≤1∧cs.get 0=some cells
theorem DD.cells{f:Nat}{l:List ai}(h:DD H f l):l8 H f 1 0 l:=by
 obtain⟨a,b,lo,cs,z,h2,A⟩:=h;exact⟨a,b,1,lo,0,cs,z,h2,bd _,ze _,A⟩
theorem DD.gN{f:Nat}{l:List ai}(h:DD H f l)(z:H'.t.get f=H.t.get f):DD H' f l:=by
 obtain⟨a,b,lo,cs,A,h2⟩:=h;exact⟨a,b,lo,cs,z.trans A,h2⟩
def OB(H:ax)(elem aC:Nat)(cells:List ai):ax:=⟨H.next+1,H.aS,H.ws,H.t.set H.next (.row elem cells.length aC 1 1 0 (.one cells))⟩
theorem boxH_at(elem aC:Nat)(cells:List ai):DD (OB H elem aC cells) H.next cells:=
 ⟨elem,aC,1,.one cells,by show(H.t.set H.next _).get H.next=_;rw[GT.df,bg rfl],bd _,rfl⟩
theorem Z7(elem aC:Nat)(cells:List ai):vY H (OB H elem aC cells):=
 ⟨Bq _,rfl,rfl,fun f z=>by show(H.t.set H.next _).get f=_;rw[GT.df,aX an]⟩
theorem alloc_eq(o:cX)(k:Nat→ax→aD):H.alloc o k=k H.next ⟨H.next+1,H.aS,H.ws,H.t.set H.next o⟩:=by
 cases H with
 |mk next aS ws t=>
  show ch next (fun f=>t.fH f o fun t=>k f ⟨Nat.succ f,aS,ws,t⟩)=_;rw[fc,GT.jO]
theorem wpI_boxz{elem es aC:Nat}{cells:List ai}{R:ai→ax→Prop}(z:cells.length=es)(A:R (.ptr H.next 1 0) (OB H elem aC cells)):gF T (.pN elem es aC cells) E H R:=
 eG (fun _=>by subst z;show H.alloc (.row elem cells.length aC 1 1 0 (.one cells)) (fun f H=>.ok (.ptr f 1 0) H)=_;rw[alloc_eq];rfl) A
theorem wpI_box{elem es aC:Nat}{x:aG}{v:ai}{cells:List ai}{R:ai→ax→Prop}(z:x.ev E=some v)(A:iR v=some cells)(G:cells.length=es)(I:R (.ptr H.next 1 0) (OB H elem aC cells)):gF T (.box elem es aC x) E H R:=
 eG (fun _=>by
  subst G;show bq x E (.err 3) (fun v=>ob (iR v) (.err 3) fun l=>aJ (Nat.beq (gM l) cells.length) (AZ elem cells.length aC l E H) (.err 3))=_;rw[cQ,z,cA,A,cA,pt,show Nat.beq cells.length cells.length=true from gu _,dM];show H.alloc (.row elem cells.length aC 1 1 0 (.one cells)) (fun f H=>.ok (.ptr f 1 0) H)=_
  rw[alloc_eq];rfl) I
variable{k:Nat}{Q:Env→ax→Prop}
theorem Zw{call:dQ}{o:bl}{bf:List FP}{K:Env→ax→List FP→dO}(z:o.q=none):o.pP call E H bf K=fin o.dst E (fun E H=>K E H bf) (o.op.ev call E H):=by
 unfold bl.pP;rw[z];rfl
theorem uU{call:dQ}{d:Option Key}{q:Option (List Nat)}{op:br}{bf:List FP}{K:Env→ax→List FP→dO}:bl.jB call ⟨d,none,q,op⟩ E H bf K=bl.pP call ⟨d,none,q,op⟩ E H bf K:=rfl
theorem Kz{call:dQ}{d:Option Key}{g:Key}{want:Bool}{q:Option (List Nat)}{op:br}{t:Bool}{bf:List FP}{K:Env→ax→List FP→dO}(z:E.get g=some (.bool t)):
  bl.jB call ⟨d,some (g,want),q,op⟩ E H bf K=if t=want then bl.pP call ⟨d,some (g,want),q,op⟩ E H bf K else K (ja E d .undef) H (oJ q bf):=by
 show ob (E.get g) (.err 51) (fun v=>yG v (iA d E H fun E H=>K E H (oJ q bf)) fun b=>aJ (Bool.xor b want) (iA d E H fun E H=>K E H (oJ q bf)) (bl.pP call ⟨d,some (g,want),q,op⟩ E H bf K))=_;rw[z,cA];show aJ (Bool.xor t want) (iA d E H fun E H=>K E H (oJ q bf)) (bl.pP call ⟨d,some (g,want),q,op⟩ E H bf K)=_;rw[xp]
 cases t<;>cases want<;>rfl
end
abbrev ah:=List (List DC)
structure eJ(H:ax)(X:Nat→Prop)(H':ax)(X':Nat→Prop):Prop where
 next:H.next≤H'.next
 same:∀f,f<H.next→¬X f→¬X' f∧H'.t.get f=H.t.get f
section
variable{H H':ax}{X X':Nat→Prop}
mutual
theorem bA.lift(z:eJ H X H' X'):∀{d:DC}{a:ai},bA H X d a→bA H' X' d a
 |.i _ _,_,h=>h
 |.b _,_,h=>h
 |.s _ _,_,h=>h
 |.nil,_,h=>h
 |.raw _ _ _,_,h=>h
 |.sl rows,a,h=>by
  simp only[bA] at h⊢;obtain⟨f,g,off,es,I,h2⟩:=h;exact⟨f,g,off,es,I,h2.imp id fun⟨G,A,q,ho,L⟩=>⟨(z.same f A G).1,jn A z.next,q,ho,dF.lift z G A L⟩⟩
theorem dF.lift(z:eJ H X H' X'){f g es:Nat}(A:¬X f)(G:f<H.next):∀{q:Nat}{rows:ah},dF H X f g es q rows→dF H' X' f g es q rows
 |_,[],_=>trivial
 |q,row::r,h=>by
  simp only[dF] at h⊢;obtain⟨⟨l,I,h2,L⟩,M⟩:=h;exact⟨⟨l,I.gN (z.same f G A).2,h2,bS.lift z L⟩,dF.lift z A G M⟩
theorem bS.lift(z:eJ H X H' X'):∀{row:List DC}{l:List ai},bS H X row l→bS H' X' row l
 |[],_,h=>h
 |d::r,l,h=>by
  simp only[bS] at h⊢;obtain⟨a,s,A,h2,G⟩:=h;exact⟨a,s,A,bA.lift z h2,bS.lift z G⟩
end
end
inductive VV where
 |d (x:DC)
 |agg (l:List VV)
 |tuple (l:List VV)
 |vp (b off:Nat)
 |bp (b g q off es:Nat)
 |rp (row:List DC) (off:Nat)
 |bs (b n es:Nat)
 |ac (b n es:Nat)
 |fn (f:Nat) (dY:List VV)
 |k (a:ai)
 |jH
 |undef
inductive BS where
 |one (elem aC:Nat) (row:List VV)
 |arr (elem aC es lo:Nat) (rows:ah)
 |acc (elem aC es:Nat) (rows:ah)
 |bK (f:Nat) (s:BS)
def BS.born:BS→Prop
 |.acc _ _ _ rows=>rows≠[]
 |.bK _ s=>s.born
 |_=>True
abbrev bb:=List (Nat×VV)
abbrev aK:=List (Nat×BS)
def aF{α:Type}:List (Nat×α)→Nat→Option α
 |[],_=>none
 |(i,v)::r,k=>bif Nat.beq i k then some v else aF r k
theorem cP{α:Type}(i:Nat)(v:α)(r:List (Nat×α))(k:Nat):aF ((i,v)::r) k=if i=k then some v else aF r k:=by
 show(bif Nat.beq i k then some v else aF r k)=_
 by_cases h:i=k
 ·rw[bg h,h,show Nat.beq k k=true from gu k];rfl
 rw[aX h]
 cases z:Nat.beq i k
 ·rfl
 exact absurd (cW z) h
def cL{α:Type}:List (Nat×α)→Nat→List (Nat×α)
 |[],_=>[]
 |(i,v)::r,k=>bif Nat.beq i k then cL r k else(i,v)::cL r k
theorem gz{α:Type}(b k:Nat):∀l:List (Nat×α),aF (cL l b) k=if b=k then none else aF l k
 |[]=>by by_cases h:b=k<;>simp[cL,aF,h]
 |(i,v)::r=>by
  rw[cP];show aF (bif Nat.beq i b then cL r b else(i,v)::cL r b) k=_
  by_cases h:i=b
  ·subst h;rw[show Nat.beq i i=true from gu i];show aF (cL r i) k=_;rw[gz i k r]
   by_cases z:i=k
   ·simp[z]
   simp[z]
  have A:Nat.beq i b=false:=by
   cases A:Nat.beq i b
   ·rfl
   exact absurd (cW A) h
  rw[A];show aF ((i,v)::cL r b) k=_;rw[cP,gz b k r]
  by_cases z:i=k
  ·subst z;rw[bg rfl,aX (fun e=>h e.symm),bg rfl]
  rw[aX z,aX z]
mutual
def aE(H:ax)(X:Nat→Prop)(β:Nat→Nat):VV→ai→Prop
 |.d x,a=>bA H X x a
 |.agg l,a=>∃cs,a= .agg cs∧bc H X β l cs
 |.tuple l,a=>∃cs,a= .tuple cs∧bc H X β l cs
 |.vp b off,a=>a= .ptr (β b) 1 off
 |.bp b g q off es,a=>a= .ptr (β b) g (q*es+off)
 |.rp row off,a=>∃f g Q l,a= .ptr f g (Q*l.length+off)∧l8 H f g Q l∧bS H X row l∧¬X f∧f<H.next
 |.bs b n es,a=>a= .slice (β b) n 0 n es
 |.ac b n es,a=>(n=0∧a= .fV)∨(0<n∧a= .slice (β b) n 0 n es)
 |.fn f dY,a=>∃cs,a= .func f [] cs∧bc H X β dY cs
 |.k x,a=>a=x
 |.jH,a=>∃t x,a= .iface t x
 |.undef,_=>True
def bc(H:ax)(X:Nat→Prop)(β:Nat→Nat):List VV→List ai→Prop
 |[],l=>l=[]
 |v::r,l=>∃a s,l=a::s∧aE H X β v a∧bc H X β r s
end
mutual
def VV.nb:VV→Prop
 |.d _=>True
 |.agg l=>kH l
 |.tuple l=>kH l
 |.vp _ _=>False
 |.bp _ _ _ _ _=>False
 |.rp _ _=>True
 |.bs _ _ _=>False
 |.ac _ _ _=>False
 |.fn _ dY=>kH dY
 |.k _=>True
 |.jH=>True
 |.undef=>True
def kH:List VV→Prop
 |[]=>True
 |v::r=>v.nb∧kH r
end
mutual
def VV.no(b:Nat):VV→Bool
 |.d _=>true
 |.agg l=>s7 b l
 |.tuple l=>s7 b l
 |.vp c _=>!Nat.beq c b
 |.bp c _ _ _ _=>!Nat.beq c b
 |.rp _ _=>true
 |.bs c _ _=>!Nat.beq c b
 |.ac c _ _=>!Nat.beq c b
 |.fn _ dY=>s7 b dY
 |.k _=>true
 |.jH=>true
 |.undef=>true
def s7(b:Nat):List VV→Bool
 |[]=>true
 |v::r=>v.no b&&s7 b r
end
def BS.no(b:Nat):BS→Bool
 |.one _ _ row=>s7 b row
 |.arr _ _ _ _ _=>true
 |.acc _ _ _ _=>true
 |.bK _ s=>s.no b
def j0(b:Nat):bb→Bool
 |[]=>true
 |(_,v)::r=>v.no b&&j0 b r
def kz(b:Nat):Bool:=Nat.ble 1000 b&&Nat.ble b 1049
def fX(b:Nat):aK→Bool
 |[]=>!kz b
 |(c,s)::r=>!Nat.beq c b&&s.no b&&fX b r
section
variable{H H':ax}{X X':Nat→Prop}{β β':Nat→Nat}
theorem pz{c b:Nat}(h:(!Nat.beq c b)=true):c≠b:=by
 rintro rfl;rw[show Nat.beq c c=true from gu c] at h
 cases h
mutual
theorem aE.lift(z:eJ H X H' X'):∀{v:VV}{a:ai},aE H X β v a→aE H' X' β v a
 |.d x,_,h=>by simp only[aE] at h⊢;exact bA.lift z h
 |.agg l,_,h=>by
  simp only[aE] at h⊢;obtain⟨cs,e,h⟩:=h;exact⟨cs,e,bc.lift z h⟩
 |.tuple l,_,h=>by
  simp only[aE] at h⊢;obtain⟨cs,e,h⟩:=h;exact⟨cs,e,bc.lift z h⟩
 |.vp b off,_,h=>by simp only[aE] at h⊢;exact h
 |.bp b g q off es,_,h=>by simp only[aE] at h⊢;exact h
 |.rp row off,_,h=>by
  simp only[aE] at h⊢;obtain⟨f,g,Q,l,e,I,h2,G,A⟩:=h;exact⟨f,g,Q,l,e,I.gN (z.same f A G).2,bS.lift z h2,(z.same f A G).1,jn A z.next⟩
 |.bs b n es,_,h=>by simp only[aE] at h⊢;exact h
 |.ac b n es,_,h=>by simp only[aE] at h⊢;exact h
 |.fn f dY,_,h=>by
  simp only[aE] at h⊢;obtain⟨cs,e,h⟩:=h;exact⟨cs,e,bc.lift z h⟩
 |.k x,_,h=>by simp only[aE] at h⊢;exact h
 |.jH,_,h=>by simp only[aE] at h⊢;exact h
 |.undef,_,_=>by simp only[aE]
theorem bc.lift(z:eJ H X H' X'):∀{l:List VV}{s:List ai},bc H X β l s→bc H' X' β l s
 |[],_,h=>by simp only[bc] at h⊢;exact h
 |v::r,_,h=>by
  simp only[bc] at h⊢;obtain⟨a,s,e,A,h2⟩:=h;exact⟨a,s,e,aE.lift z A,bc.lift z h2⟩
end
mutual
theorem aE.nb:∀{v:VV}{a:ai},v.nb→aE H X β v a→aE H X β' v a
 |.d x,_,_,h=>by simp only[aE] at h⊢;exact h
 |.agg l,_,n,h=>by
  simp only[aE,VV.nb] at h n⊢;obtain⟨cs,e,h⟩:=h;exact⟨cs,e,bc.nb n h⟩
 |.tuple l,_,n,h=>by
  simp only[aE,VV.nb] at h n⊢;obtain⟨cs,e,h⟩:=h;exact⟨cs,e,bc.nb n h⟩
 |.vp b off,_,n,_=>by simp only[VV.nb] at n
 |.bp b g q off es,_,n,_=>by simp only[VV.nb] at n
 |.rp row off,_,_,h=>by simp only[aE] at h⊢;exact h
 |.bs b m es,_,n,_=>by simp only[VV.nb] at n
 |.ac b m es,_,n,_=>by simp only[VV.nb] at n
 |.fn f dY,_,n,h=>by
  simp only[aE,VV.nb] at h n⊢;obtain⟨cs,e,h⟩:=h;exact⟨cs,e,bc.nb n h⟩
 |.k x,_,_,h=>by simp only[aE] at h⊢;exact h
 |.jH,_,_,h=>by simp only[aE] at h⊢;exact h
 |.undef,_,_,_=>by simp only[aE]
theorem bc.nb:∀{l:List VV}{s:List ai},kH l→bc H X β l s→bc H X β' l s
 |[],_,_,h=>by simp only[bc] at h⊢;exact h
 |v::r,_,n,h=>by
  simp only[bc,kH] at h n⊢;obtain⟨a,s,e,z,h2⟩:=h;exact⟨a,s,e,aE.nb n.1 z,bc.nb n.2 h2⟩
end
mutual
theorem aE.no{b f:Nat}:∀{v:VV}{a:ai},v.no b=true→aE H X β v a→aE H X (fun c=>if c=b then f else β c) v a
 |.d x,_,_,h=>by simp only[aE] at h⊢;exact h
 |.agg l,_,n,h=>by
  simp only[aE,VV.no] at h n⊢;obtain⟨cs,e,h⟩:=h;exact⟨cs,e,bc.no n h⟩
 |.tuple l,_,n,h=>by
  simp only[aE,VV.no] at h n⊢;obtain⟨cs,e,h⟩:=h;exact⟨cs,e,bc.no n h⟩
 |.vp c off,_,n,h=>by simp only[aE,VV.no] at h n⊢;rw[aX (pz n)];exact h
 |.bp c g q off es,_,n,h=>by simp only[aE,VV.no] at h n⊢;rw[aX (pz n)];exact h
 |.rp row off,_,_,h=>by simp only[aE] at h⊢;exact h
 |.bs c m es,_,n,h=>by simp only[aE,VV.no] at h n⊢;rw[aX (pz n)];exact h
 |.ac c m es,_,n,h=>by simp only[aE,VV.no] at h n⊢;rw[aX (pz n)];exact h
 |.fn f dY,_,n,h=>by
  simp only[aE,VV.no] at h n⊢;obtain⟨cs,e,h⟩:=h;exact⟨cs,e,bc.no n h⟩
 |.k x,_,_,h=>by simp only[aE] at h⊢;exact h
 |.jH,_,_,h=>by simp only[aE] at h⊢;exact h
 |.undef,_,_,_=>by simp only[aE]
theorem bc.no{b f:Nat}:∀{l:List VV}{s:List ai},s7 b l=true→bc H X β l s→bc H X (fun c=>if c=b then f else β c) l s
 |[],_,_,h=>by simp only[bc] at h⊢;exact h
 |v::r,_,n,h=>by
  simp only[bc,s7,cU] at h n⊢;obtain⟨a,s,e,z,h2⟩:=h;exact⟨a,s,e,aE.no n.1 z,bc.no n.2 h2⟩
end
theorem bc.length:∀{l:List VV}{s:List ai},bc H X β l s→s.length=l.length
 |[],_,h=>by simp only[bc] at h;subst h;rfl
 |v::r,_,h=>by
  simp only[bc] at h;obtain⟨a,s,rfl,_,h2⟩:=h;simp[bc.length h2]
theorem bc.get:∀{l:List VV}{s:List ai},bc H X β l s→∀{i:Nat}{v:VV},l[i]?=some v→∃a,s[i]?=some a∧aE H X β v a
 |[],_,_,i,v,hi=>by simp at hi
 |x::r,_,h,i,v,hi=>by
  simp only[bc] at h;obtain⟨a,s,rfl,z,h2⟩:=h
  cases i with
  |zero=>simp at hi;subst hi;exact⟨a,rfl,z⟩
  |succ i=>simpa using bc.get h2 (i:=i) (v:=v) (by simpa using hi)
theorem bc.append:∀{l m:List VV}{s t:List ai},bc H X β l s→bc H X β m t→bc H X β (l++m) (s++t)
 |[],_,_,_,h,k=>by simp only[bc] at h;subst h;exact k
 |x::r,_,_,_,h,k=>by
  simp only[bc] at h;obtain⟨a,s,rfl,z,h2⟩:=h;simp only[Bo,bc];exact⟨a,_,rfl,z,bc.append h2 k⟩
theorem bc.drop:∀{l:List VV}{s:List ai}(n:Nat),bc H X β l s→bc H X β (l.drop n) (s.drop n)
 |_,_,0,h=>h
 |[],_,n+1,h=>by simp only[bc] at h;subst h;simp[bc]
 |x::r,_,n+1,h=>by
  simp only[bc] at h;obtain⟨a,s,rfl,_,h2⟩:=h;simpa using bc.drop n h2
theorem bc.take:∀{l:List VV}{s:List ai}(n:Nat),bc H X β l s→bc H X β (l.take n) (s.take n)
 |_,_,0,h=>by simp[bc]
 |[],_,n+1,h=>by simp only[bc] at h;subst h;simp[bc]
 |x::r,_,n+1,h=>by
  simp only[bc] at h;obtain⟨a,s,rfl,z,h2⟩:=h;simp only[xV,bc];exact⟨a,_,rfl,z,bc.take n h2⟩
theorem bc.tE:∀{row:List DC}{l:List ai},bS H X row l→bc H X β (row.map .d) l
 |[],_,h=>by simp only[bS] at h;subst h;simp[bc]
 |d::r,_,h=>by
  simp only[bS] at h;obtain⟨a,s,rfl,z,h2⟩:=h;simp only[lM,bc,aE];exact⟨a,s,rfl,z,bc.tE h2⟩
theorem bS.Gb:∀{row:List DC}{l:List ai},bc H X β (row.map .d) l→bS H X row l
 |[],_,h=>by simpa[bc,bS] using h
 |d::r,_,h=>by
  simp only[lM,bc,aE] at h;obtain⟨a,s,rfl,z,h2⟩:=h;simp only[bS];exact⟨a,s,rfl,z,bS.Gb h2⟩
end
def XB(X0:Nat→Prop)(B:aK)(β:Nat→Nat)(f:Nat):Prop:=X0 f∨∃b s,aF B b=some s∧s.born∧β b=f
def de(H:ax)(X:Nat→Prop)(β:Nat→Nat)(f:Nat):BS→Prop
 |.one elem aC row=>∃l lo cs,H.t.get f=some (.row elem l.length aC 1 lo 0 cs)∧lo≤1∧cs.get 0=some l∧bc H X β row l
 |.arr elem aC es lo rows=>∃z cs,H.t.get f=some (.row elem es aC rows.length z 0 cs)∧z≤lo∧lo≤rows.length∧∀q row,rows[q]?=some row→∃l,cs.get q=some l∧l.length=es∧bS H X row l
 |.acc elem aC es rows=>rows=[]∨∃lo cs,H.t.get f=some (.row elem es aC rows.length lo 0 cs)∧lo≤rows.length∧∀q row,rows[q]?=some row→∃l,cs.get q=some l∧l.length=es∧bS H X row l
 |.bK g s=>(s.born→f=g)∧de H X β f s
theorem Q9{b:Nat}:∀{B:aK},fX b B=true→kz b=false
 |[],h=>by simpa[fX] using h
 |(_,_)::r,h=>by
  simp only[fX,cU] at h;exact Q9 h.2
structure Rel(H0:Nat→Nat)(X0:Nat→Prop)(VE:bb)(B:aK)(E:Env)(H:ax)(β:Nat→Nat):Prop where
 jr:∀b,kz b=true→β b=H0 b
 aS:H.aS≤H.next
 x0:∀f,X0 f→f<H.next
 new:∀b s,aF B b=some s→s.born→¬X0 (β b)∧β b<H.next
 inj:∀b c s t,aF B b=some s→aF B c=some t→s.born→t.born→β b=β c→b=c
 env:∀k v,aF VE (Key.n k)=some v→∃a,E.get k=some a∧aE H (XB X0 B β) β v a
 box:∀b s,aF B b=some s→de H (XB X0 B β) β (β b) s
theorem de.lift{H H':ax}{X X':Nat→Prop}{β:Nat→Nat}(I:eJ H X H' X'){f:Nat}(L:H'.t.get f=H.t.get f):∀{s:BS},de H X β f s→de H' X' β f s
 |.one _ _ _,h=>by
  obtain⟨l,lo,cs,A,h2,M,G⟩:=h;exact⟨l,lo,cs,L.trans A,h2,M,bc.lift I G⟩
 |.arr _ _ _ _ _,h=>by
  obtain⟨z,cs,A,h2,M,G⟩:=h;refine⟨z,cs,L.trans A,h2,M,fun q row O=>?_⟩;obtain⟨l,U,Y,Z⟩:=G q row O;exact⟨l,U,Y,bS.lift I Z⟩
 |.acc _ _ _ _,h=>by
  rcases h with h|⟨z,cs,A,h2,G⟩
  ·exact .inl h
  refine .inr ⟨z,cs,L.trans A,h2,fun q row O=>?_⟩;obtain⟨l,U,Y,Z⟩:=G q row O;exact⟨l,U,Y,bS.lift I Z⟩
 |.bK _ s,h=>⟨h.1,de.lift I L (s:=s) h.2⟩
theorem de.ad7{H:ax}{X:Nat→Prop}{β:Nat→Nat}{f:Nat}:∀{s:BS},¬s.born→de H X β f s
 |.one _ _ _,h=>absurd trivial h
 |.arr _ _ _ _ _,h=>absurd trivial h
 |.acc _ _ _ rows,h=>.inl (by
  cases rows with
  |nil=>rfl
  |cons x r=>exact absurd (fun e:x::r=[]=>by cases e) h)
 |.bK _ s,h=>⟨fun z=>absurd z h,de.ad7 (s:=s) h⟩
theorem de.VK{H:ax}{X:Nat→Prop}{β:Nat→Nat}{b g f:Nat}:∀{s:BS},s.no b=true→de H X β f s→de H X (fun c=>if c=b then g else β c) f s
 |.one _ _ _,z,⟨l,lo,cs,A,G,I,L⟩=>⟨l,lo,cs,A,G,I,bc.no z L⟩
 |.arr _ _ _ _ _,_,h=>h
 |.acc _ _ _ _,_,h=>h
 |.bK _ s,z,h=>⟨h.1,de.VK (s:=s) z h.2⟩
theorem de.DE{H H':ax}{X X':Nat→Prop}{β:Nat→Nat}(A:eJ H X H' X'){f:Nat}{s:BS}(G:s.born→H'.t.get f=H.t.get f)(h:de H X β f s):de H' X' β f s:=by
 by_cases z:s.born
 ·exact h.lift A (G z)
 exact .ad7 z
section
variable{T:aL}{H0:Nat→Nat}{X0:Nat→Prop}{VE:bb}{B:aK}{E:Env}{H:ax}{β:Nat→Nat}
theorem Rel.grow(h:Rel H0 X0 VE B E H β){H':ax}(A:H.next≤H'.next)(I:∀f,f<H.next→H'.t.get f=H.t.get f)(M:H'.aS≤H'.next):Rel H0 X0 VE B E H' β:=by
 have L:eJ H (XB X0 B β) H' (XB X0 B β):=⟨A,fun f G O=>⟨O,I f G⟩⟩;refine⟨h.jr,M,fun f G=>jn (h.x0 f G) A,fun b s z ho=>⟨(h.new b s z ho).1,jn (h.new b s z ho).2 A⟩,h.inj,fun k v U=>?_,fun b s z=>(h.box b s z).DE L fun ho=>I _ (h.new b s z ho).2⟩;obtain⟨a,Y,h2⟩:=h.env k v U;exact⟨a,Y,h2.lift L⟩
theorem Rel.set(h:Rel H0 X0 VE B E H β){d:Key}{v:VV}{a:ai}(A:aE H (XB X0 B β) β v a):Rel H0 X0 ((d.n,v)::VE) B (E.set d a) H β:=by
 refine{h with env:=fun k w z=>?_};rw[cP] at z;rw[T4.df]
 by_cases e:d.n=k.n
 ·rw[bg e] at z
  cases z
  exact⟨a,by rw[bg (Key.inj e).symm],A⟩
 rw[aX e] at z;rw[aX (fun G=>e (by rw[G]))];exact h.env k w z
theorem Rel.less(h:Rel H0 X0 VE B E H β){bj:bb}(z:∀k v,aF bj k=some v→aF VE k=some v):Rel H0 X0 bj B E H β:=
 {h with env:=fun k v A=>h.env k v (z _ v A)}
theorem Rel.drop(h:Rel H0 X0 VE B E H β)(b:Nat):Rel H0 X0 VE (cL B b) E H β:=by
 have A:∀c s,aF (cL B b) c=some s→aF B c=some s∧b≠c:=fun c s z=>by
  rw[gz] at z
  by_cases e:b=c
  ·rw[bg e] at z;cases z
  rw[aX e] at z;exact⟨z,e⟩
 have I:eJ H (XB X0 B β) H (XB X0 (cL B b) β):=⟨bd _,fun f _ L=>⟨fun k=>L (k.imp id fun⟨c,s,G,h2⟩=>⟨c,s,(A c s G).1,h2⟩),rfl⟩⟩;refine⟨h.jr,h.aS,h.x0,fun c s z ho=>h.new c s (A c s z).1 ho,fun c e s t z M O U=>h.inj c e s t (A c s z).1 (A e t M).1 O U,fun k v Y=>?_,fun c s z=>(h.box c s (A c s z).1).lift I rfl⟩;obtain⟨a,G,h2⟩:=h.env k v Y;exact⟨a,G,h2.lift I⟩
theorem Ld{b:Nat}:∀{VE:bb},j0 b VE=true→∀{k:Nat}{v:VV},aF VE k=some v→v.no b=true
 |[],_,_,_,h=>by cases h
 |(i,w)::r,z,k,v,h=>by
  simp only[j0,cU] at z;rw[cP] at h
  by_cases e:i=k
  ·rw[bg e] at h;cases h;exact z.1
  rw[aX e] at h;exact Ld z.2 h
theorem tN{b:Nat}:∀{B:aK},fX b B=true→∀{c:Nat}{s:BS},aF B c=some s→c≠b∧s.no b=true
 |[],_,_,_,h=>by cases h
 |(i,w)::r,z,c,s,h=>by
  simp only[fX,cU] at z;rw[cP] at h
  by_cases e:i=c
  ·rw[bg e] at h;cases h;exact⟨e▸pz z.1.1,z.1.2⟩
  rw[aX e] at h;exact tN z.2 h
theorem Rel.newBox(h:Rel H0 X0 VE B E H β){b:Nat}(hE:j0 b VE=true)(hB:fX b B=true){H':ax}(hn:H'.next=H.next+1)(hs:∀f,f<H.next→H'.t.get f=H.t.get f)(hm:H'.aS=H.aS){s:BS}
  (VL:∀X β',(∀v a,v.no b=true→aE H (XB X0 B β) β v a→aE H' X β' v a)→(∀row l,bS H (XB X0 B β) row l→bS H' X row l)→de H' X β' H.next s):
  ∃β',(β' b=H.next∧∀c,c≠b→β' c=β c)∧Rel H0 X0 VE ((b,s)::B) E H' β'∧∀v a,v.no b=true→aE H (XB X0 B β) β v a→aE H' (XB X0 ((b,s)::B) β') β' v a:=by
 let β':Nat→Nat:=fun c=>if c=b then H.next else β c
 have G:β' b=H.next:=bg rfl;have z:∀c,c≠b→β' c=β c:=fun c A=>aX A
 have hg:∀c t,aF ((b,s)::B) c=some t→(c=b∧t=s)∨(c≠b∧aF B c=some t∧t.no b=true):=fun c t A=>by
  rw[cP] at A
  by_cases e:b=c
  ·rw[bg e] at A;cases A;exact .inl ⟨e.symm,rfl⟩
  rw[aX e] at A;exact .inr ⟨fun k=>e k.symm,A,(tN hB A).2⟩
 have hl:eJ H (XB X0 B β) H' (XB X0 ((b,s)::B) β'):=⟨an,fun f hf hx=>⟨fun k=>by
  rcases k with k|⟨c,t,h1,ho,h2⟩
  ·exact hx (.inl k)
  rcases hg c t h1 with⟨rfl,rfl⟩|⟨A,M,_⟩
  ·rw[G] at h2;omega
  exact hx (.inr ⟨c,t,M,ho,by rw[←h2,z c A]⟩),hs f hf⟩⟩
 have hv:∀v a,v.no b=true→aE H (XB X0 B β) β v a→aE H' (XB X0 ((b,s)::B) β') β' v a:=fun v a Y hr=>(aE.no Y hr).lift hl
 have A:∀row l,bS H (XB X0 B β) row l→bS H' (XB X0 ((b,s)::B) β') row l:=fun row l hr=>hr.lift hl
 refine⟨β',⟨G,z⟩,⟨(fun c A=>(z c fun e=>by rw[e,Q9 hB] at A;cases A).trans (h.jr c A)),by have:=h.aS;omega,(fun f hf=>by have:=h.x0 f hf;omega),fun c t L O=>?_,fun c e t u L XO O J6 U=>?_,fun k v hk=>?_,fun c t L=>?_⟩,hv⟩
 ·rcases hg c t L with⟨rfl,rfl⟩|⟨I,M,_⟩
  ·rw[G];exact⟨(fun hx=>by have:=h.x0 _ hx;omega),an⟩
  rw[z c I];have:=h.new c t M O;exact⟨this.1,an⟩
 ·rcases hg c t L with⟨rfl,rfl⟩|⟨I,M,_⟩<;>rcases hg e u XO with⟨rfl,rfl⟩|⟨J7,h4,_⟩
  ·rfl
  ·rw[G,z e J7] at U;have:=h.new e u h4 J6;omega
  ·rw[G,z c I] at U;have:=h.new c t M O;omega
  rw[z c I,z e J7] at U;exact h.inj c e t u M h4 O J6 U
 ·obtain⟨a,h1,h2⟩:=h.env k v hk;exact⟨a,h1,hv v a (Ld hE hk) h2⟩
 rcases hg c t L with⟨rfl,rfl⟩|⟨I,M,Y⟩
 ·rw[G];exact VL _ _ hv A
 rw[z c I];have ho:=h.box c t M;have Z:t.born→H'.t.get (β c)=H.t.get (β c):=fun ho=>hs _ (h.new c t M ho).2
 exact de.DE (X:=XB X0 B β) hl Z (de.VK Y ho)
end
end Go.Ev
