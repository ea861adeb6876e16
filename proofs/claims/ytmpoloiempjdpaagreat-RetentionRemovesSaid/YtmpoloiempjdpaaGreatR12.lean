/- Part 12 of rules for walks through the code of a program, and of such walks; what each part proves is said by its theorems. -/
import Derived.Test.YtmpoloiempjdpaaGreatR11
set_option linter.unusedVariables false
set_option linter.unusedSimpArgs false
noncomputable section
set_option maxRecDepth 100000
set_option maxHeartbeats 4000000
namespace Go.Ev
structure aM where
 ft:Tr aO
 xt:Tr Nat
 zt:ZT:=.leaf
def aM.call(T:aM)(lf n:Nat):dO:=sG T.ft T.xt T.zt lf n
def gz(T:aM)(op:bq)(E:Env)(H:ax)(Q:aj→ax→Prop):Prop:=∃N v H',(∀lf n,N≤lf→N≤n→op.ev (T.call lf n) E H= .ok v H')∧Q v H'
def n6(T:aM)(ops:List bk)(E:Env)(H:ax)(Q:Env→ax→Prop):Prop:=∃N E' H',(∀lf n,N≤lf→N≤n→mP (T.call lf n) ops E H= .ok E' H')∧Q E' H'
def JN(T:aM)(ops:List bk)(E:Env)(H:ax)(bd:List FP)(Q:Env→ax→Prop):Prop:=∃N E' H',(∀lf n,N≤lf→N≤n→iM (T.call lf n) ops E H bd= .ok E' H')∧Q E' H'
def jU(T:aM)(c:IC)(E:Env)(H:ax)(Q:Ex→Env→ax→Prop):Prop:=∃N x E' H',(∀lf n,N≤lf→N≤n→c.ev (T.call lf n) lf E H= .ok x E' H')∧Q x E' H'
def uo(T:aM)(f:Nat)(args:List aj)(H:ax)(Q:aj→ax→Prop):Prop:=∃N v H',(∀lf n,N≤lf→N≤n→T.call lf n f args H= .ok v H')∧Q v H'
section
variable{T:aM}{E:Env}{H:ax}
theorem uo.mono{f:Nat}{args:List aj}{Q z:aj→ax→Prop}(h:uo T f args H Q)(k:∀v H',Q v H'→z v H'):uo T f args H z:=
 let⟨N,v,H',a,b⟩:=h;⟨N,v,H',a,k _ _ b⟩
theorem jU.mono{c:IC}{Q z:Ex→Env→ax→Prop}(h:jU T c E H Q)(k:∀x E' H',Q x E' H'→z x E' H'):jU T c E H z:=
 let⟨N,x,E',H',a,b⟩:=h;⟨N,x,E',H',a,k _ _ _ b⟩
theorem eX{op:bq}{v:aj}{H':ax}{Q:aj→ax→Prop}(h:∀call,op.ev call E H= .ok v H')(z:Q v H'):gz T op E H Q:=⟨0,v,H',fun _ _ _ _=>h _,z⟩
theorem wpI_mov{x:aG}{v:aj}{Q:aj→ax→Prop}(h:x.ev E=some v)(z:Q v H):gz T (.d8 x) E H Q:=
 eX (fun _=>by rw[mov_ev,h,cI]) z
theorem zR{op:BinOp}{x y:aG}{a b v:aj}{Q:aj→ax→Prop}(z:x.ev E=some a)(A:y.ev E=some b)(h:D9 op a b=some v)(G:Q v H):gz T (.bin op x y) E H Q:=
 eX (fun _=>by rw[bin_ev,z,A,cI,cI,h,cI]) G
theorem wpI_un{op:UnOp}{x:aG}{a v:aj}{Q:aj→ax→Prop}(z:x.ev E=some a)(h:O2 op a=some v)(A:Q v H):gz T (.un op x) E H Q:=
 eX (fun _=>by show bt x E (.err 8) (fun a=>ob (O2 op a) (.err 8) fun v=>mJ v fun v=>.ok v H)=_;rw[cY,z,cI,h,cI,wX]) A
theorem KV{c:EG}{neg:Bool}{x y:aG}{a b:aj}{r:Bool}{Q:aj→ax→Prop}(z:x.ev E=some a)(A:y.ev E=some b)(h:pX c a b=some r)(G:Q (.bool (Bool.xor neg r)) H):gz T (.eqv c neg x y) E H Q:=
 eX (fun _=>by show bt x E (.err 7) (fun a=>bt y E (.err 7) fun b=>ob (pX c a b) (.err 7) fun r=>pc (Bool.xor neg r) fun r=>.ok (.bool r) H)=_;rw[cY,z,cI,cY,A,cI,h,cI,P8]) G
theorem aaS{c x y:aG}{t:Bool}{v:aj}{Q:aj→ax→Prop}(A:c.ev E=some (.bool t))(z:(if t then x.ev E else y.ev E)=some v)(G:Q v H):gz T (.pick c x y) E H Q:=
 eX (fun _=>by
  show bt c E (.err 2) (fun v=>uY v (.err 2) fun t=>aI t (oP x E H) (oP y E H))=_;rw[cY,A,cI]
  cases t
  ·show oP y E H=_;have z:y.ev E=some v:=z;unfold oP;rw[cY,z,cI]
  show oP x E H=_;have z:x.ev E=some v:=z
  unfold oP;rw[cY,z,cI]) G
theorem wpI_conv{k z:IntKind}{x:aG}{n:Int}{Q:aj→ax→Prop}(A:x.ev E=some (.int z n))(G:Q (.int k (lW k n)) H):gz T (.conv k x) E H Q:=
 eX (fun _=>by rw[conv_ev,A,cI,onInt_mk]) G
theorem QG{x:aG}{k f g o:Nat}{Q:aj→ax→Prop}(z:x.ev E=some (.ptr f g o))(A:Q (.ptr f g (o+k)) H):gz T (.eR x k) E H Q:=
 eX (fun _=>by show bt x E (.err 9) (fun v=>jf v (.err 9) fun f g off=>cm (Nat.add off k) fun off=>.ok (.ptr f g off) H)=_;rw[cY,z,cI];show cm (o+k) (fun off=>aC.ok (.ptr f g off) H)=_;rw[fy]) A
theorem KW{x:aG}{f g o l es:Nat}{Q:aj→ax→Prop}(z:x.ev E=some (.slice f g o l es))(A:Q (.int .i64 l) H):gz T (.len x) E H Q:=
 eX (fun _=>by show bt x E (.err 25) (fun v=>fc v (.err 25) (.ok (.int .i64 (.ofNat 0)) H) fun _ _ _ l _=>.ok (.int .i64 (.ofNat l)) H)=_;rw[cY,z,cI];rfl) A
theorem Zm{x:aG}{Q:aj→ax→Prop}(z:x.ev E=some .fR)(A:Q (.int .i64 0) H):gz T (.len x) E H Q:=
 eX (fun _=>by show bt x E (.err 25) (fun v=>fc v (.err 25) (.ok (.int .i64 (.ofNat 0)) H) fun _ _ _ l _=>.ok (.int .i64 (.ofNat l)) H)=_;rw[cY,z,cI];rfl) A
theorem aaT{x:aG}{l s:Nat}{Q:aj→ax→Prop}(z:x.ev E=some (.str l s))(A:Q (.int .i64 l) H):gz T (.tX x) E H Q:=
 eX (fun _=>by show bt x E (.err 25) (fun v=>lB v (.err 25) fun l _=>.ok (.int .i64 (.ofNat l)) H)=_;rw[cY,z,cI];rfl) A
theorem Qj{x i:aG}{es f g o l cW:Nat}{k:IntKind}{j:Nat}{Q:aj→ax→Prop}(A:x.ev E=some (.slice f g o l cW))(hi:i.ev E=some (.int k (j:Int)))(G:j<l)(I:Q (.ptr f g (o+j*es)) H):gz T (.j0 es x i) E H Q:=
 eX (fun _=>by
  show bt x E (.err 12) (fun v=>fc v (.err 12) (.err 12) fun f g off L _=>bt i E (.err 12) fun z=>idx z L (.err 12) fun j=>cm (Nat.add off (Nat.mul j es)) fun off=>.ok (.ptr f g off) H)=_;rw[cY,A,cI];show bt i E (.err 12) (fun z=>idx z l (.err 12) fun j=>cm (Nat.add o (Nat.mul j es)) fun off=>.ok (.ptr f g off) H)=_;rw[cY,hi,cI];show aI (Nat.ble (Nat.succ j) l) (cm (o+j*es) fun off=>aC.ok (.ptr f g off) H) (aC.err 12)=_
  rw[gn G,dX,fy]) I
theorem wpI_extr{x:aG}{vs:List aj}{i:Nat}{v:aj}{Q:aj→ax→Prop}(z:x.ev E=some (.tuple vs))(hi:vs[i]?=some v)(A:Q v H):gz T (.vH x i) E H Q:=
 eX (fun _=>by show bt x E (.err 18) (fun v=>uQ v (.err 18) fun vs=>ob (vs[i]?) (.err 18) fun v=>.ok v H)=_;rw[cY,z,cI];show ob (vs[i]?) (aC.err 18) (fun v=>aC.ok v H)=_;rw[hi,cI]) A
theorem wpI_build{z cs:List aj}{ps:List (Nat×Nat×aG)}{Q:aj→ax→Prop}(h:qo E ps z=some cs)(A:Q (.agg cs) H):gz T (.build z ps) E H Q:=
 eX (fun _=>by show ob (qo E ps z) (aC.err 23) (fun cs=>aC.ok (.agg cs) H)=_;rw[h,cI]) A
theorem QH{f:Nat}{l:List aG}{vs:List aj}{Q:aj→ax→Prop}(z:iB E l=some vs)(h:uo T f vs H Q):gz T (.call f l) E H Q:=by
 obtain⟨N,v,H',a,b⟩:=h;exact⟨N,v,H',fun lf n A h2=>by show ob (iB E l) (aC.err 42) (fun vs=>T.call lf n f vs H)=_;rw[z,cI];exact a lf n A h2,b⟩
theorem evs_nil:iB E []=some []:=rfl
theorem aaU{x:aG}{r:List aG}{v:aj}{vs:List aj}(h:x.ev E=some v)(k:iB E r=some vs):iB E (x::r)=some (v::vs):=by
 show ob (x.ev E) none (fun v=>ob (iB E r) none fun vs=>some (v::vs))=_;rw[h,cI,k,cI]
theorem wpO_nil{Q:Env→ax→Prop}(h:Q E H):n6 T [] E H Q:=⟨0,E,H,fun _ _ _ _=>rfl,h⟩
theorem QI{d:Key}{q:Option (List Nat)}{op:bq}{r:List bk}{Q:Env→ax→Prop}(h:gz T op E H fun v H'=>n6 T r (E.set d v) H' Q):n6 T (⟨some d,none,q,op⟩::r) E H Q:=by
 obtain⟨N,v,H',a,z,A,G,b,c⟩:=h;refine⟨max N z,A,G,fun lf n I h2=>?_,c⟩;rw[Zl,a lf n al al,KD];exact b lf n al al
theorem aab{q:Option (List Nat)}{op:bq}{r:List bk}{Q:Env→ax→Prop}(h:gz T op E H fun _ H'=>n6 T r E H' Q):n6 T (⟨none,none,q,op⟩::r) E H Q:=by
 obtain⟨N,v,H',a,z,A,G,b,c⟩:=h;refine⟨max N z,A,G,fun lf n I h2=>?_,c⟩;rw[Zl,a lf n al al,fin_none];exact b lf n al al
theorem ZB{call:dO}{d:Option Key}{g:Key}{want:Bool}{q:Option (List Nat)}{op:bq}{t:Bool}{k:Env→ax→dH}(z:E.get g=some (.bool t)):
  bk.step call ⟨d,some (g,want),q,op⟩ E H k=if t=want then fin d E k (op.ev call E H) else k (iU E d .undef) H:=by
 show ob (E.get g) (.err 51) (fun v=>yw v (il d E H k) fun b=>aI (Bool.xor b want) (il d E H k) (bk.run call ⟨d,some (g,want),q,op⟩ E H k))=_;rw[z,cI];show aI (Bool.xor t want) (il d E H k) (bk.run call ⟨d,some (g,want),q,op⟩ E H k)=_;rw[xd]
 cases t<;>cases want<;>rfl
theorem wpO_skip{d:Key}{g:Key}{want t:Bool}{q:Option (List Nat)}{op:bq}{r:List bk}{Q:Env→ax→Prop}(z:E.get g=some (.bool t))(A:t≠want)(h:n6 T r (E.set d .undef) H Q):n6 T (⟨some d,some (g,want),q,op⟩::r) E H Q:=by
 obtain⟨G,I,L,b,c⟩:=h;exact⟨G,I,L,fun lf n M h2=>by show bk.step (T.call lf n) ⟨some d,some (g,want),q,op⟩ E H (mP (T.call lf n) r)=_;rw[ZB z,aZ A];exact b lf n M h2,c⟩
theorem wpO_want{d:Key}{g:Key}{want:Bool}{q:Option (List Nat)}{op:bq}{r:List bk}{Q:Env→ax→Prop}(z:E.get g=some (.bool want))(h:gz T op E H fun v H'=>n6 T r (E.set d v) H' Q):n6 T (⟨some d,some (g,want),q,op⟩::r) E H Q:=by
 obtain⟨N,v,H',a,A,G,I,b,c⟩:=h;refine⟨max N A,G,I,fun lf n L h2=>?_,c⟩;show bk.step (T.call lf n) ⟨some d,some (g,want),q,op⟩ E H (mP (T.call lf n) r)=_;rw[ZB z,bg rfl,a lf n al al,KD];exact b lf n al al
theorem abP{a b:IC}{Q:Ex→Env→ax→Prop}(h:jU T a E H fun x E' H'=>(x= .normal→jU T b E' H' Q)∧(x≠.normal→Q x E' H')):jU T (.seq a b) E H Q:=by
 obtain⟨N,x,E1,H1,G,h2,I⟩:=h
 cases x with
 |normal=>
  obtain⟨L,x2,M,O,U,Y⟩:=h2 rfl;refine⟨max N L,x2,M,O,fun lf n z A=>?_,Y⟩;rw[Sf,G lf n al al,Zk];exact U lf n al al
 |exit id=>exact⟨N,_,E1,H1,fun lf n z A=>by rw[Sf,G lf n z A];rfl,I (by simp)⟩
 |ret=>exact⟨N,_,E1,H1,fun lf n z A=>by rw[Sf,G lf n z A];rfl,I (by simp)⟩
theorem ZC{ops:List bk}{Q:Ex→Env→ax→Prop}(h:n6 T ops E H fun E' H'=>Q .normal E' H'):jU T (.region false ops) E H Q:=by
 obtain⟨N,E1,H1,z,h2⟩:=h;exact⟨N,_,E1,H1,fun lf n A G=>by rw[region_ev,z lf n A G,ad9],h2⟩
theorem wpC_regionQ{ops:List bk}{Q:Ex→Env→ax→Prop}(h:JN T ops E H [] fun E' H'=>Q .normal E' H'):jU T (.region true ops) E H Q:=by
 obtain⟨N,E1,H1,z,h2⟩:=h;exact⟨N,_,E1,H1,fun lf n A G=>by rw[regionQ_ev,z lf n A G,ad9],h2⟩
theorem wpC_skip{Q:Ex→Env→ax→Prop}(h:Q .normal E H):jU T .skip E H Q:=⟨0,_,E,H,fun _ _ _ _=>rfl,h⟩
theorem wpC_exit{id:Nat}{Q:Ex→Env→ax→Prop}(h:Q (.exit id) E H):jU T (.exit id) E H Q:=⟨0,_,E,H,fun _ _ _ _=>rfl,h⟩
theorem wpC_ret{Q:Ex→Env→ax→Prop}(h:Q .ret E H):jU T .ret E H Q:=⟨0,_,E,H,fun _ _ _ _=>rfl,h⟩
theorem KE{c:aG}{a b:IC}{t:Bool}{Q:Ex→Env→ax→Prop}(L:c.ev E=some (.bool t))(M:t=true→jU T a E H Q)(h2:t=false→jU T b E H Q):jU T (.cond c a b) E H Q:=by
 have key:∀lf n,(IC.cond c a b).ev (T.call lf n) lf E H=if t=true then a.ev (T.call lf n) lf E H else b.ev (T.call lf n) lf E H:=fun lf n=>by
  show ob (c.ev E) (.err 61) (fun v=>abz v (.err 61) fun t=>aI t (a.ev (T.call lf n) lf E H) (b.ev (T.call lf n) lf E H))=_;rw[L,cI]
  cases t<;>rfl
 cases t with
 |true=>obtain⟨N,x,E1,H1,z,A⟩:=M rfl;exact⟨N,x,E1,H1,fun lf n G I=>by rw[key,bg rfl];exact z lf n G I,A⟩
 |false=>obtain⟨N,x,E1,H1,z,A⟩:=h2 rfl;exact⟨N,x,E1,H1,fun lf n G I=>by rw[key,aZ (by simp)];exact z lf n G I,A⟩
def EY(id:Nat):Ex→Ex
 |.exit j=>if j=id then .normal else .exit j
 |x=>x
theorem aac{id:Nat}{c:IC}{Q:Ex→Env→ax→Prop}(h:jU T c E H fun x E' H'=>Q (EY id x) E' H'):jU T (.block id c) E H Q:=by
 obtain⟨N,x,E1,H1,z,h2⟩:=h;refine⟨N,EY id x,E1,H1,fun lf n A G=>?_,h2⟩;show Gs id c (c.ev (T.call lf n) lf) E H=_;unfold Gs;rw[z lf n A G]
 cases x with
 |normal=>rfl
 |ret=>rfl
 |exit j=>
  show aI (Nat.beq j id) (Out.ok .normal E1 H1) (.ok (.exit j) E1 H1)=Out.ok (if j=id then .normal else .exit j) E1 H1
  by_cases h:j=id
  ·rw[bg h,h,show Nat.beq id id=true from gG id];rfl
  rw[aZ h]
  cases I:Nat.beq j id
  ·rfl
  exact absurd (cU I) h
theorem aaV{c:IC}{Q:Ex→Env→ax→Prop}(I:Nat→Env→ax→Prop)(Y:∀k E H,I k E H→jU T c E H fun x E' H'=>(x= .normal→∃j,j<k∧I j E' H')∧(x≠.normal→Q x E' H')):
  ∀k E H,I k E H→jU T (.loop c) E H Q:=by
 have main:∀k E H,I k E H→∃N x E' H',(∀lf n m,N≤lf→N≤n→N≤m→xM (c.ev (T.call lf n) lf) m E H= .ok x E' H')∧Q x E' H':=by
  intro k
  induction k using Nat.strongRecOn with
  |_ k Z=>
   intro E H h;obtain⟨N,x,E1,H1,A,h2,O⟩:=Y k E H h;have key:∀lf n m,N≤lf→N≤n→xM (c.ev (T.call lf n) lf) (m+1) E H=xb (.ok x E1 H1) (xM (c.ev (T.call lf n) lf) m):=fun lf n m G L=>by
    show xb (c.ev (T.call lf n) lf E H) (xM (c.ev (T.call lf n) lf) m)=_;rw[A lf n G L]
   cases x with
   |normal=>
    obtain⟨j,hj,M⟩:=h2 rfl;obtain⟨N2,x2,E2,H2,k1,k2⟩:=Z j hj E1 H1 M;refine⟨max N N2+1,x2,E2,H2,fun lf n m G L U=>?_,k2⟩;obtain⟨m,rfl⟩:∃z,m=z+1:=⟨m-1,al⟩;rw[key lf n m al al,Zk];exact k1 lf n m al al al
   |exit id=>
    refine⟨N+1,_,E1,H1,fun lf n m G L U=>?_,O (by simp)⟩;obtain⟨m,rfl⟩:∃z,m=z+1:=⟨m-1,al⟩;rw[key lf n m al al];rfl
   |ret=>
    refine⟨N+1,_,E1,H1,fun lf n m G L U=>?_,O (by simp)⟩;obtain⟨m,rfl⟩:∃z,m=z+1:=⟨m-1,al⟩;rw[key lf n m al al];rfl
 intro k E H h;obtain⟨N,x,E',H',a,b⟩:=main k E H h;exact⟨N,x,E',H',fun lf n A h2=>a lf n lf A h2 A,b⟩
def Oe(ks:List Key):List aj→Env→Env:=
 List.rec (motive:=fun _=>List aj→Env→Env) (fun _ E=>E) (fun k _ z l E=>List.rec (motive:=fun _=>Env) E (fun v r _=>z r (E.set k v)) l) ks
theorem aad:∀(ks:List Key)(l:List aj)(E:Env)(c:Env→aC),ks.length=l.length→params ks l E c=c (Oe ks l E)
 |[],[],E,c,_=>rfl
 |k::ks,v::l,E,c,h=>by rw[params_cons,aad ks l _ c (by simpa using h)];rfl
 |[],_::_,_,_,h=>by simp at h
 |_::_,[],_,_,h=>by simp at h
theorem aeb{f:Nat}{fn:aO}{args:List aj}{Q:aj→ax→Prop}(A:T.ft.get f=some fn)(G:fn.ps.length=args.length)
  (h:jU T fn.body (Oe fn.ps args .emp) H fun x E' H'=>(∀id,x≠.exit id)∧∃v,results E' H' fn.res= .ok v H'∧Q v H'):uo T f args H Q:=by
 obtain⟨N,x,E1,H1,I,h2,v,z,L⟩:=h;refine⟨N+1,v,H1,fun lf n M O=>?_,L⟩;obtain⟨n,rfl⟩:∃n',n=n'+1:=⟨n-1,al⟩;show ob (T.ft.get f) _ (fun fn=>vJ (T.call lf n) lf fn args H)=_;rw[A,cI,evFn_eq,aad _ _ _ _ G,I lf n al al]
 cases x with
 |normal=>exact z
 |ret=>exact z
 |exit id=>exact absurd rfl (h2 id)
end
inductive DC where
 |i (k:IntKind) (n:Int)
 |b (b:Bool)
 |s (l v:Nat)
 |nil
 |sl (rows:List (List DC))
 |raw (f n es:Nat)
def lP(H:ax)(f g Q:Nat)(l:List aj):Prop:=
 ∃elem aD m lo fl cs,H.t.get f=some (.row elem l.length aD m lo fl cs)∧lo≤g∧g≤m∧Q<g∧cs.get Q=some l
mutual
def bF(H:ax)(X:Nat→Prop):DC→aj→Prop
 |.i k n,a=>a= .int k n
 |.b b,a=>a= .bool b
 |.s l v,a=>a= .str l v
 |.nil,a=>a= .fR
 |.raw f n es,a=>a= .slice f n 0 n es
 |.sl rows,a=>∃f g off es,a= .slice f g off rows.length es∧(rows=[]∨¬X f∧f<H.next∧∃q,off=q*es∧dz H X f g es q rows)
def dz(H:ax)(X:Nat→Prop)(f g es:Nat):Nat→List (List DC)→Prop
 |_,[]=>True
 |q,row::r=>(∃l,lP H f g q l∧l.length=es∧bX H X row l)∧dz H X f g es (q+1) r
def bX(H:ax)(X:Nat→Prop):List DC→List aj→Prop
 |[],l=>l=[]
 |d::r,l=>∃a s,l=a::s∧bF H X d a∧bX H X r s
end
structure vN(H H':ax):Prop where
 next:H.next≤H'.next
 aR:H'.aR=H.aR
 ws:H'.ws=H.ws
 same:∀f,f<H.next→H'.t.get f=H.t.get f
theorem vN.refl(H:ax):vN H H:=⟨bf _,rfl,rfl,fun _ _=>rfl⟩
theorem vN.trans{A B C:ax}(h:vN A B)(k:vN B C):vN A C:=
 ⟨eO h.next k.next,k.aR.trans h.aR,k.ws.trans h.ws,fun f z=>(k.same f (jh z h.next)).trans (h.same f z)⟩
structure Step(X:Nat→Prop)(H H':ax):Prop where
 next:H.next≤H'.next
 same:∀f,f<H.next→¬X f→H'.t.get f=H.t.get f
theorem Step.refl(X:Nat→Prop)(H:ax):Step X H H:=⟨bf _,fun _ _ _=>rfl⟩
theorem vN.step{H H':ax}(h:vN H H')(X:Nat→Prop):Step X H H':=⟨h.next,fun f z _=>h.same f z⟩
theorem Step.trans{X:Nat→Prop}{A B C:ax}(h:Step X A B)(k:Step X B C):Step X A C:=
 ⟨eO h.next k.next,fun f z G=>(k.same f (jh z h.next) G).trans (h.same f z G)⟩
section
variable{H H':ax}{X:Nat→Prop}
theorem lP.gJ{f g Q:Nat}{l:List aj}(h:lP H f g Q l)(z:H'.t.get f=H.t.get f):lP H' f g Q l:=by
 obtain⟨a,b,c,d,e,k,A,h2⟩:=h;exact⟨a,b,c,d,e,k,z.trans A,h2⟩
mutual
theorem bF.step(z:Step X H H'):∀{d:DC}{a:aj},bF H X d a→bF H' X d a
 |.i _ _,_,h=>h
 |.b _,_,h=>h
 |.s _ _,_,h=>h
 |.nil,_,h=>h
 |.raw _ _ _,_,h=>h
 |.sl rows,a,h=>by
  simp only[bF] at h⊢;obtain⟨f,g,off,es,I,h2⟩:=h;refine⟨f,g,off,es,I,h2.imp id fun⟨A,G,q,ho,L⟩=>⟨A,jh G z.next,q,ho,dz.step z A G L⟩⟩
theorem dz.step(z:Step X H H'){f g es:Nat}(A:¬X f)(G:f<H.next):∀{q:Nat}{rows:List (List DC)},dz H X f g es q rows→dz H' X f g es q rows
 |_,[],_=>trivial
 |q,row::r,h=>by
  simp only[dz] at h⊢;obtain⟨⟨l,I,h2,L⟩,M⟩:=h;exact⟨⟨l,I.gJ (z.same f G A),h2,bX.step z L⟩,dz.step z A G M⟩
theorem bX.step(z:Step X H H'):∀{row:List DC}{l:List aj},bX H X row l→bX H' X row l
 |[],_,h=>h
 |d::r,l,h=>by
  simp only[bX] at h⊢;obtain⟨a,s,A,h2,G⟩:=h;exact⟨a,s,A,bF.step z h2,bX.step z G⟩
end
theorem dz.get{f g es:Nat}:∀{q:Nat}{rows:List (List DC)},dz H X f g es q rows→∀{i:Nat}{row:List DC},rows[i]?=some row→∃l,lP H f g (q+i) l∧l.length=es∧bX H X row l
 |q,[],_,i,row,hi=>by simp at hi
 |q,x::r,h,i,row,hi=>by
  simp only[dz] at h
  cases i with
  |zero=>simp at hi;subst hi;exact h.1
  |succ i=>
   obtain⟨l,z,h2⟩:=dz.get h.2 (i:=i) (row:=row) (by simpa using hi);exact⟨l,by rw[show q+(i+1)=q+1+i by omega];exact z,h2⟩
theorem bX.get:∀{row:List DC}{l:List aj},bX H X row l→∀{i:Nat}{d:DC},row[i]?=some d→∃a,l[i]?=some a∧bF H X d a
 |[],_,_,i,d,hi=>by simp at hi
 |x::r,l,h,i,d,hi=>by
  simp only[bX] at h;obtain⟨a,s,rfl,z,h2⟩:=h
  cases i with
  |zero=>simp at hi;subst hi;exact⟨a,rfl,z⟩
  |succ i=>simpa using bX.get h2 (i:=i) (d:=d) (by simpa using hi)
theorem bX.length:∀{row:List DC}{l:List aj},bX H X row l→l.length=row.length
 |[],_,h=>by simp only[bX] at h;subst h;rfl
 |d::r,l,h=>by
  simp only[bX] at h;obtain⟨a,s,rfl,_,h2⟩:=h;simp[bX.length h2]
theorem bF.slice{rows:List (List DC)}{a:aj}(h:bF H X (.sl rows) a):∃f g off es,a= .slice f g off rows.length es∧
  ∀{i:Nat}{row:List DC},rows[i]?=some row→¬X f∧f<H.next∧∃Q l,lP H f g Q l∧l.length=es∧off+i*es=Q*es∧bX H X row l:=by
 simp only[bF] at h;obtain⟨f,g,off,es,z,h2⟩:=h;refine⟨f,g,off,es,z,fun{i row}hi=>?_⟩;rcases h2 with rfl|⟨A,G,q,ho,I⟩
 ·simp at hi
 obtain⟨l,L,M,O⟩:=I.get hi;exact⟨A,G,q+i,l,L,M,by rw[ho,kW],O⟩
theorem Ms{β:Type}{f g Q k n:Nat}{l:List aj}{e:β}{c:List aj→β}(h:lP H f g Q l)(z:k+n≤l.length)(h0:0<n):rd H f g (Q*l.length+k) n e c=c ((l.drop k).take n):=by
 obtain⟨elem,aD,m,lo,fl,cs,A,h2,G,I,L⟩:=h;have M:(Q*l.length+k)/l.length=Q:=by
  rw[qM,Nat.mul_add_div al,agw al];rfl
 have O:(Q*l.length+k) % l.length=k:=by
  rw[qM,Nat.mul_add_mod,D3 al]
 unfold rd;rw[A];simp only[kN,th];rw[show Nat.mod (Q*l.length+k) l.length=k from O,show Nat.div (Q*l.length+k) l.length=Q from M,bg (gn h2),bg (gn G),show Nat.ble (Nat.add k n) l.length=true from gn z,bg rfl,bg (gn I),L,cI]
 split
 ·rename_i U;have:=cU U;have Y:k=0:=by omega
  subst Y;rw[List.drop_zero,pF al]
 rfl
theorem Rb{call:dO}{E:Env}{n:Nat}{agg:Bool}{a:aG}{f g o:Nat}(z:a.ev E=some (.ptr f g o)):(bq.load n agg a).ev call E H=rd H f g o n (.err 4) fun l=>fO agg l (.err 4) fun v=>.ok v H:=by
 show bt a E (.err 4) (fun v=>jf v (.err 4) fun f g off=>rd H f g off n (.err 4) fun l=>fO agg l (.err 4) fun v=>.ok v H)=_;rw[cY,z,cI];rfl
variable{T:aM}{E:Env}
theorem zE{a:aG}{f g o Q k:Nat}{l:List aj}{x:aj}{R:aj→ax→Prop}(A:a.ev E=some (.ptr f g o))(G:lP H f g Q l)(ho:o=Q*l.length+k)(z:l[k]?=some x)(I:R x H):gz T (.load 1 false a) E H R:=
 eX (fun _=>by
  have L:k<l.length:=(List.getElem?_eq_some_iff.1 z).1;rw[Rb A,ho,Ms G al al];have:(l.drop k).take 1=[x]:=by
   rw[vD L,xK,Nn];congr 1;exact(List.getElem?_eq_some_iff.1 z).2
  rw[this];rfl) I
theorem Kp{n:Nat}{a:aG}{f g o Q k:Nat}{l:List aj}{R:aj→ax→Prop}(z:a.ev E=some (.ptr f g o))(A:lP H f g Q l)(ho:o=Q*l.length+k)(G:k+n≤l.length)(h0:0<n)(I:R (.agg ((l.drop k).take n)) H):gz T (.load n true a) E H R:=
 eX (fun _=>by rw[Rb z,ho,Ms A G h0];rfl) I
def Dp(H:ax)(f:Nat)(cells:List aj):Prop:=∃elem aD lo cs,H.t.get f=some (.row elem cells.length aD 1 lo 0 cs)∧lo≤1∧cs.get 0=some cells
theorem Dp.cells{f:Nat}{l:List aj}(h:Dp H f l):lP H f 1 0 l:=by
 obtain⟨a,b,lo,cs,z,h2,A⟩:=h;exact⟨a,b,1,lo,0,cs,z,h2,bf _,yX _,A⟩
theorem Dp.gJ{f:Nat}{l:List aj}(h:Dp H f l)(z:H'.t.get f=H.t.get f):Dp H' f l:=by
 obtain⟨a,b,lo,cs,A,h2⟩:=h;exact⟨a,b,lo,cs,z.trans A,h2⟩
def Of(H:ax)(elem aD:Nat)(cells:List aj):ax:=⟨H.next+1,H.aR,H.ws,H.t.set H.next (.row elem cells.length aD 1 1 0 (.one cells))⟩
theorem boxH_at(elem aD:Nat)(cells:List aj):Dp (Of H elem aD cells) H.next cells:=
 ⟨elem,aD,1,.one cells,by show(H.t.set H.next _).get H.next=_;rw[GT.da,bg rfl],bf _,rfl⟩
theorem aae(elem aD:Nat)(cells:List aj):vN H (Of H elem aD cells):=
 ⟨Ba _,rfl,rfl,fun f z=>by show(H.t.set H.next _).get f=_;rw[GT.da,aZ al]⟩
theorem alloc_eq(o:cV)(k:Nat→ax→aC):H.alloc o k=k H.next ⟨H.next+1,H.aR,H.ws,H.t.set H.next o⟩:=by
 cases H with
 |mk next aR ws t=>
  show cm next (fun f=>t.fB f o fun t=>k f ⟨Nat.succ f,aR,ws,t⟩)=_;rw[fy,GT.jI]
theorem wpI_boxz{elem es aD:Nat}{cells:List aj}{R:aj→ax→Prop}(z:cells.length=es)(A:R (.ptr H.next 1 0) (Of H elem aD cells)):gz T (.pI elem es aD cells) E H R:=
 eX (fun _=>by subst z;show H.alloc (.row elem cells.length aD 1 1 0 (.one cells)) (fun f H=>.ok (.ptr f 1 0) H)=_;rw[alloc_eq];rfl) A
theorem wpI_box{elem es aD:Nat}{x:aG}{v:aj}{cells:List aj}{R:aj→ax→Prop}(z:x.ev E=some v)(A:iL v=some cells)(G:cells.length=es)(I:R (.ptr H.next 1 0) (Of H elem aD cells)):gz T (.box elem es aD x) E H R:=
 eX (fun _=>by
  subst G;show bt x E (.err 3) (fun v=>ob (iL v) (.err 3) fun l=>aI (Nat.beq (gI l) cells.length) (AK elem cells.length aD l E H) (.err 3))=_;rw[cY,z,cI,A,cI,pe,show Nat.beq cells.length cells.length=true from gG _,dX];show H.alloc (.row elem cells.length aD 1 1 0 (.one cells)) (fun f H=>.ok (.ptr f 1 0) H)=_
  rw[alloc_eq];rfl) I
variable{k:Nat}{Q:Env→ax→Prop}
theorem ZD{call:dO}{o:bk}{bd:List FP}{K:Env→ax→List FP→dH}(z:o.q=none):o.pK call E H bd K=fin o.dst E (fun E H=>K E H bd) (o.op.ev call E H):=by
 unfold bk.pK;rw[z];rfl
theorem uG{call:dO}{d:Option Key}{q:Option (List Nat)}{op:bq}{bd:List FP}{K:Env→ax→List FP→dH}:bk.jq call ⟨d,none,q,op⟩ E H bd K=bk.pK call ⟨d,none,q,op⟩ E H bd K:=rfl
theorem Kh{call:dO}{d:Option Key}{g:Key}{want:Bool}{q:Option (List Nat)}{op:bq}{t:Bool}{bd:List FP}{K:Env→ax→List FP→dH}(z:E.get g=some (.bool t)):
  bk.jq call ⟨d,some (g,want),q,op⟩ E H bd K=if t=want then bk.pK call ⟨d,some (g,want),q,op⟩ E H bd K else K (iU E d .undef) H (oE q bd):=by
 show ob (E.get g) (.err 51) (fun v=>yw v (il d E H fun E H=>K E H (oE q bd)) fun b=>aI (Bool.xor b want) (il d E H fun E H=>K E H (oE q bd)) (bk.pK call ⟨d,some (g,want),q,op⟩ E H bd K))=_;rw[z,cI];show aI (Bool.xor t want) (il d E H fun E H=>K E H (oE q bd)) (bk.pK call ⟨d,some (g,want),q,op⟩ E H bd K)=_;rw[xd]
 cases t<;>cases want<;>rfl
end
abbrev ai:=List (List DC)
end Go.Ev
