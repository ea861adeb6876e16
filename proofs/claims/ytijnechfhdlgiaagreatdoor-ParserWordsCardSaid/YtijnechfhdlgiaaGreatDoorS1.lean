/- Part 1 of rules for walks through the code of a program, and of such walks; what each part proves is said by its theorems. -/
import Derived.Test.YtijnechfhdlgiaaGreatDoorS0
import Derived.Lib.ParseIntB
set_option linter.unusedVariables false
set_option linter.unusedSimpArgs false
namespace Go.Ev
theorem aa{α:Sort _}{a:α}:a=a:=rfl
inductive an where
 |bool (b:Bool)
 |int (k:IntKind) (n:Int)
 |str (l v:Nat)
 |ptr (f g off:Nat)
 |hU
 |slice (f g off len es:Nat)
 |cb
 |agg (cs:List an)
 |tuple (vs:List an)
 |func (f:Nat) (first eG:List an)
 |nC
 |iface (t:Nat) (v:an)
 |gO
 |map (f:Nat)
 |tR
 |undef
inductive D6 where
 |d0|d1|d2|d3|d4|d5
def D6.n:D6→Nat
 |.d0=>0|.d1=>1|.d2=>2|.d3=>3|.d4=>4|.d5=>5
def AD:Nat→D6
 |0=>.d0|1=>.d1|2=>.d2|3=>.d3|4=>.d4|_=>.d5
noncomputable def nW(n:Nat):D6:=
 Nat.rec (motive:=fun _=>D6) .d0 (fun n _=>Nat.rec (motive:=fun _=>D6) .d1 (fun n _=>Nat.rec (motive:=fun _=>D6) .d2 (fun n _=>Nat.rec (motive:=fun _=>D6) .d3 (fun n _=>Nat.rec (motive:=fun _=>D6) .d4 (fun _ _=>.d5) n) n) n) n) n
inductive Key where
 |mk (i j k l:D6)
def Key.n:Key→Nat
 |.mk i j k l=>i.n+6*j.n+36*k.n+216*l.n
def pk(n:Nat):Key:=.mk (AD (n % 6)) (AD (n/6 % 6)) (AD (n/36 % 6)) (AD (n/216 % 6))
theorem D6.lt(d:D6):d.n<6:=by cases d<;>decide
theorem D6.inj{a b:D6}(h:a.n=b.n):a=b:=by cases a<;>cases b<;>first|rfl|(simp[D6.n] at h)
instance:DecidableEq D6:=fun a b=>if h:a.n=b.n then .isTrue (D6.inj h) else .isFalse fun e=>h (by rw[e])
theorem Cv{m:Nat}(h:m<6):(AD m).n=m:=by
 match m,h with
 |0,_=>rfl
 |1,_=>rfl
 |2,_=>rfl
 |3,_=>rfl
 |4,_=>rfl
 |5,_=>rfl
theorem CW{m:Nat}(h:m<6):(nW m).n=m:=by
 match m,h with
 |0,_=>rfl
 |1,_=>rfl
 |2,_=>rfl
 |3,_=>rfl
 |4,_=>rfl
 |5,_=>rfl
theorem Key.inj{a b:Key}(h:a.n=b.n):a=b:=by
 cases a with
 |mk i j k l=>cases b with
  |mk z A G I=>
   simp only[Key.n] at h
   have O:=i.lt;have h2:=j.lt;have U:=k.lt;have Y:=l.lt
   have Z:=z.lt;have h5:=A.lt;have h6:=G.lt;have h8:=I.lt
   have e1:i=z:=D6.inj (by omega)
   have e2:j=A:=D6.inj (by omega)
   have J:k=G:=D6.inj (by omega)
   have K:l=I:=D6.inj (by omega)
   rw[e1,e2,J,K]
instance:DecidableEq Key:=fun a b=>if h:a.n=b.n then .isTrue (Key.inj h) else .isFalse fun e=>h (by rw[e])
theorem wb{n:Nat}(h:n<1296):(pk n).n=n:=by
 simp only[pk,Key.n]
 rw[Cv (by omega),Cv (by omega),Cv (by omega),Cv (by omega)]
 omega
section
variable{α β:Type}
inductive S6(α:Type) where
 |mk (x0 x1 x2 x3 x4 x5:α)
noncomputable def S6.get(d:D6)(t:S6 α):α:=
 S6.rec (motive:=fun _=>α) (fun x0 x1 x2 x3 x4 x5=>D6.rec (motive:=fun _=>α) x0 x1 x2 x3 x4 x5 d) t
noncomputable def S6.u0(f:α→(α→β)→β)(t:S6 α)(c:S6 α→β):β:=S6.rec (motive:=fun _=>β) (fun x0 x1 x2 x3 x4 x5=>f x0 fun y=>c (.mk y x1 x2 x3 x4 x5)) t
noncomputable def S6.u1(f:α→(α→β)→β)(t:S6 α)(c:S6 α→β):β:=S6.rec (motive:=fun _=>β) (fun x0 x1 x2 x3 x4 x5=>f x1 fun y=>c (.mk x0 y x2 x3 x4 x5)) t
noncomputable def S6.u2(f:α→(α→β)→β)(t:S6 α)(c:S6 α→β):β:=S6.rec (motive:=fun _=>β) (fun x0 x1 x2 x3 x4 x5=>f x2 fun y=>c (.mk x0 x1 y x3 x4 x5)) t
noncomputable def S6.u3(f:α→(α→β)→β)(t:S6 α)(c:S6 α→β):β:=S6.rec (motive:=fun _=>β) (fun x0 x1 x2 x3 x4 x5=>f x3 fun y=>c (.mk x0 x1 x2 y x4 x5)) t
noncomputable def S6.u4(f:α→(α→β)→β)(t:S6 α)(c:S6 α→β):β:=S6.rec (motive:=fun _=>β) (fun x0 x1 x2 x3 x4 x5=>f x4 fun y=>c (.mk x0 x1 x2 x3 y x5)) t
noncomputable def S6.u5(f:α→(α→β)→β)(t:S6 α)(c:S6 α→β):β:=S6.rec (motive:=fun _=>β) (fun x0 x1 x2 x3 x4 x5=>f x5 fun y=>c (.mk x0 x1 x2 x3 x4 y)) t
noncomputable def S6.gu(d:D6):(α→(α→β)→β)→S6 α→(S6 α→β)→β:=
 D6.rec (motive:=fun _=>(α→(α→β)→β)→S6 α→(S6 α→β)→β) S6.u0 S6.u1 S6.u2 S6.u3 S6.u4 S6.u5 d
noncomputable def S6.mod(d:D6)(g:α→α)(t:S6 α):S6 α:=S6.gu d (fun x c=>c (g x)) t fun y=>y
theorem S6.B9(d z:D6)(g:α→α)(t:S6 α):S6.get z (S6.mod d g t)=if z=d then g (S6.get d t) else S6.get z t:=by
 cases t;cases d<;>cases z<;>rfl
theorem S6.Cw(d:D6)(g:α→α)(f:α→(α→β)→β)(z:∀x c,f x c=c (g x))(t:S6 α)(c:S6 α→β):S6.gu d f t c=c (S6.mod d g t):=by
 cases t;cases d<;>exact z _ _
def S6.all(x:α):S6 α:=.mk x x x x x x
theorem S6.Ca(d:D6)(x:α):S6.get d (S6.all x)=x:=by cases d<;>rfl
def T4(α:Type):Type:=S6 (S6 (S6 (S6 (Option α))))
noncomputable def T4.get(E:T4 α)(key:Key):Option α:=Key.rec (motive:=fun _=>T4 α→Option α) (fun i j k l E=>S6.get l (S6.get k (S6.get j (S6.get i E)))) key E
noncomputable def T4.gq(E:T4 α)(key:Key)(v:α)(c:T4 α→β):β:=Key.rec (motive:=fun _=>β) (fun i j k l=>S6.gu i (S6.gu j (S6.gu k (S6.gu l fun _ c=>c (some v)))) E c) key
noncomputable def T4.set(E:T4 α)(key:Key)(v:α):T4 α:=E.gq key v fun E=>E
theorem T4.GM(E:T4 α)(i j k l:D6)(v:α)(c:T4 α→β):E.gq (.mk i j k l) v c=c (S6.mod i (S6.mod j (S6.mod k (S6.mod l fun _=>some v))) E):=
 S6.Cw i _ _ (fun x c=>S6.Cw j _ _ (fun x c=>S6.Cw k _ _ (fun x c=>S6.Cw l (fun _=>some v) _ (fun _ _=>rfl) x c) x c) x c) E c
theorem T4.j8(E:T4 α)(key:Key)(v:α)(c:T4 α→β):E.gq key v c=c (E.set key v):=by
 cases key with
 |mk i j k l=>unfold T4.set;rw[T4.GM,T4.GM]
theorem S6.gs(E:S6 (S6 (S6 (S6 (Option α)))))(i j k l z A G I:D6)(v:α):S6.get I (S6.get G (S6.get A (S6.get z (S6.mod i (S6.mod j (S6.mod k (S6.mod l fun _=>some v))) E))))=
  if Key.mk z A G I=Key.mk i j k l then some v else S6.get I (S6.get G (S6.get A (S6.get z E))):=by
 rw[S6.B9]
 by_cases hi:z=i
 ·subst hi
  rw[aw rfl,S6.B9]
  by_cases J:A=j
  ·subst J
   rw[aw rfl,S6.B9]
   by_cases hk:G=k
   ·subst hk
    rw[aw rfl,S6.B9]
    by_cases K:I=l
    ·subst K
     rw[aw rfl,aw rfl]
    rw[aj K,aj (by intro e;cases e;exact K rfl)]
   rw[aj hk,aj (by intro e;cases e;exact hk rfl)]
  rw[aj J,aj (by intro e;cases e;exact J rfl)]
 rw[aj hi,aj (by intro e;cases e;exact hi rfl)]
theorem T4.eU(E:T4 α)(key z:Key)(v:α):(E.set key v).get z=if z=key then some v else E.get z:=by
 cases key with
 |mk i j k l=>cases z with
  |mk A G I J=>
   unfold T4.set
   rw[T4.GM]
   exact S6.gs E i j k l A G I J v
def T4.emp:T4 α:=S6.all (S6.all (S6.all (S6.all none)))
theorem T4.rY(key:Key):(T4.emp:T4 α).get key=none:=by
 cases key with
 |mk i j k l=>
  show S6.get l (S6.get k (S6.get j (S6.get i (S6.all (S6.all (S6.all (S6.all none)))))))=none
  rw[S6.Ca,S6.Ca,S6.Ca,S6.Ca]
noncomputable def pq(n:Nat):Key:=.mk (nW (Nat.mod n 6)) (nW (Nat.mod (Nat.div n 6) 6)) (nW (Nat.mod (Nat.div n 36) 6)) (nW (Nat.mod (Nat.div n 216) 6))
theorem OB{n:Nat}(h:n<1296):(pq n).n=n:=by
 show(nW (n % 6)).n+6*(nW (n/6 % 6)).n+36*(nW (n/36 % 6)).n+216*(nW (n/216 % 6)).n=n
 rw[CW (wz _ (by omega)),CW (wz _ (by omega)),CW (wz _ (by omega)),CW (wz _ (by omega))]
 omega
theorem UX{n k:Nat}(h:pq (n % 1296)=pq (k % 1296)):n % 1296=k % 1296:=by
 rw[←OB (n:=n % 1296) (by omega),←OB (n:=k % 1296) (by omega),h]
def GT(α:Type):Type:=Tr (T4 α)
noncomputable def GT.uU(t:GT α)(n:Nat):T4 α:=Option.rec (motive:=fun _=>T4 α) .emp (fun s=>s) (Tr.get t n)
noncomputable def GT.get(t:GT α)(n:Nat):Option α:=(t.uU (Nat.div n 1296)).get (pq (Nat.mod n 1296))
noncomputable def GT.set(t:GT α)(n:Nat)(v:α):GT α:=Tr.set t (Nat.div n 1296) ((t.uU (Nat.div n 1296)).set (pq (Nat.mod n 1296)) v)
noncomputable def GT.gq(t:GT α)(n:Nat)(v:α)(c:GT α→β):β:=(t.uU (Nat.div n 1296)).gq (pq (Nat.mod n 1296)) v fun s=>(Tr.set t (Nat.div n 1296) s).seq c
theorem GT.j8(t:GT α)(n:Nat)(v:α)(c:GT α→β):t.gq n v c=c (t.set n v):=by
 unfold GT.gq;rw[T4.j8];exact Tr.seq_eq (α:=T4 α) _ c
def GT.emp:GT α:=Tr.leaf
theorem GT.rY(n:Nat):(GT.emp:GT α).get n=none:=T4.rY _
theorem GT.ats(t:Tr (T4 α))(n k:Nat)(s:T4 α):(Option.rec (motive:=fun _=>T4 α) .emp (fun s=>s) (Tr.get (Tr.set t n s) k):T4 α)=if k=n then s else Option.rec (motive:=fun _=>T4 α) .emp (fun s=>s) (Tr.get t k):=by
 rw[Tr.eU]
 split
 ·rfl
 rfl
theorem GT.eU(t:GT α)(n k:Nat)(v:α):(t.set n v).get k=if k=n then some v else t.get k:=by
 have h:(t.set n v).uU (k/1296)=if k/1296=n/1296 then(t.uU (n/1296)).set (pq (n % 1296)) v else t.uU (k/1296):=GT.ats t _ _ _
 show((t.set n v).uU (k/1296)).get (pq (k % 1296))=if k=n then some v else(t.uU (k/1296)).get (pq (k % 1296))
 rw[h]
 by_cases e:k/1296=n/1296
 ·rw[aw e,T4.eU,e]
  by_cases e2:k % 1296=n % 1296
  ·rw[aw (by rw[e2]),aw (by omega)]
  rw[aj (fun h=>e2 (UX h)),aj (by omega)]
 rw[aj e,aj (by omega)]
end
abbrev Env:=T4 an
def ah:Key:=.mk .d0 .d0 .d0 .d0
def aV:Key:=.mk .d1 .d0 .d0 .d0
def az:Key:=.mk .d2 .d0 .d0 .d0
def ay:Key:=.mk .d3 .d0 .d0 .d0
def ao:Key:=.mk .d4 .d0 .d0 .d0
def aq:Key:=.mk .d5 .d0 .d0 .d0
def aC:Key:=.mk .d0 .d1 .d0 .d0
def aF:Key:=.mk .d1 .d1 .d0 .d0
def aD:Key:=.mk .d2 .d1 .d0 .d0
def aI:Key:=.mk .d3 .d1 .d0 .d0
def aO:Key:=.mk .d4 .d1 .d0 .d0
def aQ:Key:=.mk .d5 .d1 .d0 .d0
def aP:Key:=.mk .d0 .d2 .d0 .d0
def aR:Key:=.mk .d1 .d2 .d0 .d0
def aX:Key:=.mk .d2 .d2 .d0 .d0
def aY:Key:=.mk .d3 .d2 .d0 .d0
def bg:Key:=.mk .d4 .d2 .d0 .d0
def bk:Key:=.mk .d5 .d2 .d0 .d0
def bh:Key:=.mk .d0 .d3 .d0 .d0
def bn:Key:=.mk .d1 .d3 .d0 .d0
def bl:Key:=.mk .d2 .d3 .d0 .d0
def bu:Key:=.mk .d3 .d3 .d0 .d0
def bH:Key:=.mk .d4 .d3 .d0 .d0
def bO:Key:=.mk .d5 .d3 .d0 .d0
def bP:Key:=.mk .d0 .d4 .d0 .d0
def bU:Key:=.mk .d1 .d4 .d0 .d0
def bR:Key:=.mk .d2 .d4 .d0 .d0
def bV:Key:=.mk .d3 .d4 .d0 .d0
def cg:Key:=.mk .d4 .d4 .d0 .d0
def cl:Key:=.mk .d5 .d4 .d0 .d0
def ch:Key:=.mk .d0 .d5 .d0 .d0
def ca:Key:=.mk .d1 .d5 .d0 .d0
def cj:Key:=.mk .d2 .d5 .d0 .d0
def cE:Key:=.mk .d3 .d5 .d0 .d0
def cw:Key:=.mk .d4 .d5 .d0 .d0
def ck:Key:=.mk .d5 .d5 .d0 .d0
def cN:Key:=.mk .d0 .d0 .d1 .d0
def cY:Key:=.mk .d1 .d0 .d1 .d0
def c6:Key:=.mk .d2 .d0 .d1 .d0
def di:Key:=.mk .d3 .d0 .d1 .d0
def dA:Key:=.mk .d4 .d0 .d1 .d0
def dH:Key:=.mk .d5 .d0 .d1 .d0
def dm:Key:=.mk .d0 .d1 .d1 .d0
def dJ:Key:=.mk .d1 .d1 .d1 .d0
def dE:Key:=.mk .d2 .d1 .d1 .d0
def dK:Key:=.mk .d3 .d1 .d1 .d0
def d7:Key:=.mk .d4 .d1 .d1 .d0
def d8:Key:=.mk .d5 .d1 .d1 .d0
def eO:Key:=.mk .d0 .d2 .d1 .d0
def d9:Key:=.mk .d1 .d2 .d1 .d0
def eP:Key:=.mk .d2 .d2 .d1 .d0
def ef:Key:=.mk .d3 .d2 .d1 .d0
def eC:Key:=.mk .d4 .d2 .d1 .d0
def fA:Key:=.mk .d5 .d2 .d1 .d0
def fr:Key:=.mk .d0 .d3 .d1 .d0
def eT:Key:=.mk .d1 .d3 .d1 .d0
def eQ:Key:=.mk .d2 .d3 .d1 .d0
def e6:Key:=.mk .d3 .d3 .d1 .d0
def e9:Key:=.mk .d4 .d3 .d1 .d0
def fb:Key:=.mk .d5 .d3 .d1 .d0
def fQ:Key:=.mk .d0 .d4 .d1 .d0
def fT:Key:=.mk .d1 .d4 .d1 .d0
def fh:Key:=.mk .d2 .d4 .d1 .d0
def gg:Key:=.mk .d3 .d4 .d1 .d0
def fU:Key:=.mk .d4 .d4 .d1 .d0
def fH:Key:=.mk .d5 .d4 .d1 .d0
def fV:Key:=.mk .d0 .d5 .d1 .d0
def g7:Key:=.mk .d1 .d5 .d1 .d0
def hZ:Key:=.mk .d2 .d5 .d1 .d0
def hD:Key:=.mk .d3 .d5 .d1 .d0
def iA:Key:=.mk .d4 .d5 .d1 .d0
def ij:Key:=.mk .d5 .d5 .d1 .d0
def iN:Key:=.mk .d0 .d0 .d2 .d0
def iB:Key:=.mk .d1 .d0 .d2 .d0
def jn:Key:=.mk .d2 .d0 .d2 .d0
def ia:Key:=.mk .d3 .d0 .d2 .d0
def jB:Key:=.mk .d4 .d0 .d2 .d0
def jU:Key:=.mk .d5 .d0 .d2 .d0
def jd:Key:=.mk .d0 .d1 .d2 .d0
def kx:Key:=.mk .d1 .d1 .d2 .d0
def je:Key:=.mk .d2 .d1 .d2 .d0
def ky:Key:=.mk .d3 .d1 .d2 .d0
def lj:Key:=.mk .d4 .d1 .d2 .d0
def lH:Key:=.mk .d5 .d1 .d2 .d0
def jC:Key:=.mk .d0 .d2 .d2 .d0
def lY:Key:=.mk .d1 .d2 .d2 .d0
def lZ:Key:=.mk .d2 .d2 .d2 .d0
def l4:Key:=.mk .d3 .d2 .d2 .d0
def jV:Key:=.mk .d4 .d2 .d2 .d0
def l5:Key:=.mk .d5 .d2 .d2 .d0
def l6:Key:=.mk .d0 .d3 .d2 .d0
def mM:Key:=.mk .d1 .d3 .d2 .d0
def l7:Key:=.mk .d2 .d3 .d2 .d0
def l8:Key:=.mk .d3 .d3 .d2 .d0
def mN:Key:=.mk .d4 .d3 .d2 .d0
def mO:Key:=.mk .d5 .d3 .d2 .d0
def lI:Key:=.mk .d0 .d4 .d2 .d0
def nP:Key:=.mk .d1 .d4 .d2 .d0
def nQ:Key:=.mk .d2 .d4 .d2 .d0
def pW:Key:=.mk .d3 .d4 .d2 .d0
def qY:Key:=.mk .d4 .d4 .d2 .d0
def qZ:Key:=.mk .d5 .d4 .d2 .d0
def nH:Key:=.mk .d0 .d5 .d2 .d0
def q6:Key:=.mk .d1 .d5 .d2 .d0
def q7:Key:=.mk .d2 .d5 .d2 .d0
def q8:Key:=.mk .d3 .d5 .d2 .d0
def q9:Key:=.mk .d4 .d5 .d2 .d0
def ra:Key:=.mk .d5 .d5 .d2 .d0
def rb:Key:=.mk .d0 .d0 .d3 .d0
def t8:Key:=.mk .d1 .d0 .d3 .d0
def ua:Key:=.mk .d2 .d0 .d3 .d0
def m5:Key:=.mk .d3 .d0 .d3 .d0
def ub:Key:=.mk .d4 .d0 .d3 .d0
def uc:Key:=.mk .d5 .d0 .d3 .d0
def ud:Key:=.mk .d0 .d1 .d3 .d0
def nJ:Key:=.mk .d1 .d1 .d3 .d0
def ue:Key:=.mk .d2 .d1 .d3 .d0
def uf:Key:=.mk .d3 .d1 .d3 .d0
def ug:Key:=.mk .d4 .d1 .d3 .d0
def uh:Key:=.mk .d5 .d1 .d3 .d0
def m6:Key:=.mk .d0 .d2 .d3 .d0
def oT:Key:=.mk .d1 .d2 .d3 .d0
def ui:Key:=.mk .d2 .d2 .d3 .d0
def vQ:Key:=.mk .d3 .d2 .d3 .d0
def uj:Key:=.mk .d4 .d2 .d3 .d0
def vR:Key:=.mk .d5 .d2 .d3 .d0
def uk:Key:=.mk .d0 .d3 .d3 .d0
def um:Key:=.mk .d1 .d3 .d3 .d0
def qo:Key:=.mk .d2 .d3 .d3 .d0
def m7:Key:=.mk .d3 .d3 .d3 .d0
def uo:Key:=.mk .d4 .d3 .d3 .d0
def uq:Key:=.mk .d5 .d3 .d3 .d0
def xH:Key:=.mk .d0 .d4 .d3 .d0
def xI:Key:=.mk .d1 .d4 .d3 .d0
def xJ:Key:=.mk .d2 .d4 .d3 .d0
def xK:Key:=.mk .d3 .d4 .d3 .d0
def xL:Key:=.mk .d4 .d4 .d3 .d0
def xM:Key:=.mk .d5 .d4 .d3 .d0
def oU:Key:=.mk .d0 .d5 .d3 .d0
def xN:Key:=.mk .d1 .d5 .d3 .d0
def xO:Key:=.mk .d2 .d5 .d3 .d0
def xP:Key:=.mk .d3 .d5 .d3 .d0
def xQ:Key:=.mk .d4 .d5 .d3 .d0
def CX:Key:=.mk .d5 .d5 .d3 .d0
def He:Key:=.mk .d0 .d0 .d4 .d0
def CY:Key:=.mk .d1 .d0 .d4 .d0
def CZ:Key:=.mk .d2 .d0 .d4 .d0
def C1:Key:=.mk .d3 .d0 .d4 .d0
def C2:Key:=.mk .d4 .d0 .d4 .d0
def C3:Key:=.mk .d5 .d0 .d4 .d0
def Hf:Key:=.mk .d0 .d1 .d4 .d0
def C4:Key:=.mk .d1 .d1 .d4 .d0
def C5:Key:=.mk .d2 .d1 .d4 .d0
def C6:Key:=.mk .d3 .d1 .d4 .d0
def C7:Key:=.mk .d4 .d1 .d4 .d0
def C8:Key:=.mk .d5 .d1 .d4 .d0
def C9:Key:=.mk .d0 .d2 .d4 .d0
def Da:Key:=.mk .d1 .d2 .d4 .d0
def Db:Key:=.mk .d2 .d2 .d4 .d0
def Dc:Key:=.mk .d3 .d2 .d4 .d0
def Dd:Key:=.mk .d4 .d2 .d4 .d0
def De:Key:=.mk .d5 .d2 .d4 .d0
def Df:Key:=.mk .d0 .d3 .d4 .d0
def Dg:Key:=.mk .d1 .d3 .d4 .d0
def Dh:Key:=.mk .d2 .d3 .d4 .d0
def Di:Key:=.mk .d3 .d3 .d4 .d0
def Dj:Key:=.mk .d4 .d3 .d4 .d0
def Dk:Key:=.mk .d5 .d3 .d4 .d0
def Dl:Key:=.mk .d0 .d4 .d4 .d0
def Dm:Key:=.mk .d1 .d4 .d4 .d0
def Dn:Key:=.mk .d2 .d4 .d4 .d0
def Dp:Key:=.mk .d3 .d4 .d4 .d0
def Dq:Key:=.mk .d4 .d4 .d4 .d0
def Hg:Key:=.mk .d5 .d4 .d4 .d0
def Dr:Key:=.mk .d0 .d5 .d4 .d0
def Ds:Key:=.mk .d1 .d5 .d4 .d0
def Dt:Key:=.mk .d2 .d5 .d4 .d0
def Du:Key:=.mk .d3 .d5 .d4 .d0
def Dv:Key:=.mk .d4 .d5 .d4 .d0
def Dw:Key:=.mk .d5 .d5 .d4 .d0
def Dx:Key:=.mk .d0 .d0 .d5 .d0
def Dy:Key:=.mk .d1 .d0 .d5 .d0
def Dz:Key:=.mk .d2 .d0 .d5 .d0
def DA:Key:=.mk .d3 .d0 .d5 .d0
def DB:Key:=.mk .d4 .d0 .d5 .d0
def DD:Key:=.mk .d5 .d0 .d5 .d0
def re:Key:=.mk .d0 .d1 .d5 .d0
def DE:Key:=.mk .d1 .d1 .d5 .d0
def DF:Key:=.mk .d2 .d1 .d5 .d0
def DG:Key:=.mk .d3 .d1 .d5 .d0
def DH:Key:=.mk .d4 .d1 .d5 .d0
def DI:Key:=.mk .d5 .d1 .d5 .d0
def DJ:Key:=.mk .d0 .d2 .d5 .d0
def DK:Key:=.mk .d1 .d2 .d5 .d0
def DL:Key:=.mk .d2 .d2 .d5 .d0
def DM:Key:=.mk .d3 .d2 .d5 .d0
def DN:Key:=.mk .d4 .d2 .d5 .d0
def DO:Key:=.mk .d5 .d2 .d5 .d0
def DP:Key:=.mk .d0 .d3 .d5 .d0
def DQ:Key:=.mk .d1 .d3 .d5 .d0
def DR:Key:=.mk .d2 .d3 .d5 .d0
def DS:Key:=.mk .d3 .d3 .d5 .d0
def DT:Key:=.mk .d4 .d3 .d5 .d0
def DU:Key:=.mk .d5 .d3 .d5 .d0
def DV:Key:=.mk .d0 .d4 .d5 .d0
def Hh:Key:=.mk .d1 .d4 .d5 .d0
def DW:Key:=.mk .d2 .d4 .d5 .d0
def DX:Key:=.mk .d3 .d4 .d5 .d0
def DY:Key:=.mk .d4 .d4 .d5 .d0
def DZ:Key:=.mk .d5 .d4 .d5 .d0
def D0:Key:=.mk .d0 .d5 .d5 .d0
def D1:Key:=.mk .d1 .d5 .d5 .d0
def D2:Key:=.mk .d2 .d5 .d5 .d0
def M5:Key:=.mk .d3 .d5 .d5 .d0
def M6:Key:=.mk .d4 .d5 .d5 .d0
def M7:Key:=.mk .d5 .d5 .d5 .d0
def M8:Key:=.mk .d0 .d0 .d0 .d1
def M9:Key:=.mk .d1 .d0 .d0 .d1
def M':Key:=.mk .d2 .d0 .d0 .d1
def Na:Key:=.mk .d3 .d0 .d0 .d1
def Nb:Key:=.mk .d4 .d0 .d0 .d1
def Nc:Key:=.mk .d5 .d0 .d0 .d1
def Nd:Key:=.mk .d0 .d1 .d0 .d1
def ur:Key:=.mk .d1 .d1 .d0 .d1
def Nf:Key:=.mk .d2 .d1 .d0 .d1
def Ng:Key:=.mk .d3 .d1 .d0 .d1
def Nh:Key:=.mk .d4 .d1 .d0 .d1
def Ni:Key:=.mk .d5 .d1 .d0 .d1
def Nj:Key:=.mk .d0 .d2 .d0 .d1
def Nk:Key:=.mk .d1 .d2 .d0 .d1
def Nl:Key:=.mk .d2 .d2 .d0 .d1
def uu:Key:=.mk .d3 .d2 .d0 .d1
def Nm:Key:=.mk .d4 .d2 .d0 .d1
def Nn:Key:=.mk .d5 .d2 .d0 .d1
def No:Key:=.mk .d0 .d3 .d0 .d1
def Np:Key:=.mk .d1 .d3 .d0 .d1
def Nq:Key:=.mk .d2 .d3 .d0 .d1
def Nr:Key:=.mk .d3 .d3 .d0 .d1
def Ns:Key:=.mk .d4 .d3 .d0 .d1
def Nt:Key:=.mk .d5 .d3 .d0 .d1
def Nu:Key:=.mk .d0 .d4 .d0 .d1
def Nv:Key:=.mk .d1 .d4 .d0 .d1
def Nw:Key:=.mk .d2 .d4 .d0 .d1
def Nx:Key:=.mk .d3 .d4 .d0 .d1
def Ny:Key:=.mk .d4 .d4 .d0 .d1
def Nz:Key:=.mk .d5 .d4 .d0 .d1
def NA:Key:=.mk .d0 .d5 .d0 .d1
def NB:Key:=.mk .d1 .d5 .d0 .d1
def NC:Key:=.mk .d2 .d5 .d0 .d1
def ND:Key:=.mk .d3 .d5 .d0 .d1
def NF:Key:=.mk .d4 .d5 .d0 .d1
def NG:Key:=.mk .d5 .d5 .d0 .d1
def NH:Key:=.mk .d0 .d0 .d1 .d1
def NI:Key:=.mk .d1 .d0 .d1 .d1
def NJ:Key:=.mk .d2 .d0 .d1 .d1
def NK:Key:=.mk .d3 .d0 .d1 .d1
def NL:Key:=.mk .d4 .d0 .d1 .d1
def NM:Key:=.mk .d5 .d0 .d1 .d1
def NN:Key:=.mk .d0 .d1 .d1 .d1
def mH:Key:=.mk .d1 .d1 .d1 .d1
def NO:Key:=.mk .d2 .d1 .d1 .d1
def NP:Key:=.mk .d3 .d1 .d1 .d1
def NQ:Key:=.mk .d4 .d1 .d1 .d1
def NR:Key:=.mk .d5 .d1 .d1 .d1
def NS:Key:=.mk .d0 .d2 .d1 .d1
def NT:Key:=.mk .d1 .d2 .d1 .d1
def NU:Key:=.mk .d2 .d2 .d1 .d1
def NV:Key:=.mk .d3 .d2 .d1 .d1
def NW:Key:=.mk .d4 .d2 .d1 .d1
def NX:Key:=.mk .d5 .d2 .d1 .d1
def NY:Key:=.mk .d0 .d3 .d1 .d1
def NZ:Key:=.mk .d1 .d3 .d1 .d1
def N0:Key:=.mk .d2 .d3 .d1 .d1
def N1:Key:=.mk .d3 .d3 .d1 .d1
def N3:Key:=.mk .d4 .d3 .d1 .d1
inductive RT where
 |emp
 |one (x:List an)
 |many (s:GT (List an))
noncomputable def RT.get(t:RT)(n:Nat):Option (List an):=
 RT.rec (motive:=fun _=>Nat→Option (List an)) (fun _=>none) (fun x n=>Nat.rec (motive:=fun _=>Option (List an)) (some x) (fun _ _=>none) n) GT.get t n
noncomputable def RT.set(t:RT)(n:Nat)(v:List an):RT:=
 RT.rec (motive:=fun _=>Nat→List an→RT) (fun n v=>Nat.rec (motive:=fun _=>RT) (.one v) (fun m _=>.many (GT.emp.set (Nat.succ m) v)) n)
  (fun x n v=>Nat.rec (motive:=fun _=>RT) (.one v) (fun m _=>.many ((GT.emp.set 0 x).set (Nat.succ m) v)) n) (fun s n v=>.many (s.set n v)) t n v
theorem RT.eU(t:RT)(n k:Nat)(v:List an):(t.set n v).get k=if k=n then some v else t.get k:=by
 cases t with
 |emp=>cases n with
  |zero=>cases k<;>rfl
  |succ n=>exact(GT.eU GT.emp (n+1) k v).trans (by rw[GT.rY];rfl)
 |one x=>cases n with
  |zero=>cases k<;>rfl
  |succ n=>
   refine(GT.eU (GT.emp.set 0 x) (n+1) k v).trans ?_
   rw[GT.eU,GT.rY]
   cases k<;>rfl
 |many s=>exact GT.eU s n k v
inductive dP where
 |row (elem es aT n lo fl:Nat) (cs:RT)
 |map (es:List (an×an))
abbrev HT:=GT dP
structure aB where
 next:Nat
 bc:Nat
 ws:List Nat
 t:HT
inductive aG where
 |t (n:Key)
 |c (v:an)
inductive yB where
 |bool|ptr|agg (ks:List Nat)|slice|iface|func|map
inductive bE where
 |nX (x:aG)
 |pick (c a b:aG)
 |cf (elem es aT:Nat) (cells:List an)
 |box (elem es aT:Nat) (x:aG)
 |load (n:Nat) (agg:Bool) (a:aG)
 |store (n:Nat) (a x:aG)
 |bin (op:BinOp) (x y:aG)
 |eqv (c:yB) (neg:Bool) (x y:aG)
 |un (op:UnOp) (x:aG)
 |nR (x:aG) (k:Nat)
 |sub (x:aG) (off n:Nat) (agg:Bool)
 |kr (len es:Nat) (x i:aG)
 |eg (es:Nat) (x i:aG)
 |zG (len es:Nat) (agg:Bool) (x i:aG)
 |sb (x i:aG)
 |iR (x:aG) (lo hi:Option aG)
 |pX (es:Nat) (x:aG) (lo hi:Option aG)
 |vS (len es:Nat) (x:aG) (lo hi:Option aG)
 |ry (x:aG) (i:Nat)
 |oV (x:aG)
 |nS (f:Nat) (first eG:List aG)
 |uM (t:Nat) (x:aG)
 |yi (elem es aT:Nat) (zero:List an) (len cap:aG)
 |build (zero:List an) (parts:List (Nat×Nat×aG))
 |cH (elem es aT len:Nat) (zero:List an) (parts:List (Nat×aG))
 |len (x:aG)
 |AE (n:Nat)
 |o5 (x:aG)
 |app (elem es aT:Nat) (x y:aG)
 |sc (elem:Nat) (x y:aG)
 |copy (es:Nat) (x y:aG)
 |zH (mx:Bool) (x:aG) (ys:List aG)
 |conv (k:IntKind) (x:aG)
 |Cx (x:aG)
 |xl (elem:Nat) (x:aG)
 |pH (x:aG)
 |call (f:Nat) (args:List aG)
 |mI (x:aG) (args:List aG)
 |qp (t n:Nat) (x:aG)
 |uV (x:aG)
 |qw (e:Nat) (x n:aG)
structure bt where
 dst:Option Key
 g:Option (Key×Bool)
 q:Option (List Nat)
 op:bE
inductive lJ where
 |tmp (t:Key)
 |cell (a:Key) (n:Nat) (agg:Bool)
inductive IC where
 |skip
 |region (draw:Bool) (ops:List bt)
 |seq (a b:IC)
 |cond (c:aG) (a b:IC)
 |block (id:Nat) (b:IC)
 |loop (b:IC)
 |exit (id:Nat)
 |ret
structure bA where
 nt:Nat
 ps:List Key
 res:List lJ
 body:IC
inductive aE where
 |ok (v:an) (H:aB)
 |err (n:Nat)
inductive eD where
 |ok (E:Env) (H:aB)
 |err (n:Nat)
inductive Ex where
 |normal|exit (id:Nat)|ret
inductive Out where
 |ok (x:Ex) (E:Env) (H:aB)
 |err (n:Nat)
noncomputable def T4.yj(E:Env)(key:Key)(v:an)(c:Env→eD):eD:=E.gq key v c
theorem T4.zj(E:Env)(key:Key)(v:an)(c:Env→eD):E.yj key v c=c (E.set key v):=T4.j8 E key v c
noncomputable def RT.gq(t:RT)(n:Nat)(v:List an)(c:RT→aE):aE:=
 RT.rec (motive:=fun _=>Nat→List an→(RT→aE)→aE) (fun n v c=>Nat.rec (motive:=fun _=>aE) (c (.one v)) (fun m _=>GT.emp.gq (Nat.succ m) v fun s=>c (.many s)) n)
  (fun x n v c=>Nat.rec (motive:=fun _=>aE) (c (.one v)) (fun m _=>GT.emp.gq 0 x fun s=>s.gq (Nat.succ m) v fun s=>c (.many s)) n) (fun s n v c=>s.gq n v fun s=>c (.many s)) t n v c
theorem RT.j8(t:RT)(n:Nat)(v:List an)(c:RT→aE):t.gq n v c=c (t.set n v):=by
 cases t with
 |emp=>cases n with
  |zero=>rfl
  |succ n=>exact GT.j8 _ _ _ _
 |one x=>cases n with
  |zero=>rfl
  |succ n=>exact(GT.j8 _ _ _ _).trans (GT.j8 _ _ _ _)
 |many s=>exact GT.j8 _ _ _ _
noncomputable def mE(v:an)(k:an→aE):aE:=
 an.rec (motive_1:=fun _=>(an→aE)→aE) (motive_2:=fun _=>Unit) (fun b z=>Bool.rec (motive:=fun _=>aE) (z (.bool false)) (z (.bool true)) b) (fun k n z=>kW n fun n=>z (.int k n)) (fun l v z=>dr l fun l=>dr v fun v=>z (.str l v)) (fun f g o z=>dr f fun f=>dr g fun g=>dr o fun o=>z (.ptr f g o)) (fun z=>z (.hU)) (fun f g o l es z=>dr f fun f=>dr g fun g=>dr o fun o=>dr l fun l=>z (.slice f g o l es)) (fun z=>z (.cb)) (fun cs _ z=>z (.agg cs)) (fun vs _ z=>z (.tuple vs)) (fun f A eG _ _ z=>z (.func f A eG)) (fun z=>z (.nC)) (fun t v _ z=>z (.iface t v)) (fun z=>z (.gO)) (fun f z=>z (.map f)) (fun z=>z (.tR)) (fun z=>z (.undef)) () (fun _ _ _ _=>()) v k
theorem ts(v:an)(k:an→aE):mE v k=k v:=by
 cases v<;>simp[mE,rQ,im]
 rename_i b;cases b<;>rfl
noncomputable def aH{β:Type}(b:Bool)(k e:β):β:=Bool.rec (motive:=fun _=>β) e k b
noncomputable def ob{α β:Type}(o:Option α)(e:β)(k:α→β):β:=Option.rec (motive:=fun _=>β) e k o
noncomputable def mY{β:Type}(b:Bool)(k:Bool→β):β:=Bool.rec (motive:=fun _=>β) (k false) (k true) b
noncomputable def sd(v:an)(e:aE)(k:Bool→aE):aE:=
 an.rec (motive_1:=fun _=>aE→(Bool→aE)→aE) (motive_2:=fun _=>Unit) (fun b e z=>z b) (fun _ _ e _=>e) (fun _ _ e _=>e) (fun _ _ _ e _=>e) (fun e _=>e) (fun _ _ _ _ _ e _=>e) (fun e _=>e) (fun _ _ e _=>e) (fun _ _ e _=>e) (fun _ _ _ _ _ e _=>e) (fun e _=>e) (fun _ _ _ e _=>e) (fun e _=>e) (fun _ e _=>e) (fun e _=>e) (fun e _=>e) () (fun _ _ _ _=>()) v e k
noncomputable def wc(v:an)(s:eD)(k:Bool→eD):eD:=
 an.rec (motive_1:=fun _=>eD→(Bool→eD)→eD) (motive_2:=fun _=>Unit) (fun b e z=>z b) (fun _ _ _ _=>.err 51) (fun _ _ _ _=>.err 51) (fun _ _ _ _ _=>.err 51) (fun _ _=>.err 51) (fun _ _ _ _ _ _ _=>.err 51) (fun _ _=>.err 51) (fun _ _ _ _=>.err 51) (fun _ _ _ _=>.err 51) (fun _ _ _ _ _ _ _=>.err 51) (fun _ _=>.err 51) (fun _ _ _ _ _=>.err 51) (fun _ _=>.err 51) (fun _ _ _=>.err 51) (fun _ _=>.err 51) (fun s _=>s) () (fun _ _ _ _=>()) v s k
noncomputable def Ly(v:an)(e:Out)(k:Bool→Out):Out:=
 an.rec (motive_1:=fun _=>Out→(Bool→Out)→Out) (motive_2:=fun _=>Unit) (fun b e z=>z b) (fun _ _ e _=>e) (fun _ _ e _=>e) (fun _ _ _ e _=>e) (fun e _=>e) (fun _ _ _ _ _ e _=>e) (fun e _=>e) (fun _ _ e _=>e) (fun _ _ e _=>e) (fun _ _ _ _ _ e _=>e) (fun e _=>e) (fun _ _ _ e _=>e) (fun e _=>e) (fun _ e _=>e) (fun e _=>e) (fun e _=>e) () (fun _ _ _ _=>()) v e k
noncomputable def gI(v:an)(e:aE)(k:IntKind→Int→aE):aE:=
 an.rec (motive_1:=fun _=>aE→(IntKind→Int→aE)→aE) (motive_2:=fun _=>Unit) (fun _ e _=>e) (fun k n e z=>z k n) (fun _ _ e _=>e) (fun _ _ _ e _=>e) (fun e _=>e) (fun _ _ _ _ _ e _=>e) (fun e _=>e) (fun _ _ e _=>e) (fun _ _ e _=>e) (fun _ _ _ _ _ e _=>e) (fun e _=>e) (fun _ _ _ e _=>e) (fun e _=>e) (fun _ e _=>e) (fun e _=>e) (fun e _=>e) () (fun _ _ _ _=>()) v e k
noncomputable def jR(v:an)(e:aE)(k:Nat→Nat→aE):aE:=
 an.rec (motive_1:=fun _=>aE→(Nat→Nat→aE)→aE) (motive_2:=fun _=>Unit) (fun _ e _=>e) (fun _ _ e _=>e) (fun l v e z=>z l v) (fun _ _ _ e _=>e) (fun e _=>e) (fun _ _ _ _ _ e _=>e) (fun e _=>e) (fun _ _ e _=>e) (fun _ _ e _=>e) (fun _ _ _ _ _ e _=>e) (fun e _=>e) (fun _ _ _ e _=>e) (fun e _=>e) (fun _ e _=>e) (fun e _=>e) (fun e _=>e) () (fun _ _ _ _=>()) v e k
noncomputable def iu(v:an)(e:aE)(k:Nat→Nat→Nat→aE):aE:=
 an.rec (motive_1:=fun _=>aE→(Nat→Nat→Nat→aE)→aE) (motive_2:=fun _=>Unit) (fun _ e _=>e) (fun _ _ e _=>e) (fun _ _ e _=>e) (fun f g o e z=>z f g o) (fun e _=>e) (fun _ _ _ _ _ e _=>e) (fun e _=>e) (fun _ _ e _=>e) (fun _ _ e _=>e) (fun _ _ _ _ _ e _=>e) (fun e _=>e) (fun _ _ _ e _=>e) (fun e _=>e) (fun _ e _=>e) (fun e _=>e) (fun e _=>e) () (fun _ _ _ _=>()) v e k
noncomputable def gP(v:an)(e n:aE)(k:Nat→Nat→Nat→Nat→Nat→aE):aE:=
 an.rec (motive_1:=fun _=>aE→aE→(Nat→Nat→Nat→Nat→Nat→aE)→aE) (motive_2:=fun _=>Unit) (fun _ e _ _=>e) (fun _ _ e _ _=>e) (fun _ _ e _ _=>e) (fun _ _ _ e _ _=>e) (fun e _ _=>e) (fun f g o l es e _ z=>z f g o l es) (fun _ n _=>n) (fun _ _ e _ _=>e) (fun _ _ e _ _=>e) (fun _ _ _ _ _ e _ _=>e) (fun e _ _=>e) (fun _ _ _ e _ _=>e) (fun e _ _=>e) (fun _ e _ _=>e) (fun e _ _=>e) (fun e _ _=>e) () (fun _ _ _ _=>()) v e n k
noncomputable def oZ(v:an)(e:aE)(k:List an→aE):aE:=
 an.rec (motive_1:=fun _=>aE→(List an→aE)→aE) (motive_2:=fun _=>Unit) (fun _ e _=>e) (fun _ _ e _=>e) (fun _ _ e _=>e) (fun _ _ _ e _=>e) (fun e _=>e) (fun _ _ _ _ _ e _=>e) (fun e _=>e) (fun cs _ e z=>z cs) (fun _ _ e _=>e) (fun _ _ _ _ _ e _=>e) (fun e _=>e) (fun _ _ _ e _=>e) (fun e _=>e) (fun _ e _=>e) (fun e _=>e) (fun e _=>e) () (fun _ _ _ _=>()) v e k
noncomputable def rZ(v:an)(e:aE)(k:List an→aE):aE:=
 an.rec (motive_1:=fun _=>aE→(List an→aE)→aE) (motive_2:=fun _=>Unit) (fun _ e _=>e) (fun _ _ e _=>e) (fun _ _ e _=>e) (fun _ _ _ e _=>e) (fun e _=>e) (fun _ _ _ _ _ e _=>e) (fun e _=>e) (fun _ _ e _=>e) (fun vs _ e z=>z vs) (fun _ _ _ _ _ e _=>e) (fun e _=>e) (fun _ _ _ e _=>e) (fun e _=>e) (fun _ e _=>e) (fun e _=>e) (fun e _=>e) () (fun _ _ _ _=>()) v e k
noncomputable def tS(v:an)(e:aE)(k:Nat→List an→List an→aE):aE:=
 an.rec (motive_1:=fun _=>aE→(Nat→List an→List an→aE)→aE) (motive_2:=fun _=>Unit) (fun _ e _=>e) (fun _ _ e _=>e) (fun _ _ e _=>e) (fun _ _ _ e _=>e) (fun e _=>e) (fun _ _ _ _ _ e _=>e) (fun e _=>e) (fun _ _ e _=>e) (fun _ _ e _=>e) (fun f z eG _ _ e A=>A f z eG) (fun e _=>e) (fun _ _ _ e _=>e) (fun e _=>e) (fun _ e _=>e) (fun e _=>e) (fun e _=>e) () (fun _ _ _ _=>()) v e k
noncomputable def Mr(v:an)(e:Option Nat)(k:IntKind→Int→Option Nat):Option Nat:=
 an.rec (motive_1:=fun _=>Option Nat→(IntKind→Int→Option Nat)→Option Nat) (motive_2:=fun _=>Unit) (fun _ e _=>e) (fun k n e z=>z k n) (fun _ _ e _=>e) (fun _ _ _ e _=>e) (fun e _=>e) (fun _ _ _ _ _ e _=>e) (fun e _=>e) (fun _ _ e _=>e) (fun _ _ e _=>e) (fun _ _ _ _ _ e _=>e) (fun e _=>e) (fun _ _ _ e _=>e) (fun e _=>e) (fun _ e _=>e) (fun e _=>e) (fun e _=>e) () (fun _ _ _ _=>()) v e k
noncomputable def Ms(v:an)(e:Option an)(k:IntKind→Int→Option an):Option an:=
 an.rec (motive_1:=fun _=>Option an→(IntKind→Int→Option an)→Option an) (motive_2:=fun _=>Unit) (fun _ e _=>e) (fun k n e z=>z k n) (fun _ _ e _=>e) (fun _ _ _ e _=>e) (fun e _=>e) (fun _ _ _ _ _ e _=>e) (fun e _=>e) (fun _ _ e _=>e) (fun _ _ e _=>e) (fun _ _ _ _ _ e _=>e) (fun e _=>e) (fun _ _ _ e _=>e) (fun e _=>e) (fun _ e _=>e) (fun e _=>e) (fun e _=>e) () (fun _ _ _ _=>()) v e k
noncomputable def jK(v:an):Option (List an):=
 an.rec (motive_1:=fun _=>Option (List an)) (motive_2:=fun _=>Unit) (fun b=>some [.bool b]) (fun k n=>some [.int k n]) (fun l v=>some [.str l v]) (fun f g o=>some [.ptr f g o]) (some [.hU]) (fun f g o l es=>some [.slice f g o l es]) (some [.cb]) (fun cs _=>some cs) (fun _ _=>none) (fun f z eG _ _=>some [.func f z eG]) (some [.nC]) (fun t v _=>some [.iface t v]) (some [.gO]) (fun f=>some [.map f]) (some [.tR]) (none) () (fun _ _ _ _=>()) v
noncomputable def iS{β:Type}(o:Option dP)(e:β)(k:Nat→Nat→Nat→Nat→Nat→Nat→RT→β):β:=
 Option.rec (motive:=fun _=>β) e (fun o=>dP.casesOn (motive:=fun _=>β) o k (fun _=>e)) o
noncomputable def jb{β:Type}(i:Int)(e:β)(k:Nat→β):β:=Int.rec (motive:=fun _=>β) k (fun _=>e) i
noncomputable def jf(l:List an):Nat:=List.rec (motive:=fun _=>Nat) 0 (fun _ _ z=>Nat.succ z) l
noncomputable def aB.alloc(H:aB)(o:dP)(k:Nat→aB→aE):aE:=
 aB.casesOn (motive:=fun _=>aE) H fun next bc ws t=>dr next fun f=>t.gq f o fun t=>k f ⟨Nat.succ f,bc,ws,t⟩
noncomputable def pY(f:Nat)(l:List Nat):Bool:=
 List.rec (motive:=fun _=>Bool) false (fun x _ z=>aH (Nat.beq f x) true z) l
noncomputable def wrote(f bc:Nat)(ws:List Nat):List Nat:=
 aH (Nat.ble bc f) ws (aH (pY f ws) ws (f::ws))
noncomputable def rd{β:Type}(H:aB)(f g off n:Nat)(e:β)(k:List an→β):β:=
 iS (H.t.get f) e fun _ es _ m lo _ cs=>
  aH (Nat.ble lo g) (aH (Nat.ble g m) (aH (Nat.ble (Nat.add (Nat.mod off es) n) es) (aH (Nat.ble (Nat.succ (Nat.div off es)) g)
   (ob (cs.get (Nat.div off es)) e fun l=>aH (Nat.beq n es) (k l) (k ((l.drop (Nat.mod off es)).take n))) e) e) e) e
noncomputable def gV(l:List an)(r:Nat)(new:List an):List an:=l.take r++(new++l.drop (r+new.length))
noncomputable def wr(H:aB)(f g off n:Nat)(new:List an)(e:aE)(k:aB→aE):aE:=
 aB.casesOn (motive:=fun _=>aE) H fun next bc ws t=>iS (t.get f) e fun elem es aT m lo fl cs=>
  aH (Nat.beq fl 0) (aH (Nat.beq g m) (aH (Nat.ble lo g) (aH (Nat.ble (Nat.add (Nat.mod off es) n) es) (aH (Nat.ble (Nat.succ (Nat.div off es)) g) (aH (Nat.beq (jf new) n)
   (ob (cs.get (Nat.div off es)) e fun l=>
    cs.gq (Nat.div off es) (aH (Nat.beq n es) new (gV l (Nat.mod off es) new)) fun cs=>t.gq f (.row elem es aT m m 0 cs) fun t=>
     k ⟨next,bc,wrote f bc ws,t⟩) e) e) e) e) e) e
def vI(v i:Nat):Nat:=Nat.mod (Nat.shiftRight v (Nat.mul 8 i)) 256
def xm(v lo hi:Nat):Nat:=Nat.mod (Nat.shiftRight v (Nat.mul 8 lo)) (Nat.shiftLeft 1 (Nat.mul 8 (Nat.sub hi lo)))
def zI(z A G:Nat):Nat:=Nat.add A (Nat.shiftLeft G (Nat.mul 8 z))
noncomputable def strLt(J:Nat):Nat→Nat→Nat→Bool:=
 Nat.rec (motive:=fun _=>Nat→Nat→Nat→Bool) (fun _ z _=>Bool.not (Nat.beq z 0))
  (fun _ K A z G=>Nat.rec (motive:=fun _=>Bool) false (fun I _=>
   match Nat.beq (Nat.mod A 256) (Nat.mod G 256) with
   |true=>K (Nat.div A 256) I (Nat.div G 256)
   |false=>Nat.ble (Nat.succ (Nat.mod A 256)) (Nat.mod G 256)) z) J
def pack:List UInt8→Nat
 |[]=>0
 |b::r=>b.toNat+256*pack r
def dn:IntKind→Nat
 |.i8=>0|.i16=>1|.i32=>2|.i64=>3|.u8=>4|.u16=>5|.u32=>6|.u64=>7
def lV(k:IntKind)(n:Int):Int:=
 match k,n with
 |.i64,.ofNat m=>match Nat.ble m 9223372036854775807 with|true=>.ofNat m|false=>IntKind.wrap .i64 (.ofNat m)
 |.i64,.negSucc m=>match Nat.ble m 9223372036854775807 with|true=>.negSucc m|false=>IntKind.wrap .i64 (.negSucc m)
 |k,n=>k.wrap n
def kQ:Int→Int→Bool
 |.ofNat a,.ofNat b=>Nat.ble (Nat.succ a) b
 |.ofNat _,.negSucc _=>false
 |.negSucc _,.ofNat _=>true
 |.negSucc a,.negSucc b=>Nat.ble (Nat.succ b) a
def me:Int→Int→Bool
 |.ofNat a,.ofNat b=>Nat.beq a b
 |.negSucc a,.negSucc b=>Nat.beq a b
 |_,_=>false
def intBits(op:BinOp)(k:IntKind)(x y:Int):Option Int:=
 let a:=BitVec.ofInt k.bits x
 let b:=BitVec.ofInt k.bits y
 match op with
 |.and=>some (k.wrap ((a&&&b).toNat))
 |.or=>some (k.wrap ((a|||b).toNat))
 |.xor=>some (k.wrap ((a^^^b).toNat))
 |.andNot=>some (k.wrap ((a&&&~~~b).toNat))
 |_=>none
noncomputable def iQ(op:BinOp)(k:IntKind)(a:Int)(z:IntKind)(b:Int):Option an:=
 match op with
 |.shl=>aH (kQ b 0) none (some (.int k (lV k (a*2^(Nat.min b.toNat k.bits)))))
 |.shr=>aH (kQ b 0) none (some (.int k (a.fdiv (2^(Nat.min b.toNat k.bits)))))
 |.add=>aH (Nat.beq (dn k) (dn z)) (some (.int k (lV k (a+b)))) none
 |.sub=>aH (Nat.beq (dn k) (dn z)) (some (.int k (lV k (a-b)))) none
 |.mul=>aH (Nat.beq (dn k) (dn z)) (some (.int k (lV k (a*b)))) none
 |.quo=>aH (Nat.beq (dn k) (dn z)) (aH (me b 0) none (some (.int k (lV k (a.tdiv b))))) none
 |.rem=>aH (Nat.beq (dn k) (dn z)) (aH (me b 0) none (some (.int k (a.tmod b)))) none
 |.eql=>aH (Nat.beq (dn k) (dn z)) (some (.bool (me a b))) none
 |.neq=>aH (Nat.beq (dn k) (dn z)) (some (.bool (Bool.not (me a b)))) none
 |.lss=>aH (Nat.beq (dn k) (dn z)) (some (.bool (kQ a b))) none
 |.leq=>aH (Nat.beq (dn k) (dn z)) (some (.bool (Bool.not (kQ b a)))) none
 |.gtr=>aH (Nat.beq (dn k) (dn z)) (some (.bool (kQ b a))) none
 |.geq=>aH (Nat.beq (dn k) (dn z)) (some (.bool (Bool.not (kQ a b)))) none
 |op=>aH (Nat.beq (dn k) (dn z)) (ob (intBits op k a b) none fun r=>some (.int k r)) none
def rf(z A G I:Nat):Bool:=match Nat.beq z G with|true=>Nat.beq A I|false=>false
noncomputable def GN(op:BinOp)(z G A I:Nat):Option an:=
 match op with
 |.add=>aH (Nat.ble (Nat.add z A) 4611686018427387904) (some (.str (Nat.add z A) (zI z G I))) none
 |.eql=>some (.bool (rf z G A I))
 |.neq=>some (.bool (Bool.not (rf z G A I)))
 |.lss=>some (.bool (strLt z G A I))
 |.leq=>some (.bool (Bool.not (strLt A I z G)))
 |.gtr=>some (.bool (strLt A I z G))
 |.geq=>some (.bool (Bool.not (strLt z G A I)))
 |_=>none
noncomputable def AF(op:BinOp)(x y:an):Option an:=
 match x,y with
 |.int k a,.int z b=>iQ op k a z b
 |.str A G,.str I J=>GN op A G I J
 |_,_=>none
noncomputable def EX(op:UnOp)(x:an):Option an:=
 match op,x with
 |.neg,.int k n=>some (.int k (lV k (0-n)))
 |.xor,.int k n=>ob (intBits .xor k (if k.signed then-1 else k.max) n) none fun r=>some (.int k r)
 |.not,.bool b=>some (.bool (Bool.not b))
 |_,_=>none
def se(c:Nat):an→Bool
 |.int k _=>Nat.beq (dn k) c
 |.bool _=>Nat.beq c 100
 |.str _ _=>Nat.beq c 101
 |_=>false
def kH:List Nat→List an→Bool
 |[],[]=>true
 |c::r,a::s=>se c a&&kH r s
 |_,_=>false
def wS:an→an→Option Bool
 |.int k a,.int z b=>match Nat.beq (dn k) (dn z) with|true=>some (me a b)|false=>none
 |.bool a,.bool b=>some (a==b)
 |.str A G,.str I J=>some (rf A G I J)
 |_,_=>none
def qg:List an→List an→Option Bool
 |[],[]=>some true
 |a::r,b::s=>match wS a b with
  |some true=>qg r s
  |some false=>match qg r s with|some _=>some false|none=>none
  |none=>none
 |_,_=>none
noncomputable def nr(c:yB)(x y:an):Option Bool:=
 match c with
 |.bool=>match x,y with|.bool a,.bool b=>some (a==b)|_,_=>none
 |.ptr=>match x,y with
  |.hU,.hU=>some true
  |.hU,.ptr _ _ _=>some false
  |.ptr _ _ _,.hU=>some false
  |.ptr f g o,.ptr f' g' z=>aH (Nat.beq f f') (aH (Nat.beq g g') (aH (Nat.beq o z) (some true) none) none) none
  |_,_=>none
 |.agg ks=>match x,y with|.agg a,.agg b=>aH (kH ks a) (aH (kH ks b) (qg a b) none) none|_,_=>none
 |.slice=>match x,y with
  |.cb,.cb=>some true
  |.cb,.slice _ _ _ _ _=>some false
  |.slice _ _ _ _ _,.cb=>some false
  |_,_=>none
 |.iface=>match x,y with
  |.gO,.gO=>some true
  |.gO,.iface _ _=>some false
  |.iface _ _,.gO=>some false
  |.iface t _,.iface t' _=>aH (Nat.beq t t') none (some false)
  |_,_=>none
 |.func=>match x,y with
  |.nC,.nC=>some true
  |.nC,.func _ _ _=>some false
  |.func _ _ _,.nC=>some false
  |_,_=>none
 |.map=>match x,y with
  |.tR,.tR=>some true
  |_,_=>none
noncomputable def rF(m n:Nat):Int:=Bool.rec (motive:=fun _=>Int) (.negSucc (Nat.pred (Nat.sub n m))) (.ofNat (Nat.sub m n)) (Nat.ble n m)
noncomputable def OC(x y:Int):Int:=
 Int.rec (motive:=fun _=>Int→Int) (fun m y=>Int.rec (motive:=fun _=>Int) (fun n=>.ofNat (Nat.add m n)) (fun n=>rF m (Nat.succ n)) y)
  (fun m y=>Int.rec (motive:=fun _=>Int) (fun n=>rF n (Nat.succ m)) (fun n=>.negSucc (Nat.succ (Nat.add m n))) y) x y
noncomputable def OD(x y:Int):Int:=
 Int.rec (motive:=fun _=>Int→Int) (fun m y=>Int.rec (motive:=fun _=>Int) (fun n=>rF m n) (fun n=>.ofNat (Nat.add m (Nat.succ n))) y)
  (fun m y=>Int.rec (motive:=fun _=>Int) (fun n=>.negSucc (Nat.add m n)) (fun n=>rF n m) y) x y
noncomputable def A1(x y:Int):Bool:=
 Int.rec (motive:=fun _=>Int→Bool) (fun m y=>Int.rec (motive:=fun _=>Bool) (fun n=>Nat.ble (Nat.succ m) n) (fun _=>false) y)
  (fun m y=>Int.rec (motive:=fun _=>Bool) (fun _=>true) (fun n=>Nat.ble (Nat.succ n) m) y) x y
noncomputable def Ip(x y:Int):Bool:=
 Int.rec (motive:=fun _=>Int→Bool) (fun m y=>Int.rec (motive:=fun _=>Bool) (fun n=>Nat.beq m n) (fun _=>false) y)
  (fun m y=>Int.rec (motive:=fun _=>Bool) (fun _=>false) (fun n=>Nat.beq m n) y) x y
noncomputable def Pg(n:Int):Int:=
 Int.rec (motive:=fun _=>Int) (fun m=>Bool.rec (motive:=fun _=>Int) (IntKind.wrap .i64 (.ofNat m)) (.ofNat m) (Nat.ble m 9223372036854775807))
  (fun m=>Bool.rec (motive:=fun _=>Int) (IntKind.wrap .i64 (.negSucc m)) (.negSucc m) (Nat.ble m 9223372036854775807)) n
noncomputable def wU(mx:Nat)(k:IntKind)(n:Int):Int:=
 Int.rec (motive:=fun _=>Int) (fun m=>Bool.rec (motive:=fun _=>Int) (IntKind.wrap k (.ofNat m)) (.ofNat m) (Nat.ble m mx)) (fun m=>IntKind.wrap k (.negSucc m)) n
noncomputable def Hi(k:IntKind):Int→Int:=
 IntKind.rec (motive:=fun _=>Int→Int) (IntKind.wrap .i8) (IntKind.wrap .i16) (IntKind.wrap .i32) Pg (wU 255 .u8) (wU 65535 .u16) (wU 4294967295 .u32) (wU 18446744073709551615 .u64) k
noncomputable def m8(op:BinOp)(a b:an)(k:an→aE):aE:=ob (AF op a b) (.err 6) fun v=>mE v k
noncomputable def GO(f:Int→Int→Int)(op:BinOp)(a b:an)(k:an→aE):aE:=
 gI a (m8 op a b k) fun z x=>gI b (m8 op a b k) fun A y=>aH (Nat.beq (dn z) (dn A)) (kW (Hi z (f x y)) fun r=>k (.int z r)) (.err 6)
noncomputable def we(f:Int→Int→Bool)(op:BinOp)(a b:an)(k:an→aE):aE:=
 gI a (m8 op a b k) fun A x=>gI b (m8 op a b k) fun z y=>aH (Nat.beq (dn A) (dn z)) (mY (f x y) fun r=>k (.bool r)) (.err 6)
noncomputable def Ph(x y:Int):Bool:=Bool.not (Ip x y)
noncomputable def Pj(x y:Int):Bool:=Bool.not (A1 y x)
noncomputable def Pk(x y:Int):Bool:=A1 y x
noncomputable def Pl(x y:Int):Bool:=Bool.not (A1 x y)
noncomputable def yk(op:BinOp):an→an→(an→aE)→aE:=
 BinOp.rec (motive:=fun _=>an→an→(an→aE)→aE) (GO OC .add) (GO OD .sub) (m8 .mul) (m8 .quo) (m8 .rem) (m8 .and) (m8 .or) (m8 .xor) (m8 .shl) (m8 .shr) (m8 .andNot)
  (we Ip .eql) (we Ph .neq) (we A1 .lss) (we Pj .leq) (we Pk .gtr) (we Pl .geq) op
def gW:an→Bool
 |.agg _=>false|.tuple _=>false|.undef=>false|_=>true
noncomputable def iG(agg:Bool)(l:List an)(e:aE)(k:an→aE):aE:=
 aH agg (k (.agg l)) (List.rec (motive:=fun _=>aE) e (fun v r _=>List.rec (motive:=fun _=>aE) (k v) (fun _ _ _=>e) r) l)
noncomputable def aG.ev(x:aG)(E:Env):Option an:=
 aG.casesOn (motive:=fun _=>Option an) x (fun n=>E.get n) some
noncomputable def bB(x:aG)(E:Env)(e:aE)(k:an→aE):aE:=
 aG.casesOn (motive:=fun _=>aE) x (fun n=>ob (E.get n) e k) k
noncomputable def jF(E:Env)(l:List aG):Option (List an):=
 List.rec (motive:=fun _=>Option (List an)) (some []) (fun x _ z=>ob (x.ev E) none fun v=>ob z none fun vs=>some (v::vs)) l
noncomputable def gL(E:Env)(x:Option aG)(z y:Nat)(e:aE)(k:Nat→aE):aE:=
 Option.rec (motive:=fun _=>aE) (k z) (fun x=>ob (x.ev E) e fun v=>gI v e fun _ i=>jb i e fun n=>aH (Nat.ble n y) (k n) e) x
noncomputable def idx(v:an)(n:Nat)(e:aE)(k:Nat→aE):aE:=
 gI v e fun _ i=>jb i e fun i=>aH (Nat.ble (Nat.succ i) n) (k i) e
noncomputable def elems(H:aB)(f g es:Nat)(n:Nat):Nat→Option (List (List an)):=
 Nat.rec (motive:=fun _=>Nat→Option (List (List an))) (fun _=>some [])
  (fun _ z off=>rd H f g off es none fun l=>ob (z (Nat.add off es)) none fun r=>some (l::r)) n
noncomputable def jt(l:List (List an)):RT→Nat→RT:=
 List.rec (motive:=fun _=>RT→Nat→RT) (fun t _=>t) (fun x _ z t i=>z (t.set i x) (Nat.succ i)) l
noncomputable def sj(l:List (List an)):RT→Nat→(RT→aE)→aE:=
 List.rec (motive:=fun _=>RT→Nat→(RT→aE)→aE) (fun t _ c=>c t) (fun x _ z t i c=>t.gq i x fun t=>dr (Nat.succ i) fun i=>z t i c) l
theorem vo:∀(l:List (List an))(t:RT)(i:Nat)(c:RT→aE),sj l t i c=c (jt l t i)
 |[],_,_,_=>rfl
 |x::l,t,i,c=>by
  show(t.gq i x fun t=>dr (Nat.succ i) fun i=>sj l t i c)=c (jt l (t.set i x) (i+1))
  rw[RT.j8,im,vo l]
noncomputable def pP(x:List an)(n:Nat):RT:=
 Nat.rec (motive:=fun _=>RT) .emp (fun m t=>t.set m x) n
noncomputable def Ez(x:List an)(n:Nat):(RT→aE)→aE:=
 Nat.rec (motive:=fun _=>(RT→aE)→aE) (fun c=>c .emp) (fun m z c=>z fun t=>t.gq m x c) n
theorem Gp(x:List an):∀(n:Nat)(c:RT→aE),Ez x n c=c (pP x n)
 |0,_=>rfl
 |n+1,c=>by
  show(Ez x n fun t=>t.gq n x c)=c ((pP x n).set n x)
  rw[Gp x n,RT.j8]
noncomputable def oz(l:Nat):Nat→List (List an):=
 Nat.rec (motive:=fun _=>Nat→List (List an)) (fun _=>[]) (fun _ z v=>[an.int .u8 (Int.ofNat (Nat.mod v 256))]::z (Nat.div v 256)) l
noncomputable def pI(E:Env)(parts:List (Nat×Nat×aG)):List an→Option (List an):=
 List.rec (motive:=fun _=>List an→Option (List an)) some
  (fun p _ z cells=>ob (p.2.2.ev E) none fun v=>ob (jK v) none fun new=>aH (Nat.beq (jf new) p.2.1) (z (gV cells p.1 new)) none) parts
noncomputable def qh(E:Env)(es z:Nat)(parts:List (Nat×aG)):RT→Option RT:=
 List.rec (motive:=fun _=>RT→Option RT) some
  (fun p _ A t=>ob (p.2.ev E) none fun v=>ob (jK v) none fun new=>aH (Nat.beq (jf new) es) (aH (Nat.ble (Nat.succ p.1) z) (A (t.set p.1 new)) none) none) parts
noncomputable def vJ(elem es aT n:Nat)(new:List (List an))(H:aB):aE:=
 aH (Nat.ble (Nat.mul n aT) 70368744177664)
  (sj new .emp 0 fun cs=>H.alloc (.row elem es aT n n 0 cs) fun f H=>.ok (.slice f n 0 n es) H) (.err 35)
noncomputable def xn(elem es aT n:Nat)(new:List (List an))(H:aB)(f g off I gM:Nat):aE:=
 aB.casesOn (motive:=fun _=>aE) H fun next bc ws t=>iS (t.get f) (.err 33) fun z A my m lo fl cs=>
  aH (Nat.beq off 0) (aH (Nat.beq g m) (aH (Nat.ble lo g) (aH (Nat.beq I m) (aH (Nat.beq gM es) (aH (Nat.beq A es) (aH (Nat.beq fl 1) (.err 32)
   (aH (Nat.ble (Nat.mul (Nat.add m n) aT) 70368744177664) (aH (Nat.beq elem z)
    (dr (Nat.add m n) fun G=>sj new cs m fun cs=>t.gq f (.row z A my G lo fl cs) fun t=>
     .ok (.slice f G 0 G es) ⟨next,bc,wrote f bc ws,t⟩) (.err 32)) (.err 32))) (.err 32)) (.err 32)) (.err 32)) (.err 32)) (.err 32)) (.err 32)
noncomputable def jW(elem es aT n:Nat)(new:List (List an))(H:aB)(x:an):aE:=
 Nat.rec (motive:=fun _=>aE) (gP x (.err 31) (.ok x H) fun _ _ _ _ _=>.ok x H)
  (fun n _=>gP x (.err 34) (vJ elem es aT (Nat.succ n) new H) (xn elem es aT (Nat.succ n) new H)) n
noncomputable def l9(x:aG)(E:Env)(H:aB):aE:=bB x E (.err 1) fun v=>.ok v H
noncomputable def z8(c a b:aG)(E:Env)(H:aB):aE:=bB c E (.err 2) fun v=>sd v (.err 2) fun t=>aH t (l9 a E H) (l9 b E H)
noncomputable def vT(elem es aT:Nat)(cells:List an)(_:Env)(H:aB):aE:=
 H.alloc (.row elem es aT 1 1 0 (.one cells)) fun f H=>.ok (.ptr f 1 0) H
noncomputable def AG(elem es aT:Nat)(x:aG)(E:Env)(H:aB):aE:=
 bB x E (.err 3) fun v=>ob (jK v) (.err 3) fun l=>aH (Nat.beq (jf l) es) (vT elem es aT l E H) (.err 3)
noncomputable def Aa(n:Nat)(agg:Bool)(a:aG)(E:Env)(H:aB):aE:=
 bB a E (.err 4) fun v=>iu v (.err 4) fun f g off=>rd H f g off n (.err 4) fun l=>iG agg l (.err 4) fun v=>.ok v H
noncomputable def zJ(n:Nat)(a x:aG)(E:Env)(H:aB):aE:=
 bB a E (.err 5) fun p=>iu p (.err 5) fun f g off=>bB x E (.err 5) fun v=>ob (jK v) (.err 5) fun l=>wr H f g off n l (.err 5) fun H=>.ok .undef H
noncomputable def AH(op:BinOp)(x y:aG)(E:Env)(H:aB):aE:=
 bB x E (.err 6) fun a=>bB y E (.err 6) fun b=>yk op a b fun v=>.ok v H
noncomputable def yC(c:yB)(neg:Bool)(x y:aG)(E:Env)(H:aB):aE:=
 bB x E (.err 7) fun a=>bB y E (.err 7) fun b=>ob (nr c a b) (.err 7) fun r=>mY (Bool.xor neg r) fun r=>.ok (.bool r) H
noncomputable def A2(op:UnOp)(x:aG)(E:Env)(H:aB):aE:=bB x E (.err 8) fun a=>ob (EX op a) (.err 8) fun v=>mE v fun v=>.ok v H
noncomputable def Ab(x:aG)(k:Nat)(E:Env)(H:aB):aE:=
 bB x E (.err 9) fun v=>iu v (.err 9) fun f g off=>dr (Nat.add off k) fun off=>.ok (.ptr f g off) H
noncomputable def AI(x:aG)(off n:Nat)(agg:Bool)(E:Env)(H:aB):aE:=
 bB x E (.err 10) fun v=>oZ v (.err 10) fun cs=>aH (Nat.ble (Nat.add off n) (jf cs)) (iG agg ((cs.drop off).take n) (.err 10) fun v=>.ok v H) (.err 10)
noncomputable def zk(z es:Nat)(x i:aG)(E:Env)(H:aB):aE:=
 bB x E (.err 11) fun v=>iu v (.err 11) fun f g off=>bB i E (.err 11) fun A=>idx A z (.err 11) fun j=>dr (Nat.add off (Nat.mul j es)) fun off=>.ok (.ptr f g off) H
noncomputable def zK(es:Nat)(x i:aG)(E:Env)(H:aB):aE:=
 bB x E (.err 12) fun v=>gP v (.err 12) (.err 12) fun f g off z _=>bB i E (.err 12) fun A=>idx A z (.err 12) fun j=>dr (Nat.add off (Nat.mul j es)) fun off=>.ok (.ptr f g off) H
noncomputable def zl(z es:Nat)(agg:Bool)(x i:aG)(E:Env)(H:aB):aE:=
 bB x E (.err 13) fun v=>oZ v (.err 13) fun cs=>bB i E (.err 13) fun A=>idx A z (.err 13) fun j=>
  aH (Nat.ble (Nat.add (Nat.mul j es) es) (jf cs)) (iG agg ((cs.drop (Nat.mul j es)).take es) (.err 13) fun v=>.ok v H) (.err 13)
noncomputable def zm(x i:aG)(E:Env)(H:aB):aE:=
 bB x E (.err 14) fun v=>jR v (.err 14) fun l s=>bB i E (.err 14) fun z=>idx z l (.err 14) fun j=>dr (vI s j) fun b=>.ok (.int .u8 (.ofNat b)) H
noncomputable def zL(x:aG)(lo hi:Option aG)(E:Env)(H:aB):aE:=
 bB x E (.err 15) fun v=>jR v (.err 15) fun l s=>gL E hi l l (.err 15) fun h=>gL E lo 0 h (.err 15) fun lo=>
  dr (Nat.sub h lo) fun n=>dr (xm s lo h) fun s=>.ok (.str n s) H
noncomputable def Ac(es:Nat)(x:aG)(lo hi:Option aG)(E:Env)(H:aB):aE:=
 bB x E (.err 16) fun v=>gP v (.err 16) (gL E hi 0 0 (.err 16) fun h=>gL E lo 0 h (.err 16) fun _=>.ok .cb H)
  fun f g off z gM=>aH (Nat.beq es gM) (gL E hi z z (.err 16) fun h=>gL E lo 0 h (.err 16) fun lo=>
   dr (Nat.add off (Nat.mul lo es)) fun off=>dr (Nat.sub h lo) fun n=>.ok (.slice f g off n gM) H) (.err 16)
noncomputable def Cy(z es:Nat)(x:aG)(lo hi:Option aG)(E:Env)(H:aB):aE:=
 bB x E (.err 17) fun v=>iu v (.err 17) fun f g off=>iS (H.t.get f) (.err 17) fun _ gM _ m A _ _=>
  aH (Nat.ble A g) (aH (Nat.ble g m) (aH (Nat.ble (Nat.add off (Nat.mul z es)) (Nat.mul g gM)) (gL E hi z z (.err 17) fun h=>gL E lo 0 h (.err 17) fun lo=>
   dr (Nat.add off (Nat.mul lo es)) fun off=>dr (Nat.sub h lo) fun n=>.ok (.slice f g off n es) H) (.err 17)) (.err 17)) (.err 17)
noncomputable def Ad(x:aG)(i:Nat)(E:Env)(H:aB):aE:=bB x E (.err 18) fun v=>rZ v (.err 18) fun vs=>ob (vs[i]?) (.err 18) fun v=>.ok v H
def w7:an→Bool
 |.ptr _ _ _=>true|.func _ _ _=>true|_=>false
noncomputable def zM(x:aG)(E:Env)(H:aB):aE:=bB x E (.err 19) fun v=>aH (w7 v) (.ok v H) (.err 19)
noncomputable def Ae(f:Nat)(first eG:List aG)(E:Env)(H:aB):aE:=ob (jF E first) (.err 20) fun z=>ob (jF E eG) (.err 20) fun vs=>.ok (.func f z vs) H
noncomputable def Af(t:Nat)(x:aG)(E:Env)(H:aB):aE:=bB x E (.err 21) fun v=>.ok (.iface t v) H
noncomputable def Ag(elem es aT:Nat)(zero:List an)(z A:aG)(E:Env)(H:aB):aE:=
 bB z E (.err 22) fun a=>gI a (.err 22) fun _ a=>jb a (.err 22) fun l=>bB A E (.err 22) fun b=>gI b (.err 22) fun _ b=>jb b (.err 22) fun c=>
  aH (Nat.ble l c) (aH (Nat.ble (Nat.mul c aT) 70368744177664) (aH (Nat.ble c 4611686018427387904)
   (Ez zero l fun cs=>H.alloc (.row elem es aT l l 0 cs) fun f H=>.ok (.slice f l 0 l es) H) (.err 22)) (.err 22)) (.err 22)
noncomputable def Cz(zero:List an)(parts:List (Nat×Nat×aG))(E:Env)(H:aB):aE:=ob (pI E parts zero) (.err 23) fun cs=>.ok (.agg cs) H
noncomputable def BY(elem es aT z:Nat)(zero:List an)(parts:List (Nat×aG))(E:Env)(H:aB):aE:=
 ob (qh E es z parts (pP zero z)) (.err 24) fun t=>H.alloc (.row elem es aT z z 0 t) fun f H=>.ok (.slice f z 0 z es) H
noncomputable def AJ(x:aG)(E:Env)(H:aB):aE:=bB x E (.err 25) fun v=>gP v (.err 25) (.ok (.int .i64 (.ofNat 0)) H) fun _ _ _ l _=>.ok (.int .i64 (.ofNat l)) H
noncomputable def Ah(x:aG)(E:Env)(H:aB):aE:=bB x E (.err 25) fun v=>jR v (.err 25) fun l _=>.ok (.int .i64 (.ofNat l)) H
noncomputable def N4(n:Nat)(_:Env)(H:aB):aE:=.ok (.int .i64 (.ofNat n)) H
noncomputable def AK(elem es aT:Nat)(x y:aG)(E:Env)(H:aB):aE:=
 bB x E (.err 26) fun a=>bB y E (.err 26) fun b=>gP b (.err 26) (jW elem es aT 0 [] H a) fun f g off n _=>
  ob (elems H f g es n off) (.err 26) fun l=>jW elem es aT n l H a
noncomputable def zn(elem:Nat)(x y:aG)(E:Env)(H:aB):aE:=
 bB x E (.err 27) fun a=>bB y E (.err 27) fun b=>jR b (.err 27) fun l v=>jW elem 1 1 l (oz l v) H a
noncomputable def VZ(_:Nat)(_ _:aG)(_:Env)(_:aB):aE:=.err 28
noncomputable def EY(mx:Bool)(k:IntKind)(l:List an):Int→Option an:=
 List.rec (motive:=fun _=>Int→Option an) (fun a=>some (.int k a))
  (fun v _ z a=>Ms v none fun _ b=>kW (aH (aH mx (kQ a b) (kQ b a)) b a) z) l
noncomputable def zo(mx:Bool)(x:aG)(ys:List aG)(E:Env)(H:aB):aE:=
 bB x E (.err 29) fun a=>gI a (.err 29) fun k a=>ob (jF E ys) (.err 29) fun vs=>ob (EY mx k vs a) (.err 29) fun v=>.ok v H
noncomputable def Ai(k:IntKind)(x:aG)(E:Env)(H:aB):aE:=bB x E (.err 36) fun v=>gI v (.err 36) fun _ n=>kW (lV k n) fun n=>.ok (.int k n) H
noncomputable def zp(elem:Nat)(x:aG)(E:Env)(H:aB):aE:=
 bB x E (.err 38) fun v=>jR v (.err 38) fun l s=>aH (Nat.ble l 70368744177664)
  (sj (oz l s) .emp 0 fun cs=>H.alloc (.row elem 1 1 l l 3 cs) fun f H=>.ok (.slice f l 0 l 1) H) (.err 38)
noncomputable def nD(l:List (List an)):Option Nat:=
 List.rec (motive:=fun _=>Option Nat) (some 0) (fun c _ z=>List.rec (motive:=fun _=>Option Nat) none (fun v r _=>List.rec (motive:=fun _=>Option Nat)
  (Mr v none fun k i=>aH (Nat.beq (dn k) 4) (jb i none fun b=>aH (Nat.ble b 255) (ob z none fun v=>some (Nat.add b (Nat.mul 256 v))) none) none) (fun _ _ _=>none) r) c) l
noncomputable def zq(x:aG)(E:Env)(H:aB):aE:=
 bB x E (.err 39) fun v=>gP v (.err 39) (.ok (.str 0 0) H) fun f g off n _=>
  ob (elems H f g 1 n off) (.err 39) fun l=>ob (nD l) (.err 39) fun s=>dr s fun s=>.ok (.str n s) H
def xo:an→Bool
 |.hU=>true|_=>false
noncomputable def zN(t n:Nat)(x:aG)(E:Env)(H:aB):aE:=
 bB x E (.err 44) fun v=>aH (xo v) (.ok v H) (iu v (.err 44) fun f g off=>iS (H.t.get f) (.err 44) fun elem es _ m lo fl _=>
  aH (Nat.beq elem t) (aH (Nat.beq es n) (aH (Nat.beq off 0) (aH (Nat.ble lo g) (aH (Nat.ble g m) (aH (Nat.ble 1 g) (aH (Nat.beq fl 0) (.ok v H) (.err 44)) (.err 44)) (.err 44)) (.err 44)) (.err 44)) (.err 44)) (.err 44))
noncomputable def AL(x:aG)(E:Env)(H:aB):aE:=
 bB x E (.err 45) fun v=>gP v (.err 45) (.ok .hU H) fun f g off l _=>aH (Nat.beq l 0) (.err 45) (.ok (.ptr f g off) H)
noncomputable def mA(f e:Nat)(H:aB)(k:aB→aE):aE:=
 aB.casesOn (motive:=fun _=>aE) H fun next bc ws t=>iS (t.get f) (.err 46) fun elem es aT m lo fl cs=>
  aH (Nat.beq elem e) (aH (Nat.beq es 1) (aH (aH (Nat.beq fl 0) true (Nat.beq fl 2)) (t.gq f (.row elem es aT m lo 2 cs) fun t=>k ⟨next,bc,wrote f bc ws,t⟩) (.err 46)) (.err 46)) (.err 46)
noncomputable def vU(e:Nat)(x n:aG)(E:Env)(H:aB):aE:=
 bB x E (.err 46) fun p=>aH (xo p) (bB n E (.err 46) fun z=>gI z (.err 46) fun k i=>jb i (.err 46) fun l=>aH (Nat.beq (dn k) 3) (aH (Nat.beq l 0) (.ok (.str 0 0) H) (.err 46)) (.err 46))
  (iu p (.err 46) fun f g off=>bB n E (.err 46) fun z=>gI z (.err 46) fun k i=>jb i (.err 46) fun l=>
  aH (Nat.beq off 0) (aH (Nat.beq (dn k) 3) (aH (Nat.ble 1 l) (aH (Nat.ble l 70368744177664) (ob (elems H f g 1 l 0) (.err 46) fun L=>ob (nD L) (.err 46) fun s=>dr s fun s=>mA f e H fun H=>.ok (.str l s) H) (.err 46)) (.err 46)) (.err 46)) (.err 46))
abbrev eF:=Nat→List an→aB→aE
noncomputable def Aj(f:Nat)(args:List aG)(call:eF)(E:Env)(H:aB):aE:=ob (jF E args) (.err 42) fun vs=>call f vs H
noncomputable def zO(x:aG)(args:List aG)(call:eF)(E:Env)(H:aB):aE:=
 bB x E (.err 43) fun v=>tS v (.err 43) fun f z eG=>ob (jF E args) (.err 43) fun vs=>call f (z++(vs++eG)) H
noncomputable def bE.ev(o:bE):eF→Env→aB→aE:=
 bE.rec (motive:=fun _=>eF→Env→aB→aE)
  (fun x _=>l9 x) (fun c a b _=>z8 c a b) (fun a b c d _=>vT a b c d) (fun a b c d _=>AG a b c d) (fun a b c _=>Aa a b c) (fun a b c _=>zJ a b c)
  (fun a b c _=>AH a b c) (fun a b c d _=>yC a b c d) (fun a b _=>A2 a b) (fun a b _=>Ab a b) (fun a b c d _=>AI a b c d) (fun a b c d _=>zk a b c d)
  (fun a b c _=>zK a b c) (fun a b c d e _=>zl a b c d e) (fun a b _=>zm a b) (fun a b c _=>zL a b c) (fun a b c d _=>Ac a b c d) (fun a b c d e _=>Cy a b c d e)
  (fun a b _=>Ad a b) (fun a _=>zM a) (fun a b c _=>Ae a b c) (fun a b _=>Af a b) (fun a b c d e f _=>Ag a b c d e f) (fun a b _=>Cz a b)
  (fun a b c d e f _=>BY a b c d e f) (fun a _=>AJ a) (fun a _=>N4 a) (fun a _=>Ah a) (fun a b c d e _=>AK a b c d e) (fun a b c _=>zn a b c) (fun a b c _=>VZ a b c)
  (fun a b c _=>zo a b c) (fun a b _=>Ai a b) (fun a _=>l9 a) (fun a b _=>zp a b) (fun a _=>zq a) (fun f args=>Aj f args) (fun x args=>zO x args) (fun a b c _=>zN a b c) (fun a _=>AL a) (fun a b c _=>vU a b c) o
noncomputable def fin(dst:Option Key)(E:Env)(k:Env→aB→eD)(r:aE):eD:=
 aE.rec (motive:=fun _=>eD) (fun v H=>Option.rec (motive:=fun _=>eD) (k E H) (fun d=>E.yj d v fun E=>k E H) dst) .err r
noncomputable def bt.run(call:eF)(o:bt)(E:Env)(H:aB)(k:Env→aB→eD):eD:=fin o.dst E k (o.op.ev call E H)
noncomputable def ku(dst:Option Key)(E:Env)(H:aB)(k:Env→aB→eD):eD:=
 Option.rec (motive:=fun _=>eD) (k E H) (fun d=>E.yj d .undef fun E=>k E H) dst
noncomputable def bt.step(call:eF)(o:bt)(E:Env)(H:aB)(k:Env→aB→eD):eD:=
 Option.rec (motive:=fun _=>eD) (o.run call E H k)
  (fun g=>ob (E.get g.1) (.err 51) fun v=>wc v (ku o.dst E H k) fun b=>aH (Bool.xor b g.2) (ku o.dst E H k) (o.run call E H k)) o.g
noncomputable def mJ(call:eF)(l:List bt):Env→aB→eD:=
 List.rec (motive:=fun _=>Env→aB→eD) eD.ok (fun o _ z E H=>o.step call E H z) l
structure FP where
 rd:Option (List Nat)
 ws:List Nat
 lo:Nat
 hi:Nat
def iT:Option an→List Nat
 |some (.ptr f _ _)=>[f]
 |some (.slice f _ _ _ _)=>[f]
 |_=>[]
noncomputable def bE.reads(E:Env):bE→Option (List Nat)
 |.load _ _ a=>some (iT (a.ev E))
 |.app _ _ _ x y=>some (iT (x.ev E)++iT (y.ev E))
 |.sc _ x _=>some (iT (x.ev E))
 |.pH x=>some (iT (x.ev E))
 |.vS _ _ x _ _=>some (iT (x.ev E))
 |.store _ a _=>some (iT (a.ev E))
 |.qp _ _ x=>some (iT (x.ev E))
 |.qw _ x _=>some (iT (x.ev E))
 |.call _ _=>none
 |.mI _ _=>none
 |.copy _ _ _=>none
 |_=>some []
noncomputable def xR(l m:List Nat):Bool:=
 List.rec (motive:=fun _=>Bool) true (fun x _ z=>aH (pY x m) false z) l
noncomputable def uN(l:List Nat)(lo hi:Nat):Bool:=
 List.rec (motive:=fun _=>Bool) true (fun x _ z=>aH (Nat.ble lo x) (aH (Nat.ble hi x) z false) z) l
noncomputable def Ak(l:List Nat)(r:Option (List Nat)):Bool:=
 List.rec (motive:=fun _=>Bool) true (fun _ _ _=>Option.rec (motive:=fun _=>Bool) false (fun r=>xR l r) r) l
noncomputable def r4(a b:FP):Bool:=
 aH (Ak a.ws b.rd) (aH (Ak b.ws a.rd) (aH (xR a.ws b.ws) (uN a.ws b.lo b.hi) false) false) false
noncomputable def pv(a:FP)(bS:List FP)(l:List Nat):Bool:=
 List.rec (motive:=fun _=>Bool) true (fun i _ z=>ob (bS[i]?) false fun b=>aH (r4 a b) z false) l
noncomputable def ot(bc:Nat)(ws new:List Nat):List Nat:=
 List.rec (motive:=fun _=>List Nat) ws (fun f _ z=>wrote f bc z) new
noncomputable def yl(rs:Option (List Nat))(l:List Nat)(next bc:Nat)(ws:List Nat)(bS:List FP)(dst:Option Key)(E:Env)(k:Env→aB→List FP→eD)(r:aE):eD:=
 aE.rec (motive:=fun _=>eD) (fun v H'=>aB.casesOn (motive:=fun _=>eD) H' fun next' _ z t'=>
  aH (pv ⟨rs,z,next,next'⟩ bS l)
   (Option.rec (motive:=fun _=>eD) (k E ⟨next',bc,ot bc ws z,t'⟩ (⟨rs,z,next,next'⟩::bS))
    (fun d=>E.yj d v fun E=>k E ⟨next',bc,ot bc ws z,t'⟩ (⟨rs,z,next,next'⟩::bS)) dst) (.err 50)) .err r
noncomputable def bt.WO(call:eF)(o:bt)(l:List Nat)(E:Env)(H:aB)(bS:List FP)(k:Env→aB→List FP→eD):eD:=
 aB.casesOn (motive:=fun _=>eD) H fun next bc ws t=>dr next fun next=>yl (o.op.reads E) l next bc ws bS o.dst E k (o.op.ev call E ⟨next,next,[],t⟩)
noncomputable def bt.pZ(call:eF)(o:bt)(E:Env)(H:aB)(bS:List FP)(k:Env→aB→List FP→eD):eD:=
 Option.rec (motive:=fun _=>eD) (o.run call E H fun E H=>k E H bS) (fun l=>o.WO call l E H bS k) o.q
noncomputable def rh(q:Option (List Nat))(bS:List FP):List FP:=Option.rec (motive:=fun _=>List FP) bS (fun _=>⟨some [],[],0,0⟩::bS) q
noncomputable def bt.m9(call:eF)(o:bt)(E:Env)(H:aB)(bS:List FP)(k:Env→aB→List FP→eD):eD:=
 Option.rec (motive:=fun _=>eD) (o.pZ call E H bS k)
  (fun g=>ob (E.get g.1) (.err 51) fun v=>wc v (ku o.dst E H fun E H=>k E H (rh o.q bS)) fun b=>aH (Bool.xor b g.2) (ku o.dst E H fun E H=>k E H (rh o.q bS)) (o.pZ call E H bS k)) o.g
noncomputable def lU(call:eF)(l:List bt):Env→aB→List FP→eD:=
 List.rec (motive:=fun _=>Env→aB→List FP→eD) (fun E H _=>.ok E H) (fun o _ z E H bS=>o.m9 call E H bS z) l
noncomputable def tz(r:Out)(k:Env→aB→Out):Out:=
 Out.rec (motive:=fun _=>Out) (fun x E H=>Ex.rec (motive:=fun _=>Out) (k E H) (fun id=>.ok (.exit id) E H) (.ok .ret E H) x) .err r
noncomputable def uv(f:Env→aB→Out)(n:Nat):Env→aB→Out:=
 Nat.rec (motive:=fun _=>Env→aB→Out) (fun _ _=>.err 60) (fun _ z E H=>tz (f E H) z) n
noncomputable def yD(r:eD):Out:=eD.rec (motive:=fun _=>Out) (fun E H=>.ok .normal E H) .err r
noncomputable def V0(E:Env)(H:aB):Out:=.ok .normal E H
noncomputable def Ty(call:eF)(draw:Bool)(ops:List bt):Env→aB→Out:=
 aH draw (fun E H=>yD (lU call ops E H [])) (fun E H=>yD (mJ call ops E H))
noncomputable def WQ(_ _:IC)(a b:Env→aB→Out)(E:Env)(H:aB):Out:=tz (a E H) b
noncomputable def Hj(c:aG)(_ _:IC)(a b:Env→aB→Out)(E:Env)(H:aB):Out:=
 ob (c.ev E) (.err 61) fun v=>Ly v (.err 61) fun t=>aH t (a E H) (b E H)
noncomputable def zP(id:Nat)(_:IC)(b:Env→aB→Out)(E:Env)(H:aB):Out:=
 Out.rec (motive:=fun _=>Out) (fun x E H=>Ex.rec (motive:=fun _=>Out) (.ok .normal E H) (fun z=>aH (Nat.beq z id) (.ok .normal E H) (.ok (.exit z) E H)) (.ok .ret E H) x) .err (b E H)
noncomputable def V1(lf:Nat)(_:IC)(b:Env→aB→Out):Env→aB→Out:=uv b lf
noncomputable def V2(id:Nat)(E:Env)(H:aB):Out:=.ok (.exit id) E H
noncomputable def WR(E:Env)(H:aB):Out:=.ok .ret E H
noncomputable def IC.ev(call:eF)(lf:Nat)(c:IC):Env→aB→Out:=
 IC.rec (motive:=fun _=>Env→aB→Out) V0 (Ty call) WQ Hj zP (V1 lf) V2 WR c
noncomputable def params(ks:List Key):List an→Env→(Env→aE)→aE:=
 List.rec (motive:=fun _=>List an→Env→(Env→aE)→aE) (fun l E c=>List.rec (motive:=fun _=>aE) (c E) (fun _ _ _=>.err 71) l)
  (fun k _ z l E c=>List.rec (motive:=fun _=>aE) (.err 71) (fun v r _=>E.gq k v fun E=>z r E c) l) ks
noncomputable def ym(E:Env)(H:aB)(r:lJ)(e:aE)(k:an→aE):aE:=
 lJ.casesOn (motive:=fun _=>aE) r (fun t=>ob (E.get t) e k)
  (fun a n agg=>ob (E.get a) e fun v=>iu v e fun f g off=>rd H f g off n e fun l=>iG agg l e k)
noncomputable def uw(E:Env)(H:aB)(l:List lJ)(e:aE):(List an→aE)→aE:=
 List.rec (motive:=fun _=>(List an→aE)→aE) (fun k=>k []) (fun r _ z k=>ym E H r e fun v=>z fun vs=>k (v::vs)) l
noncomputable def results(E:Env)(H:aB)(rs:List lJ):aE:=
 uw E H rs (.err 70) fun vs=>List.rec (motive:=fun _=>aE) (.ok (.tuple []) H) (fun v r _=>List.rec (motive:=fun _=>aE) (.ok v H) (fun _ _ _=>.ok (.tuple (v::r)) H) r) vs
noncomputable def sC(call:eF)(lf:Nat)(fn:bA)(args:List an)(H:aB):aE:=
 params fn.ps args .emp fun E=>Out.rec (motive:=fun _=>aE) (fun x E H=>Ex.rec (motive:=fun _=>aE) (results E H fn.res) (fun _=>.err 72) (results E H fn.res) x) .err (fn.body.ev call lf E H)
noncomputable def AM(c:Nat)(l:Nat):Nat→Nat→Int:=
 Nat.rec (motive:=fun _=>Nat→Nat→Int) (fun _ _=>Int.negSucc 0)
  (fun _ z s i=>aH (Nat.beq (Nat.mod s 256) c) (Int.ofNat i) (dr (Nat.div s 256) fun s=>dr (Nat.succ i) fun i=>z s i)) l
noncomputable def FH(args:List an)(H:aB):aE:=
 List.rec (motive:=fun _=>aE) (.err 90) (fun x r _=>List.rec (motive:=fun _=>aE) (.err 90) (fun y _ _=>
  jR x (.err 90) fun l s=>gI y (.err 90) fun k c=>jb c (.err 90) fun c=>aH (Nat.beq (dn k) 4) (aH (Nat.ble c 255) (aH (Nat.beq (jf r) 1) (kW (AM c l s 0) fun i=>.ok (.int .i64 i) H) (.err 90)) (.err 90)) (.err 90)) r) args
noncomputable def Hk(args:List an)(H:aB):aE:=
 List.rec (motive:=fun _=>aE) (.err 91) (fun x r _=>List.rec (motive:=fun _=>aE) (.ok x H) (fun _ _ _=>.err 91) r) args
noncomputable def Hl(args:List an)(H:aB):aE:=
 List.rec (motive:=fun _=>aE) (.ok (.bool true) H) (fun _ _ _=>.err 92) args
def o6:Nat→Nat→List UInt8
 |0,_=>[]
 |l+1,s=>UInt8.ofNat (s % 256)::o6 l (s/256)
noncomputable def ux:List an→aB→aE
 |[.str l s,.int k a,.int z b],H=>if k= .i64∧a=10∧z= .i64∧b=64∧l≤1000 then(match Lib.parseUintB 64 (o6 l s) with
  |.ok u=>.ok (.tuple [.int .u64 u,.gO]) H
  |_=>.err 93) else .err 93
 |_,_=>.err 93
noncomputable def sE(t:Nat):List an→aB→aE
 |[.str l s,.int k a,.int z b],H=>if k= .i64∧a=10∧z= .i64∧b=64∧l≤1000 then(match Lib.parseIntB 64 (o6 l s) with
  |.ok v=>.ok (.tuple [.int .i64 v,.gO]) H
  |.range=>.ok (.tuple [.int .i64 (Lib.intSat 64 (o6 l s)),.iface t (.map 0)]) H
  |_=>.err 93) else .err 93
 |_,_=>.err 93
noncomputable def OE(c:Nat)(args:List an)(H:aB):aE:=match c with
 |0=>ux args H
 |c+1=>sE c args H
noncomputable def qy(c:Nat)(args:List an)(H:aB):aE:=
 Nat.rec (motive:=fun _=>aE) (FH args H) (fun c _=>Nat.rec (motive:=fun _=>aE) (Hk args H) (fun c _=>Nat.rec (motive:=fun _=>aE) (Hl args H) (fun c _=>OE c args H) c) c) c
noncomputable def A3(ft:Tr bA)(xt:Tr Nat)(lf:Nat)(n:Nat):eF:=
 Nat.rec (motive:=fun _=>eF) (fun _ _ _=>.err 80) (fun _ z f args H=>ob (ft.get f) (ob (xt.get f) (.err (Nat.add 10000 f)) fun c=>qy c args H) fun fn=>sC z lf fn args H) n
end Go.Ev
