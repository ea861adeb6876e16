/- Part 1 of rules for walks through the code of a program, and of such walks; what each part proves is said by its theorems. -/
import Derived.Test.YtijnechfhdlgiaaGreatDoorS0
import Derived.Lib.ParseIntB
set_option linter.unusedVariables false
set_option linter.unusedSimpArgs false
noncomputable section
set_option maxRecDepth 100000
set_option maxHeartbeats 4000000
namespace Go.Ev
theorem aa{α:Sort _}{a:α}:a=a:=rfl
inductive ax where
 |bool (b:Bool)
 |int (k:IntKind) (n:Int)
 |str (l v:Nat)
 |ptr (f g off:Nat)
 |iN
 |slice (f g off len es:Nat)
 |cB
 |agg (cs:List ax)
 |tuple (vs:List ax)
 |func (f:Nat) (first ff:List ax)
 |oq
 |iface (t:Nat) (v:ax)
 |il
 |map (f:Nat)
 |vb
 |undef
inductive D6 where
 |d0|d1|d2|d3|d4|d5
def D6.n:D6→Nat
 |.d0=>0|.d1=>1|.d2=>2|.d3=>3|.d4=>4|.d5=>5
def Cw:Nat→D6
 |0=>.d0|1=>.d1|2=>.d2|3=>.d3|4=>.d4|_=>.d5
def o3(n:Nat):D6:=
 Nat.rec (motive:=fun _=>D6) .d0 (fun n _=>Nat.rec (motive:=fun _=>D6) .d1 (fun n _=>Nat.rec (motive:=fun _=>D6) .d2 (fun n _=>Nat.rec (motive:=fun _=>D6) .d3 (fun n _=>Nat.rec (motive:=fun _=>D6) .d4 (fun _ _=>.d5) n) n) n) n) n
inductive Key where
 |mk (i j k l:D6)
def Key.n:Key→Nat
 |.mk i j k l=>i.n+6*j.n+36*k.n+216*l.n
def pk(n:Nat):Key:=.mk (Cw (n % 6)) (Cw (n/6 % 6)) (Cw (n/36 % 6)) (Cw (n/216 % 6))
theorem D6.lt(d:D6):d.n<6:=by cases d<;>decide
theorem D6.inj{a b:D6}(h:a.n=b.n):a=b:=by cases a<;>cases b<;>first|rfl|(simp[D6.n] at h)
instance:DecidableEq D6:=fun a b=>if h:a.n=b.n then .isTrue (D6.inj h) else .isFalse fun e=>h (by rw[e])
theorem EA{m:Nat}(h:m<6):(Cw m).n=m:=by
 match m,h with
 |0,_=>rfl
 |1,_=>rfl
 |2,_=>rfl
 |3,_=>rfl
 |4,_=>rfl
 |5,_=>rfl
theorem E8{m:Nat}(h:m<6):(o3 m).n=m:=by
 match m,h with
 |0,_=>rfl
 |1,_=>rfl
 |2,_=>rfl
 |3,_=>rfl
 |4,_=>rfl
 |5,_=>rfl
theorem Key.inj{a b:Key}(h:a.n=b.n):a=b:=by
 cases a with
 |mk i j k l=>cases b with
  |mk z A G I=>
   simp only[Key.n] at h
   have O:=i.lt;have h2:=j.lt;have U:=k.lt;have Y:=l.lt
   have Z:=z.lt;have h5:=A.lt;have h6:=G.lt;have h8:=I.lt
   have e1:i=z:=D6.inj ah
   have e2:j=A:=D6.inj ah
   have J:k=G:=D6.inj ah
   have K:l=I:=D6.inj ah
   rw[e1,e2,J,K]
instance:DecidableEq Key:=fun a b=>if h:a.n=b.n then .isTrue (Key.inj h) else .isFalse fun e=>h (by rw[e])
theorem xp{n:Nat}(h:n<1296):(pk n).n=n:=by
 simp only[pk,Key.n]
 rw[EA ah,EA ah,EA ah,EA ah]
 omega
section
variable{α β:Type}
inductive S6(α:Type) where
 |mk (x0 x1 x2 x3 x4 x5:α)
def S6.get(d:D6)(t:S6 α):α:=
 S6.rec (motive:=fun _=>α) (fun x0 x1 x2 x3 x4 x5=>D6.rec (motive:=fun _=>α) x0 x1 x2 x3 x4 x5 d) t
def S6.u0(f:α→(α→β)→β)(t:S6 α)(c:S6 α→β):β:=S6.rec (motive:=fun _=>β) (fun x0 x1 x2 x3 x4 x5=>f x0 fun y=>c (.mk y x1 x2 x3 x4 x5)) t
def S6.u1(f:α→(α→β)→β)(t:S6 α)(c:S6 α→β):β:=S6.rec (motive:=fun _=>β) (fun x0 x1 x2 x3 x4 x5=>f x1 fun y=>c (.mk x0 y x2 x3 x4 x5)) t
def S6.u2(f:α→(α→β)→β)(t:S6 α)(c:S6 α→β):β:=S6.rec (motive:=fun _=>β) (fun x0 x1 x2 x3 x4 x5=>f x2 fun y=>c (.mk x0 x1 y x3 x4 x5)) t
def S6.u3(f:α→(α→β)→β)(t:S6 α)(c:S6 α→β):β:=S6.rec (motive:=fun _=>β) (fun x0 x1 x2 x3 x4 x5=>f x3 fun y=>c (.mk x0 x1 x2 y x4 x5)) t
def S6.u4(f:α→(α→β)→β)(t:S6 α)(c:S6 α→β):β:=S6.rec (motive:=fun _=>β) (fun x0 x1 x2 x3 x4 x5=>f x4 fun y=>c (.mk x0 x1 x2 x3 y x5)) t
def S6.u5(f:α→(α→β)→β)(t:S6 α)(c:S6 α→β):β:=S6.rec (motive:=fun _=>β) (fun x0 x1 x2 x3 x4 x5=>f x5 fun y=>c (.mk x0 x1 x2 x3 x4 y)) t
def S6.gY(d:D6):(α→(α→β)→β)→S6 α→(S6 α→β)→β:=
 D6.rec (motive:=fun _=>(α→(α→β)→β)→S6 α→(S6 α→β)→β) S6.u0 S6.u1 S6.u2 S6.u3 S6.u4 S6.u5 d
def S6.mod(d:D6)(g:α→α)(t:S6 α):S6 α:=S6.gY d (fun x c=>c (g x)) t fun y=>y
theorem S6.D8(d z:D6)(g:α→α)(t:S6 α):S6.get z (S6.mod d g t)=if z=d then g (S6.get d t) else S6.get z t:=by
 cases t;cases d<;>cases z<;>rfl
theorem S6.EB(d:D6)(g:α→α)(f:α→(α→β)→β)(z:∀x c,f x c=c (g x))(t:S6 α)(c:S6 α→β):S6.gY d f t c=c (S6.mod d g t):=by
 cases t;cases d<;>exact z _ _
def S6.all(x:α):S6 α:=.mk x x x x x x
theorem S6.D9(d:D6)(x:α):S6.get d (S6.all x)=x:=by cases d<;>rfl
def T4(α:Type):Type:=S6 (S6 (S6 (S6 (Option α))))
def T4.get(E:T4 α)(key:Key):Option α:=Key.rec (motive:=fun _=>T4 α→Option α) (fun i j k l E=>S6.get l (S6.get k (S6.get j (S6.get i E)))) key E
def T4.gV(E:T4 α)(key:Key)(v:α)(c:T4 α→β):β:=Key.rec (motive:=fun _=>β) (fun i j k l=>S6.gY i (S6.gY j (S6.gY k (S6.gY l fun _ c=>c (some v)))) E c) key
def T4.set(E:T4 α)(key:Key)(v:α):T4 α:=E.gV key v fun E=>E
theorem T4.Ih(E:T4 α)(i j k l:D6)(v:α)(c:T4 α→β):E.gV (.mk i j k l) v c=c (S6.mod i (S6.mod j (S6.mod k (S6.mod l fun _=>some v))) E):=
 S6.EB i _ _ (fun x c=>S6.EB j _ _ (fun x c=>S6.EB k _ _ (fun x c=>S6.EB l (fun _=>some v) _ (fun _ _=>rfl) x c) x c) x c) E c
theorem T4.kG(E:T4 α)(key:Key)(v:α)(c:T4 α→β):E.gV key v c=c (E.set key v):=by
 cases key with
 |mk i j k l=>unfold T4.set;rw[T4.Ih,T4.Ih]
theorem S6.gs(E:S6 (S6 (S6 (S6 (Option α)))))(i j k l z A G I:D6)(v:α):S6.get I (S6.get G (S6.get A (S6.get z (S6.mod i (S6.mod j (S6.mod k (S6.mod l fun _=>some v))) E))))=
  if Key.mk z A G I=Key.mk i j k l then some v else S6.get I (S6.get G (S6.get A (S6.get z E))):=by
 rw[S6.D8]
 by_cases hi:z=i
 ·subst hi
  rw[az rfl,S6.D8]
  by_cases J:A=j
  ·subst J
   rw[az rfl,S6.D8]
   by_cases hk:G=k
   ·subst hk
    rw[az rfl,S6.D8]
    by_cases K:I=l
    ·subst K
     rw[az rfl,az rfl]
    rw[al K,al (by intro e;cases e;exact K rfl)]
   rw[al hk,al (by intro e;cases e;exact hk rfl)]
  rw[al J,al (by intro e;cases e;exact J rfl)]
 rw[al hi,al (by intro e;cases e;exact hi rfl)]
theorem T4.eY(E:T4 α)(key z:Key)(v:α):(E.set key v).get z=if z=key then some v else E.get z:=by
 cases key with
 |mk i j k l=>cases z with
  |mk A G I J=>
   unfold T4.set
   rw[T4.Ih]
   exact S6.gs E i j k l A G I J v
def T4.emp:T4 α:=S6.all (S6.all (S6.all (S6.all none)))
theorem T4.tg(key:Key):(T4.emp:T4 α).get key=none:=by
 cases key with
 |mk i j k l=>
  show S6.get l (S6.get k (S6.get j (S6.get i (S6.all (S6.all (S6.all (S6.all none)))))))=none
  rw[S6.D9,S6.D9,S6.D9,S6.D9]
def pq(n:Nat):Key:=.mk (o3 (Nat.mod n 6)) (o3 (Nat.mod (Nat.div n 6) 6)) (o3 (Nat.mod (Nat.div n 36) 6)) (o3 (Nat.mod (Nat.div n 216) 6))
theorem Qd{n:Nat}(h:n<1296):(pq n).n=n:=by
 show(o3 (n % 6)).n+6*(o3 (n/6 % 6)).n+36*(o3 (n/36 % 6)).n+216*(o3 (n/216 % 6)).n=n
 rw[E8 (eI _ ah),E8 (eI _ ah),E8 (eI _ ah),E8 (eI _ ah)]
 omega
theorem WY{n k:Nat}(h:pq (n % 1296)=pq (k % 1296)):n % 1296=k % 1296:=by
 rw[←Qd (n:=n % 1296) ah,←Qd (n:=k % 1296) ah,h]
def GT(α:Type):Type:=Tr (T4 α)
def GT.v8(t:GT α)(n:Nat):T4 α:=Option.rec (motive:=fun _=>T4 α) .emp (fun s=>s) (Tr.get t n)
def GT.get(t:GT α)(n:Nat):Option α:=(t.v8 (Nat.div n 1296)).get (pq (Nat.mod n 1296))
def GT.set(t:GT α)(n:Nat)(v:α):GT α:=Tr.set t (Nat.div n 1296) ((t.v8 (Nat.div n 1296)).set (pq (Nat.mod n 1296)) v)
def GT.gV(t:GT α)(n:Nat)(v:α)(c:GT α→β):β:=(t.v8 (Nat.div n 1296)).gV (pq (Nat.mod n 1296)) v fun s=>(Tr.set t (Nat.div n 1296) s).seq c
theorem GT.kG(t:GT α)(n:Nat)(v:α)(c:GT α→β):t.gV n v c=c (t.set n v):=by
 unfold GT.gV;rw[T4.kG];exact Tr.seq_eq (α:=T4 α) _ c
def GT.emp:GT α:=Tr.leaf
theorem GT.tg(n:Nat):(GT.emp:GT α).get n=none:=T4.tg _
theorem GT.ats(t:Tr (T4 α))(n k:Nat)(s:T4 α):(Option.rec (motive:=fun _=>T4 α) .emp (fun s=>s) (Tr.get (Tr.set t n s) k):T4 α)=if k=n then s else Option.rec (motive:=fun _=>T4 α) .emp (fun s=>s) (Tr.get t k):=by
 rw[Tr.eY]
 split
 ·rfl
 rfl
theorem GT.eY(t:GT α)(n k:Nat)(v:α):(t.set n v).get k=if k=n then some v else t.get k:=by
 have h:(t.set n v).v8 (k/1296)=if k/1296=n/1296 then(t.v8 (n/1296)).set (pq (n % 1296)) v else t.v8 (k/1296):=GT.ats t _ _ _
 show((t.set n v).v8 (k/1296)).get (pq (k % 1296))=if k=n then some v else(t.v8 (k/1296)).get (pq (k % 1296))
 rw[h]
 by_cases e:k/1296=n/1296
 ·rw[az e,T4.eY,e]
  by_cases e2:k % 1296=n % 1296
  ·rw[az (by rw[e2]),az ah]
  rw[al (fun h=>e2 (WY h)),al ah]
 rw[al e,al ah]
end
abbrev Env:=T4 ax
def af:Key:=.mk .d0 .d0 .d0 .d0
def aN:Key:=.mk .d1 .d0 .d0 .d0
def aB:Key:=.mk .d2 .d0 .d0 .d0
def aA:Key:=.mk .d3 .d0 .d0 .d0
def au:Key:=.mk .d4 .d0 .d0 .d0
def ao:Key:=.mk .d5 .d0 .d0 .d0
def aC:Key:=.mk .d0 .d1 .d0 .d0
def aG:Key:=.mk .d1 .d1 .d0 .d0
def aD:Key:=.mk .d2 .d1 .d0 .d0
def aM:Key:=.mk .d3 .d1 .d0 .d0
def aR:Key:=.mk .d4 .d1 .d0 .d0
def aW:Key:=.mk .d5 .d1 .d0 .d0
def aU:Key:=.mk .d0 .d2 .d0 .d0
def aS:Key:=.mk .d1 .d2 .d0 .d0
def aZ:Key:=.mk .d2 .d2 .d0 .d0
def bb:Key:=.mk .d3 .d2 .d0 .d0
def bg:Key:=.mk .d4 .d2 .d0 .d0
def bl:Key:=.mk .d5 .d2 .d0 .d0
def bh:Key:=.mk .d0 .d3 .d0 .d0
def br:Key:=.mk .d1 .d3 .d0 .d0
def bm:Key:=.mk .d2 .d3 .d0 .d0
def bx:Key:=.mk .d3 .d3 .d0 .d0
def bK:Key:=.mk .d4 .d3 .d0 .d0
def bS:Key:=.mk .d5 .d3 .d0 .d0
def bU:Key:=.mk .d0 .d4 .d0 .d0
def bW:Key:=.mk .d1 .d4 .d0 .d0
def bX:Key:=.mk .d2 .d4 .d0 .d0
def bZ:Key:=.mk .d3 .d4 .d0 .d0
def ck:Key:=.mk .d4 .d4 .d0 .d0
def cn:Key:=.mk .d5 .d4 .d0 .d0
def cb:Key:=.mk .d0 .d5 .d0 .d0
def cf:Key:=.mk .d1 .d5 .d0 .d0
def cq:Key:=.mk .d2 .d5 .d0 .d0
def cH:Key:=.mk .d3 .d5 .d0 .d0
def cC:Key:=.mk .d4 .d5 .d0 .d0
def cr:Key:=.mk .d5 .d5 .d0 .d0
def cN:Key:=.mk .d0 .d0 .d1 .d0
def cW:Key:=.mk .d1 .d0 .d1 .d0
def c6:Key:=.mk .d2 .d0 .d1 .d0
def de:Key:=.mk .d3 .d0 .d1 .d0
def dF:Key:=.mk .d4 .d0 .d1 .d0
def dC:Key:=.mk .d5 .d0 .d1 .d0
def dq:Key:=.mk .d0 .d1 .d1 .d0
def dP:Key:=.mk .d1 .d1 .d1 .d0
def dM:Key:=.mk .d2 .d1 .d1 .d0
def dR:Key:=.mk .d3 .d1 .d1 .d0
def el:Key:=.mk .d4 .d1 .d1 .d0
def en:Key:=.mk .d5 .d1 .d1 .d0
def eQ:Key:=.mk .d0 .d2 .d1 .d0
def eo:Key:=.mk .d1 .d2 .d1 .d0
def eR:Key:=.mk .d2 .d2 .d1 .d0
def ep:Key:=.mk .d3 .d2 .d1 .d0
def eK:Key:=.mk .d4 .d2 .d1 .d0
def fy:Key:=.mk .d5 .d2 .d1 .d0
def fo:Key:=.mk .d0 .d3 .d1 .d0
def eT:Key:=.mk .d1 .d3 .d1 .d0
def eS:Key:=.mk .d2 .d3 .d1 .d0
def e8:Key:=.mk .d3 .d3 .d1 .d0
def fq:Key:=.mk .d4 .d3 .d1 .d0
def fr:Key:=.mk .d5 .d3 .d1 .d0
def fV:Key:=.mk .d0 .d4 .d1 .d0
def gf:Key:=.mk .d1 .d4 .d1 .d0
def fw:Key:=.mk .d2 .d4 .d1 .d0
def gk:Key:=.mk .d3 .d4 .d1 .d0
def gg:Key:=.mk .d4 .d4 .d1 .d0
def fO:Key:=.mk .d5 .d4 .d1 .d0
def gh:Key:=.mk .d0 .d5 .d1 .d0
def gW:Key:=.mk .d1 .d5 .d1 .d0
def ic:Key:=.mk .d2 .d5 .d1 .d0
def hU:Key:=.mk .d3 .d5 .d1 .d0
def iD:Key:=.mk .d4 .d5 .d1 .d0
def iv:Key:=.mk .d5 .d5 .d1 .d0
def iP:Key:=.mk .d0 .d0 .d2 .d0
def iE:Key:=.mk .d1 .d0 .d2 .d0
def je:Key:=.mk .d2 .d0 .d2 .d0
def ig:Key:=.mk .d3 .d0 .d2 .d0
def jm:Key:=.mk .d4 .d0 .d2 .d0
def jz:Key:=.mk .d5 .d0 .d2 .d0
def iY:Key:=.mk .d0 .d1 .d2 .d0
def jS:Key:=.mk .d1 .d1 .d2 .d0
def iZ:Key:=.mk .d2 .d1 .d2 .d0
def jT:Key:=.mk .d3 .d1 .d2 .d0
def ky:Key:=.mk .d4 .d1 .d2 .d0
def kN:Key:=.mk .d5 .d1 .d2 .d0
def jn:Key:=.mk .d0 .d2 .d2 .d0
def lj:Key:=.mk .d1 .d2 .d2 .d0
def lk:Key:=.mk .d2 .d2 .d2 .d0
def ll:Key:=.mk .d3 .d2 .d2 .d0
def jA:Key:=.mk .d4 .d2 .d2 .d0
def lp:Key:=.mk .d5 .d2 .d2 .d0
def lq:Key:=.mk .d0 .d3 .d2 .d0
def lZ:Key:=.mk .d1 .d3 .d2 .d0
def lr:Key:=.mk .d2 .d3 .d2 .d0
def lu:Key:=.mk .d3 .d3 .d2 .d0
def l4:Key:=.mk .d4 .d3 .d2 .d0
def l5:Key:=.mk .d5 .d3 .d2 .d0
def kO:Key:=.mk .d0 .d4 .d2 .d0
def mE:Key:=.mk .d1 .d4 .d2 .d0
def mF:Key:=.mk .d2 .d4 .d2 .d0
def nz:Key:=.mk .d3 .d4 .d2 .d0
def oy:Key:=.mk .d4 .d4 .d2 .d0
def oz:Key:=.mk .d5 .d4 .d2 .d0
def mA:Key:=.mk .d0 .d5 .d2 .d0
def qA:Key:=.mk .d1 .d5 .d2 .d0
def qB:Key:=.mk .d2 .d5 .d2 .d0
def qC:Key:=.mk .d3 .d5 .d2 .d0
def qD:Key:=.mk .d4 .d5 .d2 .d0
def qE:Key:=.mk .d5 .d5 .d2 .d0
def qF:Key:=.mk .d0 .d0 .d3 .d0
def r9:Key:=.mk .d1 .d0 .d3 .d0
def sa:Key:=.mk .d2 .d0 .d3 .d0
def mY:Key:=.mk .d3 .d0 .d3 .d0
def sb:Key:=.mk .d4 .d0 .d3 .d0
def sc:Key:=.mk .d5 .d0 .d3 .d0
def sd:Key:=.mk .d0 .d1 .d3 .d0
def nq:Key:=.mk .d1 .d1 .d3 .d0
def se:Key:=.mk .d2 .d1 .d3 .d0
def sf:Key:=.mk .d3 .d1 .d3 .d0
def sg:Key:=.mk .d4 .d1 .d3 .d0
def sh:Key:=.mk .d5 .d1 .d3 .d0
def mZ:Key:=.mk .d0 .d2 .d3 .d0
def nQ:Key:=.mk .d1 .d2 .d3 .d0
def si:Key:=.mk .d2 .d2 .d3 .d0
def tG:Key:=.mk .d3 .d2 .d3 .d0
def sj:Key:=.mk .d4 .d2 .d3 .d0
def tI:Key:=.mk .d5 .d2 .d3 .d0
def sk:Key:=.mk .d0 .d3 .d3 .d0
def sn:Key:=.mk .d1 .d3 .d3 .d0
def pL:Key:=.mk .d2 .d3 .d3 .d0
def m5:Key:=.mk .d3 .d3 .d3 .d0
def so:Key:=.mk .d4 .d3 .d3 .d0
def sq:Key:=.mk .d5 .d3 .d3 .d0
def vk:Key:=.mk .d0 .d4 .d3 .d0
def vl:Key:=.mk .d1 .d4 .d3 .d0
def vm:Key:=.mk .d2 .d4 .d3 .d0
def vn:Key:=.mk .d3 .d4 .d3 .d0
def vo:Key:=.mk .d4 .d4 .d3 .d0
def vq:Key:=.mk .d5 .d4 .d3 .d0
def nR:Key:=.mk .d0 .d5 .d3 .d0
def vt:Key:=.mk .d1 .d5 .d3 .d0
def vu:Key:=.mk .d2 .d5 .d3 .d0
def vw:Key:=.mk .d3 .d5 .d3 .d0
def vx:Key:=.mk .d4 .d5 .d3 .d0
def yU:Key:=.mk .d5 .d5 .d3 .d0
def BX:Key:=.mk .d0 .d0 .d4 .d0
def yV:Key:=.mk .d1 .d0 .d4 .d0
def yW:Key:=.mk .d2 .d0 .d4 .d0
def yX:Key:=.mk .d3 .d0 .d4 .d0
def yY:Key:=.mk .d4 .d0 .d4 .d0
def yZ:Key:=.mk .d5 .d0 .d4 .d0
def BY:Key:=.mk .d0 .d1 .d4 .d0
def y1:Key:=.mk .d1 .d1 .d4 .d0
def y3:Key:=.mk .d2 .d1 .d4 .d0
def y4:Key:=.mk .d3 .d1 .d4 .d0
def y5:Key:=.mk .d4 .d1 .d4 .d0
def y6:Key:=.mk .d5 .d1 .d4 .d0
def y7:Key:=.mk .d0 .d2 .d4 .d0
def y8:Key:=.mk .d1 .d2 .d4 .d0
def y9:Key:=.mk .d2 .d2 .d4 .d0
def za:Key:=.mk .d3 .d2 .d4 .d0
def zb:Key:=.mk .d4 .d2 .d4 .d0
def zc:Key:=.mk .d5 .d2 .d4 .d0
def ze:Key:=.mk .d0 .d3 .d4 .d0
def zf:Key:=.mk .d1 .d3 .d4 .d0
def zg:Key:=.mk .d2 .d3 .d4 .d0
def zh:Key:=.mk .d3 .d3 .d4 .d0
def zi:Key:=.mk .d4 .d3 .d4 .d0
def zj:Key:=.mk .d5 .d3 .d4 .d0
def zk:Key:=.mk .d0 .d4 .d4 .d0
def zl:Key:=.mk .d1 .d4 .d4 .d0
def zm:Key:=.mk .d2 .d4 .d4 .d0
def zn:Key:=.mk .d3 .d4 .d4 .d0
def zo:Key:=.mk .d4 .d4 .d4 .d0
def BZ:Key:=.mk .d5 .d4 .d4 .d0
def zp:Key:=.mk .d0 .d5 .d4 .d0
def zq:Key:=.mk .d1 .d5 .d4 .d0
def zr:Key:=.mk .d2 .d5 .d4 .d0
def zs:Key:=.mk .d3 .d5 .d4 .d0
def zt:Key:=.mk .d4 .d5 .d4 .d0
def zu:Key:=.mk .d5 .d5 .d4 .d0
def zw:Key:=.mk .d0 .d0 .d5 .d0
def zx:Key:=.mk .d1 .d0 .d5 .d0
def zy:Key:=.mk .d2 .d0 .d5 .d0
def zz:Key:=.mk .d3 .d0 .d5 .d0
def zA:Key:=.mk .d4 .d0 .d5 .d0
def zB:Key:=.mk .d5 .d0 .d5 .d0
def qG:Key:=.mk .d0 .d1 .d5 .d0
def zC:Key:=.mk .d1 .d1 .d5 .d0
def zD:Key:=.mk .d2 .d1 .d5 .d0
def zE:Key:=.mk .d3 .d1 .d5 .d0
def zF:Key:=.mk .d4 .d1 .d5 .d0
def zG:Key:=.mk .d5 .d1 .d5 .d0
def zH:Key:=.mk .d0 .d2 .d5 .d0
def zI:Key:=.mk .d1 .d2 .d5 .d0
def zJ:Key:=.mk .d2 .d2 .d5 .d0
def zK:Key:=.mk .d3 .d2 .d5 .d0
def zL:Key:=.mk .d4 .d2 .d5 .d0
def E9:Key:=.mk .d5 .d2 .d5 .d0
def Fa:Key:=.mk .d0 .d3 .d5 .d0
def Fb:Key:=.mk .d1 .d3 .d5 .d0
def Fc:Key:=.mk .d2 .d3 .d5 .d0
def Fe:Key:=.mk .d3 .d3 .d5 .d0
def Ff:Key:=.mk .d4 .d3 .d5 .d0
def Fg:Key:=.mk .d5 .d3 .d5 .d0
def Fh:Key:=.mk .d0 .d4 .d5 .d0
def IQ:Key:=.mk .d1 .d4 .d5 .d0
def Fi:Key:=.mk .d2 .d4 .d5 .d0
def Fj:Key:=.mk .d3 .d4 .d5 .d0
def Fm:Key:=.mk .d4 .d4 .d5 .d0
def Fo:Key:=.mk .d5 .d4 .d5 .d0
def Fq:Key:=.mk .d0 .d5 .d5 .d0
def Fs:Key:=.mk .d1 .d5 .d5 .d0
def Ft:Key:=.mk .d2 .d5 .d5 .d0
def OH:Key:=.mk .d3 .d5 .d5 .d0
def OI:Key:=.mk .d4 .d5 .d5 .d0
def OJ:Key:=.mk .d5 .d5 .d5 .d0
def OK:Key:=.mk .d0 .d0 .d0 .d1
def OL:Key:=.mk .d1 .d0 .d0 .d1
def OM:Key:=.mk .d2 .d0 .d0 .d1
def ON:Key:=.mk .d3 .d0 .d0 .d1
def OO:Key:=.mk .d4 .d0 .d0 .d1
def OP:Key:=.mk .d5 .d0 .d0 .d1
def OQ:Key:=.mk .d0 .d1 .d0 .d1
def vz:Key:=.mk .d1 .d1 .d0 .d1
def OR:Key:=.mk .d2 .d1 .d0 .d1
def OS:Key:=.mk .d3 .d1 .d0 .d1
def OT:Key:=.mk .d4 .d1 .d0 .d1
def OU:Key:=.mk .d5 .d1 .d0 .d1
def OV:Key:=.mk .d0 .d2 .d0 .d1
def OW:Key:=.mk .d1 .d2 .d0 .d1
def OX:Key:=.mk .d2 .d2 .d0 .d1
def vA:Key:=.mk .d3 .d2 .d0 .d1
def OY:Key:=.mk .d4 .d2 .d0 .d1
def OZ:Key:=.mk .d5 .d2 .d0 .d1
def O0:Key:=.mk .d0 .d3 .d0 .d1
def O1:Key:=.mk .d1 .d3 .d0 .d1
def O2:Key:=.mk .d2 .d3 .d0 .d1
def O3:Key:=.mk .d3 .d3 .d0 .d1
def O4:Key:=.mk .d4 .d3 .d0 .d1
def O5:Key:=.mk .d5 .d3 .d0 .d1
def O6:Key:=.mk .d0 .d4 .d0 .d1
def O7:Key:=.mk .d1 .d4 .d0 .d1
def O8:Key:=.mk .d2 .d4 .d0 .d1
def O9:Key:=.mk .d3 .d4 .d0 .d1
def O':Key:=.mk .d4 .d4 .d0 .d1
def Pa:Key:=.mk .d5 .d4 .d0 .d1
def Pb:Key:=.mk .d0 .d5 .d0 .d1
def Pc:Key:=.mk .d1 .d5 .d0 .d1
def Pd:Key:=.mk .d2 .d5 .d0 .d1
def Pe:Key:=.mk .d3 .d5 .d0 .d1
def Pf:Key:=.mk .d4 .d5 .d0 .d1
def Pg:Key:=.mk .d5 .d5 .d0 .d1
def Ph:Key:=.mk .d0 .d0 .d1 .d1
def Pj:Key:=.mk .d1 .d0 .d1 .d1
def Pk:Key:=.mk .d2 .d0 .d1 .d1
def Pl:Key:=.mk .d3 .d0 .d1 .d1
def Pm:Key:=.mk .d4 .d0 .d1 .d1
def Pn:Key:=.mk .d5 .d0 .d1 .d1
def Po:Key:=.mk .d0 .d1 .d1 .d1
def nr:Key:=.mk .d1 .d1 .d1 .d1
def Pq:Key:=.mk .d2 .d1 .d1 .d1
def Pr:Key:=.mk .d3 .d1 .d1 .d1
def Ps:Key:=.mk .d4 .d1 .d1 .d1
def Pt:Key:=.mk .d5 .d1 .d1 .d1
def Pv:Key:=.mk .d0 .d2 .d1 .d1
def Pw:Key:=.mk .d1 .d2 .d1 .d1
def Px:Key:=.mk .d2 .d2 .d1 .d1
def Py:Key:=.mk .d3 .d2 .d1 .d1
def Pz:Key:=.mk .d4 .d2 .d1 .d1
def PA:Key:=.mk .d5 .d2 .d1 .d1
def PB:Key:=.mk .d0 .d3 .d1 .d1
def PC:Key:=.mk .d1 .d3 .d1 .d1
def PD:Key:=.mk .d2 .d3 .d1 .d1
def PE:Key:=.mk .d3 .d3 .d1 .d1
def PF:Key:=.mk .d4 .d3 .d1 .d1
inductive RT where
 |emp
 |one (x:List ax)
 |many (s:GT (List ax))
def RT.get(t:RT)(n:Nat):Option (List ax):=
 RT.rec (motive:=fun _=>Nat→Option (List ax)) (fun _=>none) (fun x n=>Nat.rec (motive:=fun _=>Option (List ax)) (some x) (fun _ _=>none) n) GT.get t n
def RT.set(t:RT)(n:Nat)(v:List ax):RT:=
 RT.rec (motive:=fun _=>Nat→List ax→RT) (fun n v=>Nat.rec (motive:=fun _=>RT) (.one v) (fun m _=>.many (GT.emp.set (Nat.succ m) v)) n)
  (fun x n v=>Nat.rec (motive:=fun _=>RT) (.one v) (fun m _=>.many ((GT.emp.set 0 x).set (Nat.succ m) v)) n) (fun s n v=>.many (s.set n v)) t n v
theorem RT.eY(t:RT)(n k:Nat)(v:List ax):(t.set n v).get k=if k=n then some v else t.get k:=by
 cases t with
 |emp=>cases n with
  |zero=>cases k<;>rfl
  |succ n=>exact(GT.eY GT.emp (n+1) k v).trans (by rw[GT.tg];rfl)
 |one x=>cases n with
  |zero=>cases k<;>rfl
  |succ n=>
   refine(GT.eY (GT.emp.set 0 x) (n+1) k v).trans ?_
   rw[GT.eY,GT.tg]
   cases k<;>rfl
 |many s=>exact GT.eY s n k v
inductive et where
 |row (elem es aV n lo fl:Nat) (cs:RT)
 |map (es:List (ax×ax))
abbrev HT:=GT et
structure aE where
 next:Nat
 bj:Nat
 ws:List Nat
 t:HT
inductive aI where
 |t (n:Key)
 |c (v:ax)
inductive At where
 |bool|ptr|agg (ks:List Nat)|slice|iface|func|map
inductive bP where
 |o4 (x:aI)
 |pick (c a b:aI)
 |cw (elem es aV:Nat) (cells:List ax)
 |box (elem es aV:Nat) (x:aI)
 |load (n:Nat) (agg:Bool) (a:aI)
 |store (n:Nat) (a x:aI)
 |bin (op:BinOp) (x y:aI)
 |eqv (c:At) (neg:Bool) (x y:aI)
 |un (op:UnOp) (x:aI)
 |oT (x:aI) (k:Nat)
 |sub (x:aI) (off n:Nat) (agg:Bool)
 |eb (len es:Nat) (x i:aI)
 |dV (es:Nat) (x i:aI)
 |BA (len es:Nat) (agg:Bool) (x i:aI)
 |tu (x i:aI)
 |js (x:aI) (lo hi:Option aI)
 |pS (es:Nat) (x:aI) (lo hi:Option aI)
 |xe (len es:Nat) (x:aI) (lo hi:Option aI)
 |sF (x:aI) (i:Nat)
 |pM (x:aI)
 |oU (f:Nat) (first ff:List aI)
 |vT (t:Nat) (x:aI)
 |tZ (elem es aV:Nat) (zero:List ax) (len cap:aI)
 |build (zero:List ax) (parts:List (Nat×Nat×aI))
 |cG (elem es aV len:Nat) (zero:List ax) (parts:List (Nat×aI))
 |len (x:aI)
 |Cx (n:Nat)
 |pT (x:aI)
 |app (elem es aV:Nat) (x y:aI)
 |rY (elem:Nat) (x y:aI)
 |copy (es:Nat) (x y:aI)
 |BB (mx:Bool) (x:aI) (ys:List aI)
 |conv (k:IntKind) (x:aI)
 |EC (x:aI)
 |yB (elem:Nat) (x:aI)
 |nN (x:aI)
 |call (f:Nat) (args:List aI)
 |ns (x:aI) (args:List aI)
 |rl (t n:Nat) (x:aI)
 |wa (x:aI)
 |rA (e:Nat) (x n:aI)
structure bA where
 dst:Option Key
 g:Option (Key×Bool)
 q:Option (List Nat)
 op:bP
inductive ml where
 |tmp (t:Key)
 |cell (a:Key) (n:Nat) (agg:Bool)
inductive IC where
 |skip
 |region (draw:Bool) (ops:List bA)
 |seq (a b:IC)
 |cond (c:aI) (a b:IC)
 |block (id:Nat) (b:IC)
 |loop (b:IC)
 |exit (id:Nat)
 |ret
structure bH where
 nt:Nat
 ps:List Key
 res:List ml
 body:IC
inductive aH where
 |ok (v:ax) (H:aE)
 |err (n:Nat)
inductive e9 where
 |ok (E:Env) (H:aE)
 |err (n:Nat)
inductive Ex where
 |normal|exit (id:Nat)|ret
inductive Out where
 |ok (x:Ex) (E:Env) (H:aE)
 |err (n:Nat)
def T4.Ab(E:Env)(key:Key)(v:ax)(c:Env→e9):e9:=E.gV key v c
theorem T4.Bc(E:Env)(key:Key)(v:ax)(c:Env→e9):E.Ab key v c=c (E.set key v):=T4.kG E key v c
def RT.gV(t:RT)(n:Nat)(v:List ax)(c:RT→aH):aH:=
 RT.rec (motive:=fun _=>Nat→List ax→(RT→aH)→aH) (fun n v c=>Nat.rec (motive:=fun _=>aH) (c (.one v)) (fun m _=>GT.emp.gV (Nat.succ m) v fun s=>c (.many s)) n)
  (fun x n v c=>Nat.rec (motive:=fun _=>aH) (c (.one v)) (fun m _=>GT.emp.gV 0 x fun s=>s.gV (Nat.succ m) v fun s=>c (.many s)) n) (fun s n v c=>s.gV n v fun s=>c (.many s)) t n v c
theorem RT.kG(t:RT)(n:Nat)(v:List ax)(c:RT→aH):t.gV n v c=c (t.set n v):=by
 cases t with
 |emp=>cases n with
  |zero=>rfl
  |succ n=>exact GT.kG _ _ _ _
 |one x=>cases n with
  |zero=>rfl
  |succ n=>exact(GT.kG _ _ _ _).trans (GT.kG _ _ _ _)
 |many s=>exact GT.kG _ _ _ _
def nj(v:ax)(k:ax→aH):aH:=
 ax.rec (motive_1:=fun _=>(ax→aH)→aH) (motive_2:=fun _=>Unit) (fun b z=>Bool.rec (motive:=fun _=>aH) (z (.bool false)) (z (.bool true)) b) (fun k n z=>lR n fun n=>z (.int k n)) (fun l v z=>dz l fun l=>dz v fun v=>z (.str l v)) (fun f g o z=>dz f fun f=>dz g fun g=>dz o fun o=>z (.ptr f g o)) (fun z=>z (.iN)) (fun f g o l es z=>dz f fun f=>dz g fun g=>dz o fun o=>dz l fun l=>z (.slice f g o l es)) (fun z=>z (.cB)) (fun cs _ z=>z (.agg cs)) (fun vs _ z=>z (.tuple vs)) (fun f A ff _ _ z=>z (.func f A ff)) (fun z=>z (.oq)) (fun t v _ z=>z (.iface t v)) (fun z=>z (.il)) (fun f z=>z (.map f)) (fun z=>z (.vb)) (fun z=>z (.undef)) () (fun _ _ _ _=>()) v k
theorem uJ(v:ax)(k:ax→aH):nj v k=k v:=by
 cases v<;>simp[nj,sZ,iG]
 rename_i b;cases b<;>rfl
def aJ{β:Type}(b:Bool)(k e:β):β:=Bool.rec (motive:=fun _=>β) e k b
def ob{α β:Type}(o:Option α)(e:β)(k:α→β):β:=Option.rec (motive:=fun _=>β) e k o
def nM{β:Type}(b:Bool)(k:Bool→β):β:=Bool.rec (motive:=fun _=>β) (k false) (k true) b
def tv(v:ax)(e:aH)(k:Bool→aH):aH:=
 ax.rec (motive_1:=fun _=>aH→(Bool→aH)→aH) (motive_2:=fun _=>Unit) (fun b e z=>z b) (fun _ _ e _=>e) (fun _ _ e _=>e) (fun _ _ _ e _=>e) (fun e _=>e) (fun _ _ _ _ _ e _=>e) (fun e _=>e) (fun _ _ e _=>e) (fun _ _ e _=>e) (fun _ _ _ _ _ e _=>e) (fun e _=>e) (fun _ _ _ e _=>e) (fun e _=>e) (fun _ e _=>e) (fun e _=>e) (fun e _=>e) () (fun _ _ _ _=>()) v e k
def xq(v:ax)(s:e9)(k:Bool→e9):e9:=
 ax.rec (motive_1:=fun _=>e9→(Bool→e9)→e9) (motive_2:=fun _=>Unit) (fun b e z=>z b) (fun _ _ _ _=>.err 51) (fun _ _ _ _=>.err 51) (fun _ _ _ _ _=>.err 51) (fun _ _=>.err 51) (fun _ _ _ _ _ _ _=>.err 51) (fun _ _=>.err 51) (fun _ _ _ _=>.err 51) (fun _ _ _ _=>.err 51) (fun _ _ _ _ _ _ _=>.err 51) (fun _ _=>.err 51) (fun _ _ _ _ _=>.err 51) (fun _ _=>.err 51) (fun _ _ _=>.err 51) (fun _ _=>.err 51) (fun s _=>s) () (fun _ _ _ _=>()) v s k
def M6(v:ax)(e:Out)(k:Bool→Out):Out:=
 ax.rec (motive_1:=fun _=>Out→(Bool→Out)→Out) (motive_2:=fun _=>Unit) (fun b e z=>z b) (fun _ _ e _=>e) (fun _ _ e _=>e) (fun _ _ _ e _=>e) (fun e _=>e) (fun _ _ _ _ _ e _=>e) (fun e _=>e) (fun _ _ e _=>e) (fun _ _ e _=>e) (fun _ _ _ _ _ e _=>e) (fun e _=>e) (fun _ _ _ e _=>e) (fun e _=>e) (fun _ e _=>e) (fun e _=>e) (fun e _=>e) () (fun _ _ _ _=>()) v e k
def gU(v:ax)(e:aH)(k:IntKind→Int→aH):aH:=
 ax.rec (motive_1:=fun _=>aH→(IntKind→Int→aH)→aH) (motive_2:=fun _=>Unit) (fun _ e _=>e) (fun k n e z=>z k n) (fun _ _ e _=>e) (fun _ _ _ e _=>e) (fun e _=>e) (fun _ _ _ _ _ e _=>e) (fun e _=>e) (fun _ _ e _=>e) (fun _ _ e _=>e) (fun _ _ _ _ _ e _=>e) (fun e _=>e) (fun _ _ _ e _=>e) (fun e _=>e) (fun _ e _=>e) (fun e _=>e) (fun e _=>e) () (fun _ _ _ _=>()) v e k
def j7(v:ax)(e:aH)(k:Nat→Nat→aH):aH:=
 ax.rec (motive_1:=fun _=>aH→(Nat→Nat→aH)→aH) (motive_2:=fun _=>Unit) (fun _ e _=>e) (fun _ _ e _=>e) (fun l v e z=>z l v) (fun _ _ _ e _=>e) (fun e _=>e) (fun _ _ _ _ _ e _=>e) (fun e _=>e) (fun _ _ e _=>e) (fun _ _ e _=>e) (fun _ _ _ _ _ e _=>e) (fun e _=>e) (fun _ _ _ e _=>e) (fun e _=>e) (fun _ e _=>e) (fun e _=>e) (fun e _=>e) () (fun _ _ _ _=>()) v e k
def iW(v:ax)(e:aH)(k:Nat→Nat→Nat→aH):aH:=
 ax.rec (motive_1:=fun _=>aH→(Nat→Nat→Nat→aH)→aH) (motive_2:=fun _=>Unit) (fun _ e _=>e) (fun _ _ e _=>e) (fun _ _ e _=>e) (fun f g o e z=>z f g o) (fun e _=>e) (fun _ _ _ _ _ e _=>e) (fun e _=>e) (fun _ _ e _=>e) (fun _ _ e _=>e) (fun _ _ _ _ _ e _=>e) (fun e _=>e) (fun _ _ _ e _=>e) (fun e _=>e) (fun _ e _=>e) (fun e _=>e) (fun e _=>e) () (fun _ _ _ _=>()) v e k
def hO(v:ax)(e n:aH)(k:Nat→Nat→Nat→Nat→Nat→aH):aH:=
 ax.rec (motive_1:=fun _=>aH→aH→(Nat→Nat→Nat→Nat→Nat→aH)→aH) (motive_2:=fun _=>Unit) (fun _ e _ _=>e) (fun _ _ e _ _=>e) (fun _ _ e _ _=>e) (fun _ _ _ e _ _=>e) (fun e _ _=>e) (fun f g o l es e _ z=>z f g o l es) (fun _ n _=>n) (fun _ _ e _ _=>e) (fun _ _ e _ _=>e) (fun _ _ _ _ _ e _ _=>e) (fun e _ _=>e) (fun _ _ _ e _ _=>e) (fun e _ _=>e) (fun _ e _ _=>e) (fun e _ _=>e) (fun e _ _=>e) () (fun _ _ _ _=>()) v e n k
def pN(v:ax)(e:aH)(k:List ax→aH):aH:=
 ax.rec (motive_1:=fun _=>aH→(List ax→aH)→aH) (motive_2:=fun _=>Unit) (fun _ e _=>e) (fun _ _ e _=>e) (fun _ _ e _=>e) (fun _ _ _ e _=>e) (fun e _=>e) (fun _ _ _ _ _ e _=>e) (fun e _=>e) (fun cs _ e z=>z cs) (fun _ _ e _=>e) (fun _ _ _ _ _ e _=>e) (fun e _=>e) (fun _ _ _ e _=>e) (fun e _=>e) (fun _ e _=>e) (fun e _=>e) (fun e _=>e) () (fun _ _ _ _=>()) v e k
def th(v:ax)(e:aH)(k:List ax→aH):aH:=
 ax.rec (motive_1:=fun _=>aH→(List ax→aH)→aH) (motive_2:=fun _=>Unit) (fun _ e _=>e) (fun _ _ e _=>e) (fun _ _ e _=>e) (fun _ _ _ e _=>e) (fun e _=>e) (fun _ _ _ _ _ e _=>e) (fun e _=>e) (fun _ _ e _=>e) (fun vs _ e z=>z vs) (fun _ _ _ _ _ e _=>e) (fun e _=>e) (fun _ _ _ e _=>e) (fun e _=>e) (fun _ e _=>e) (fun e _=>e) (fun e _=>e) () (fun _ _ _ _=>()) v e k
def vc(v:ax)(e:aH)(k:Nat→List ax→List ax→aH):aH:=
 ax.rec (motive_1:=fun _=>aH→(Nat→List ax→List ax→aH)→aH) (motive_2:=fun _=>Unit) (fun _ e _=>e) (fun _ _ e _=>e) (fun _ _ e _=>e) (fun _ _ _ e _=>e) (fun e _=>e) (fun _ _ _ _ _ e _=>e) (fun e _=>e) (fun _ _ e _=>e) (fun _ _ e _=>e) (fun f z ff _ _ e A=>A f z ff) (fun e _=>e) (fun _ _ _ e _=>e) (fun e _=>e) (fun _ e _=>e) (fun e _=>e) (fun e _=>e) () (fun _ _ _ _=>()) v e k
def N0(v:ax)(e:Option Nat)(k:IntKind→Int→Option Nat):Option Nat:=
 ax.rec (motive_1:=fun _=>Option Nat→(IntKind→Int→Option Nat)→Option Nat) (motive_2:=fun _=>Unit) (fun _ e _=>e) (fun k n e z=>z k n) (fun _ _ e _=>e) (fun _ _ _ e _=>e) (fun e _=>e) (fun _ _ _ _ _ e _=>e) (fun e _=>e) (fun _ _ e _=>e) (fun _ _ e _=>e) (fun _ _ _ _ _ e _=>e) (fun e _=>e) (fun _ _ _ e _=>e) (fun e _=>e) (fun _ e _=>e) (fun e _=>e) (fun e _=>e) () (fun _ _ _ _=>()) v e k
def N1(v:ax)(e:Option ax)(k:IntKind→Int→Option ax):Option ax:=
 ax.rec (motive_1:=fun _=>Option ax→(IntKind→Int→Option ax)→Option ax) (motive_2:=fun _=>Unit) (fun _ e _=>e) (fun k n e z=>z k n) (fun _ _ e _=>e) (fun _ _ _ e _=>e) (fun e _=>e) (fun _ _ _ _ _ e _=>e) (fun e _=>e) (fun _ _ e _=>e) (fun _ _ e _=>e) (fun _ _ _ _ _ e _=>e) (fun e _=>e) (fun _ _ _ e _=>e) (fun e _=>e) (fun _ e _=>e) (fun e _=>e) (fun e _=>e) () (fun _ _ _ _=>()) v e k
def kq(v:ax):Option (List ax):=
 ax.rec (motive_1:=fun _=>Option (List ax)) (motive_2:=fun _=>Unit) (fun b=>some [.bool b]) (fun k n=>some [.int k n]) (fun l v=>some [.str l v]) (fun f g o=>some [.ptr f g o]) (some [.iN]) (fun f g o l es=>some [.slice f g o l es]) (some [.cB]) (fun cs _=>some cs) (fun _ _=>none) (fun f z ff _ _=>some [.func f z ff]) (some [.oq]) (fun t v _=>some [.iface t v]) (some [.il]) (fun f=>some [.map f]) (some [.vb]) (none) () (fun _ _ _ _=>()) v
def jt{β:Type}(o:Option et)(e:β)(k:Nat→Nat→Nat→Nat→Nat→Nat→RT→β):β:=
 Option.rec (motive:=fun _=>β) e (fun o=>et.casesOn (motive:=fun _=>β) o k (fun _=>e)) o
def jc{β:Type}(i:Int)(e:β)(k:Nat→β):β:=Int.rec (motive:=fun _=>β) k (fun _=>e) i
def jI(l:List ax):Nat:=List.rec (motive:=fun _=>Nat) 0 (fun _ _ z=>Nat.succ z) l
def aE.alloc(H:aE)(o:et)(k:Nat→aE→aH):aH:=
 aE.casesOn (motive:=fun _=>aH) H fun next bj ws t=>dz next fun f=>t.gV f o fun t=>k f ⟨Nat.succ f,bj,ws,t⟩
def qP(f:Nat)(l:List Nat):Bool:=
 List.rec (motive:=fun _=>Bool) false (fun x _ z=>aJ (Nat.beq f x) true z) l
def wrote(f bj:Nat)(ws:List Nat):List Nat:=
 aJ (Nat.ble bj f) ws (aJ (qP f ws) ws (f::ws))
def rd{β:Type}(H:aE)(f g off n:Nat)(e:β)(k:List ax→β):β:=
 jt (H.t.get f) e fun _ es _ m lo _ cs=>
  aJ (Nat.ble lo g) (aJ (Nat.ble g m) (aJ (Nat.ble (Nat.add (Nat.mod off es) n) es) (aJ (Nat.ble (Nat.succ (Nat.div off es)) g)
   (ob (cs.get (Nat.div off es)) e fun l=>aJ (Nat.beq n es) (k l) (k ((l.drop (Nat.mod off es)).take n))) e) e) e) e
def gR(l:List ax)(r:Nat)(new:List ax):List ax:=l.take r++(new++l.drop (r+new.length))
def wr(H:aE)(f g off n:Nat)(new:List ax)(e:aH)(k:aE→aH):aH:=
 aE.casesOn (motive:=fun _=>aH) H fun next bj ws t=>jt (t.get f) e fun elem es aV m lo fl cs=>
  aJ (Nat.beq fl 0) (aJ (Nat.beq g m) (aJ (Nat.ble lo g) (aJ (Nat.ble (Nat.add (Nat.mod off es) n) es) (aJ (Nat.ble (Nat.succ (Nat.div off es)) g) (aJ (Nat.beq (jI new) n)
   (ob (cs.get (Nat.div off es)) e fun l=>
    cs.gV (Nat.div off es) (aJ (Nat.beq n es) new (gR l (Nat.mod off es) new)) fun cs=>t.gV f (.row elem es aV m m 0 cs) fun t=>
     k ⟨next,bj,wrote f bj ws,t⟩) e) e) e) e) e) e
def wZ(v i:Nat):Nat:=Nat.mod (Nat.shiftRight v (Nat.mul 8 i)) 256
def yC(v lo hi:Nat):Nat:=Nat.mod (Nat.shiftRight v (Nat.mul 8 lo)) (Nat.shiftLeft 1 (Nat.mul 8 (Nat.sub hi lo)))
def vd(l1 z A:Nat):Nat:=Nat.add z (Nat.shiftLeft A (Nat.mul 8 l1))
def strLt(l1:Nat):Nat→Nat→Nat→Bool:=
 Nat.rec (motive:=fun _=>Nat→Nat→Nat→Bool) (fun _ z _=>Bool.not (Nat.beq z 0))
  (fun _ J A z G=>Nat.rec (motive:=fun _=>Bool) false (fun I _=>
   match Nat.beq (Nat.mod A 256) (Nat.mod G 256) with
   |true=>J (Nat.div A 256) I (Nat.div G 256)
   |false=>Nat.ble (Nat.succ (Nat.mod A 256)) (Nat.mod G 256)) z) l1
def pack:List UInt8→Nat
 |[]=>0
 |b::r=>b.toNat+256*pack r
def dO:IntKind→Nat
 |.i8=>0|.i16=>1|.i32=>2|.i64=>3|.u8=>4|.u16=>5|.u32=>6|.u64=>7
def mB(k:IntKind)(n:Int):Int:=
 match k,n with
 |.i64,.ofNat m=>match Nat.ble m 9223372036854775807 with|true=>.ofNat m|false=>IntKind.wrap .i64 (.ofNat m)
 |.i64,.negSucc m=>match Nat.ble m 9223372036854775807 with|true=>.negSucc m|false=>IntKind.wrap .i64 (.negSucc m)
 |k,n=>k.wrap n
def lN:Int→Int→Bool
 |.ofNat a,.ofNat b=>Nat.ble (Nat.succ a) b
 |.ofNat _,.negSucc _=>false
 |.negSucc _,.ofNat _=>true
 |.negSucc a,.negSucc b=>Nat.ble (Nat.succ b) a
def mK:Int→Int→Bool
 |.ofNat a,.ofNat b=>Nat.beq a b
 |.negSucc a,.negSucc b=>Nat.beq a b
 |_,_=>false
def intBits(op:BinOp)(k:IntKind)(x y:Int):Option Int:=
 let a:=BitVec.ofInt k.bits x
 let b:=BitVec.ofInt k.bits y
 match op with
 |.and=>some (k.wrap ((a&&&b).toNat))
 |.or=>some (k.wrap ((a|||b).toNat))
 |.xor=>some (k.wrap ((a^^^b).toNat))
 |.andNot=>some (k.wrap ((a&&&~~~b).toNat))
 |_=>none
def jr(op:BinOp)(k:IntKind)(a:Int)(z:IntKind)(b:Int):Option ax:=
 match op with
 |.shl=>aJ (lN b 0) none (some (.int k (mB k (a*2^(Nat.min b.toNat k.bits)))))
 |.shr=>aJ (lN b 0) none (some (.int k (a.fdiv (2^(Nat.min b.toNat k.bits)))))
 |.add=>aJ (Nat.beq (dO k) (dO z)) (some (.int k (mB k (a+b)))) none
 |.sub=>aJ (Nat.beq (dO k) (dO z)) (some (.int k (mB k (a-b)))) none
 |.mul=>aJ (Nat.beq (dO k) (dO z)) (some (.int k (mB k (a*b)))) none
 |.quo=>aJ (Nat.beq (dO k) (dO z)) (aJ (mK b 0) none (some (.int k (mB k (a.tdiv b))))) none
 |.rem=>aJ (Nat.beq (dO k) (dO z)) (aJ (mK b 0) none (some (.int k (a.tmod b)))) none
 |.eql=>aJ (Nat.beq (dO k) (dO z)) (some (.bool (mK a b))) none
 |.neq=>aJ (Nat.beq (dO k) (dO z)) (some (.bool (Bool.not (mK a b)))) none
 |.lss=>aJ (Nat.beq (dO k) (dO z)) (some (.bool (lN a b))) none
 |.leq=>aJ (Nat.beq (dO k) (dO z)) (some (.bool (Bool.not (lN b a)))) none
 |.gtr=>aJ (Nat.beq (dO k) (dO z)) (some (.bool (lN b a))) none
 |.geq=>aJ (Nat.beq (dO k) (dO z)) (some (.bool (Bool.not (lN a b)))) none
 |op=>aJ (Nat.beq (dO k) (dO z)) (ob (intBits op k a b) none fun r=>some (.int k r)) none
def sr(l1 z A G:Nat):Bool:=match Nat.beq l1 A with|true=>Nat.beq z G|false=>false
def Ii(op:BinOp)(l1 A z G:Nat):Option ax:=
 match op with
 |.add=>aJ (Nat.ble (Nat.add l1 z) 4611686018427387904) (some (.str (Nat.add l1 z) (vd l1 A G))) none
 |.eql=>some (.bool (sr l1 A z G))
 |.neq=>some (.bool (Bool.not (sr l1 A z G)))
 |.lss=>some (.bool (strLt l1 A z G))
 |.leq=>some (.bool (Bool.not (strLt z G l1 A)))
 |.gtr=>some (.bool (strLt z G l1 A))
 |.geq=>some (.bool (Bool.not (strLt l1 A z G)))
 |_=>none
def Cy(op:BinOp)(x y:ax):Option ax:=
 match x,y with
 |.int k a,.int z b=>jr op k a z b
 |.str l1 A,.str G I=>Ii op l1 A G I
 |_,_=>none
def Gt(op:UnOp)(x:ax):Option ax:=
 match op,x with
 |.neg,.int k n=>some (.int k (mB k (0-n)))
 |.xor,.int k n=>ob (intBits .xor k (if k.signed then-1 else k.max) n) none fun r=>some (.int k r)
 |.not,.bool b=>some (.bool (Bool.not b))
 |_,_=>none
def tw(c:Nat):ax→Bool
 |.int k _=>Nat.beq (dO k) c
 |.bool _=>Nat.beq c 100
 |.str _ _=>Nat.beq c 101
 |_=>false
def lE:List Nat→List ax→Bool
 |[],[]=>true
 |c::r,a::s=>tw c a&&lE r s
 |_,_=>false
def x8:ax→ax→Option Bool
 |.int k a,.int z b=>match Nat.beq (dO k) (dO z) with|true=>some (mK a b)|false=>none
 |.bool a,.bool b=>some (a==b)
 |.str l1 A,.str G I=>some (sr l1 A G I)
 |_,_=>none
def ra:List ax→List ax→Option Bool
 |[],[]=>some true
 |a::r,b::s=>match x8 a b with
  |some true=>ra r s
  |some false=>match ra r s with|some _=>some false|none=>none
  |none=>none
 |_,_=>none
def n8(c:At)(x y:ax):Option Bool:=
 match c with
 |.bool=>match x,y with|.bool a,.bool b=>some (a==b)|_,_=>none
 |.ptr=>match x,y with
  |.iN,.iN=>some true
  |.iN,.ptr _ _ _=>some false
  |.ptr _ _ _,.iN=>some false
  |.ptr f g o,.ptr f' g' z=>aJ (Nat.beq f f') (aJ (Nat.beq g g') (aJ (Nat.beq o z) (some true) none) none) none
  |_,_=>none
 |.agg ks=>match x,y with|.agg a,.agg b=>aJ (lE ks a) (aJ (lE ks b) (ra a b) none) none|_,_=>none
 |.slice=>match x,y with
  |.cB,.cB=>some true
  |.cB,.slice _ _ _ _ _=>some false
  |.slice _ _ _ _ _,.cB=>some false
  |_,_=>none
 |.iface=>match x,y with
  |.il,.il=>some true
  |.il,.iface _ _=>some false
  |.iface _ _,.il=>some false
  |.iface t _,.iface t' _=>aJ (Nat.beq t t') none (some false)
  |_,_=>none
 |.func=>match x,y with
  |.oq,.oq=>some true
  |.oq,.func _ _ _=>some false
  |.func _ _ _,.oq=>some false
  |_,_=>none
 |.map=>match x,y with
  |.vb,.vb=>some true
  |_,_=>none
def sL(m n:Nat):Int:=Bool.rec (motive:=fun _=>Int) (.negSucc (Nat.pred (Nat.sub n m))) (.ofNat (Nat.sub m n)) (Nat.ble n m)
def Qe(x y:Int):Int:=
 Int.rec (motive:=fun _=>Int→Int) (fun m y=>Int.rec (motive:=fun _=>Int) (fun n=>.ofNat (Nat.add m n)) (fun n=>sL m (Nat.succ n)) y)
  (fun m y=>Int.rec (motive:=fun _=>Int) (fun n=>sL n (Nat.succ m)) (fun n=>.negSucc (Nat.succ (Nat.add m n))) y) x y
def Qf(x y:Int):Int:=
 Int.rec (motive:=fun _=>Int→Int) (fun m y=>Int.rec (motive:=fun _=>Int) (fun n=>sL m n) (fun n=>.ofNat (Nat.add m (Nat.succ n))) y)
  (fun m y=>Int.rec (motive:=fun _=>Int) (fun n=>.negSucc (Nat.add m n)) (fun n=>sL n m) y) x y
def CU(x y:Int):Bool:=
 Int.rec (motive:=fun _=>Int→Bool) (fun m y=>Int.rec (motive:=fun _=>Bool) (fun n=>Nat.ble (Nat.succ m) n) (fun _=>false) y)
  (fun m y=>Int.rec (motive:=fun _=>Bool) (fun _=>true) (fun n=>Nat.ble (Nat.succ n) m) y) x y
def JP(x y:Int):Bool:=
 Int.rec (motive:=fun _=>Int→Bool) (fun m y=>Int.rec (motive:=fun _=>Bool) (fun n=>Nat.beq m n) (fun _=>false) y)
  (fun m y=>Int.rec (motive:=fun _=>Bool) (fun _=>false) (fun n=>Nat.beq m n) y) x y
def QZ(n:Int):Int:=
 Int.rec (motive:=fun _=>Int) (fun m=>Bool.rec (motive:=fun _=>Int) (IntKind.wrap .i64 (.ofNat m)) (.ofNat m) (Nat.ble m 9223372036854775807))
  (fun m=>Bool.rec (motive:=fun _=>Int) (IntKind.wrap .i64 (.negSucc m)) (.negSucc m) (Nat.ble m 9223372036854775807)) n
def wU(mx:Nat)(k:IntKind)(n:Int):Int:=
 Int.rec (motive:=fun _=>Int) (fun m=>Bool.rec (motive:=fun _=>Int) (IntKind.wrap k (.ofNat m)) (.ofNat m) (Nat.ble m mx)) (fun m=>IntKind.wrap k (.negSucc m)) n
def IS(k:IntKind):Int→Int:=
 IntKind.rec (motive:=fun _=>Int→Int) (IntKind.wrap .i8) (IntKind.wrap .i16) (IntKind.wrap .i32) QZ (wU 255 .u8) (wU 65535 .u16) (wU 4294967295 .u32) (wU 18446744073709551615 .u64) k
def nS(op:BinOp)(a b:ax)(k:ax→aH):aH:=ob (Cy op a b) (.err 6) fun v=>nj v k
def Ij(f:Int→Int→Int)(op:BinOp)(a b:ax)(k:ax→aH):aH:=
 gU a (nS op a b k) fun z x=>gU b (nS op a b k) fun A y=>aJ (Nat.beq (dO z) (dO A)) (lR (IS z (f x y)) fun r=>k (.int z r)) (.err 6)
def xr(f:Int→Int→Bool)(op:BinOp)(a b:ax)(k:ax→aH):aH:=
 gU a (nS op a b k) fun A x=>gU b (nS op a b k) fun z y=>aJ (Nat.beq (dO A) (dO z)) (nM (f x y) fun r=>k (.bool r)) (.err 6)
def Q0(x y:Int):Bool:=Bool.not (JP x y)
def Q2(x y:Int):Bool:=Bool.not (CU y x)
def Q3(x y:Int):Bool:=CU y x
def Q4(x y:Int):Bool:=Bool.not (CU x y)
def Ac(op:BinOp):ax→ax→(ax→aH)→aH:=
 BinOp.rec (motive:=fun _=>ax→ax→(ax→aH)→aH) (Ij Qe .add) (Ij Qf .sub) (nS .mul) (nS .quo) (nS .rem) (nS .and) (nS .or) (nS .xor) (nS .shl) (nS .shr) (nS .andNot)
  (xr JP .eql) (xr Q0 .neq) (xr CU .lss) (xr Q2 .leq) (xr Q3 .gtr) (xr Q4 .geq) op
def iB:ax→Bool
 |.agg _=>false|.tuple _=>false|.undef=>false|_=>true
def jf(agg:Bool)(l:List ax)(e:aH)(k:ax→aH):aH:=
 aJ agg (k (.agg l)) (List.rec (motive:=fun _=>aH) e (fun v r _=>List.rec (motive:=fun _=>aH) (k v) (fun _ _ _=>e) r) l)
def aI.ev(x:aI)(E:Env):Option ax:=
 aI.casesOn (motive:=fun _=>Option ax) x (fun n=>E.get n) some
def bI(x:aI)(E:Env)(e:aH)(k:ax→aH):aH:=
 aI.casesOn (motive:=fun _=>aH) x (fun n=>ob (E.get n) e k) k
def ki(E:Env)(l:List aI):Option (List ax):=
 List.rec (motive:=fun _=>Option (List ax)) (some []) (fun x _ z=>ob (x.ev E) none fun v=>ob z none fun vs=>some (v::vs)) l
def gH(E:Env)(x:Option aI)(z y:Nat)(e:aH)(k:Nat→aH):aH:=
 Option.rec (motive:=fun _=>aH) (k z) (fun x=>ob (x.ev E) e fun v=>gU v e fun _ i=>jc i e fun n=>aJ (Nat.ble n y) (k n) e) x
def idx(v:ax)(n:Nat)(e:aH)(k:Nat→aH):aH:=
 gU v e fun _ i=>jc i e fun i=>aJ (Nat.ble (Nat.succ i) n) (k i) e
def elems(H:aE)(f g es:Nat)(n:Nat):Nat→Option (List (List ax)):=
 Nat.rec (motive:=fun _=>Nat→Option (List (List ax))) (fun _=>some [])
  (fun _ z off=>rd H f g off es none fun l=>ob (z (Nat.add off es)) none fun r=>some (l::r)) n
def jZ(l:List (List ax)):RT→Nat→RT:=
 List.rec (motive:=fun _=>RT→Nat→RT) (fun t _=>t) (fun x _ z t i=>z (t.set i x) (Nat.succ i)) l
def tJ(l:List (List ax)):RT→Nat→(RT→aH)→aH:=
 List.rec (motive:=fun _=>RT→Nat→(RT→aH)→aH) (fun t _ c=>c t) (fun x _ z t i c=>t.gV i x fun t=>dz (Nat.succ i) fun i=>z t i c) l
theorem wG:∀(l:List (List ax))(t:RT)(i:Nat)(c:RT→aH),tJ l t i c=c (jZ l t i)
 |[],_,_,_=>rfl
 |x::l,t,i,c=>by
  show(t.gV i x fun t=>dz (Nat.succ i) fun i=>tJ l t i c)=c (jZ l (t.set i x) (i+1))
  rw[RT.kG,iG,wG l]
def oA(x:List ax)(n:Nat):RT:=
 Nat.rec (motive:=fun _=>RT) .emp (fun m t=>t.set m x) n
def xu(x:List ax)(n:Nat):(RT→aH)→aH:=
 Nat.rec (motive:=fun _=>(RT→aH)→aH) (fun c=>c .emp) (fun m z c=>z fun t=>t.gV m x c) n
theorem D'(x:List ax):∀(n:Nat)(c:RT→aH),xu x n c=c (oA x n)
 |0,_=>rfl
 |n+1,c=>by
  show(xu x n fun t=>t.gV n x c)=c ((oA x n).set n x)
  rw[D' x n,RT.kG]
def mV(l:Nat):Nat→List (List ax):=
 Nat.rec (motive:=fun _=>Nat→List (List ax)) (fun _=>[]) (fun _ z v=>[ax.int .u8 (Int.ofNat (Nat.mod v 256))]::z (Nat.div v 256)) l
def qs(E:Env)(parts:List (Nat×Nat×aI)):List ax→Option (List ax):=
 List.rec (motive:=fun _=>List ax→Option (List ax)) some
  (fun p _ z cells=>ob (p.2.2.ev E) none fun v=>ob (kq v) none fun new=>aJ (Nat.beq (jI new) p.2.1) (z (gR cells p.1 new)) none) parts
def rb(E:Env)(es z:Nat)(parts:List (Nat×aI)):RT→Option RT:=
 List.rec (motive:=fun _=>RT→Option RT) some
  (fun p _ A t=>ob (p.2.ev E) none fun v=>ob (kq v) none fun new=>aJ (Nat.beq (jI new) es) (aJ (Nat.ble (Nat.succ p.1) z) (A (t.set p.1 new)) none) none) parts
def w3(elem es aV n:Nat)(new:List (List ax))(H:aE):aH:=
 aJ (Nat.ble (Nat.mul n aV) 70368744177664)
  (tJ new .emp 0 fun cs=>H.alloc (.row elem es aV n n 0 cs) fun f H=>.ok (.slice f n 0 n es) H) (.err 35)
def yD(elem es aV n:Nat)(new:List (List ax))(H:aE)(f g off I fA:Nat):aH:=
 aE.casesOn (motive:=fun _=>aH) H fun next bj ws t=>jt (t.get f) (.err 33) fun z A na m lo fl cs=>
  aJ (Nat.beq off 0) (aJ (Nat.beq g m) (aJ (Nat.ble lo g) (aJ (Nat.beq I m) (aJ (Nat.beq fA es) (aJ (Nat.beq A es) (aJ (Nat.beq fl 1) (.err 32)
   (aJ (Nat.ble (Nat.mul (Nat.add m n) aV) 70368744177664) (aJ (Nat.beq elem z)
    (dz (Nat.add m n) fun G=>tJ new cs m fun cs=>t.gV f (.row z A na G lo fl cs) fun t=>
     .ok (.slice f G 0 G es) ⟨next,bj,wrote f bj ws,t⟩) (.err 32)) (.err 32))) (.err 32)) (.err 32)) (.err 32)) (.err 32)) (.err 32)) (.err 32)
def ka(elem es aV n:Nat)(new:List (List ax))(H:aE)(x:ax):aH:=
 Nat.rec (motive:=fun _=>aH) (hO x (.err 31) (.ok x H) fun _ _ _ _ _=>.ok x H)
  (fun n _=>hO x (.err 34) (w3 elem es aV (Nat.succ n) new H) (yD elem es aV (Nat.succ n) new H)) n
def mG(x:aI)(E:Env)(H:aE):aH:=bI x E (.err 1) fun v=>.ok v H
def B0(c a b:aI)(E:Env)(H:aE):aH:=bI c E (.err 2) fun v=>tv v (.err 2) fun t=>aJ t (mG a E H) (mG b E H)
def xf(elem es aV:Nat)(cells:List ax)(_:Env)(H:aE):aH:=
 H.alloc (.row elem es aV 1 1 0 (.one cells)) fun f H=>.ok (.ptr f 1 0) H
def Cz(elem es aV:Nat)(x:aI)(E:Env)(H:aE):aH:=
 bI x E (.err 3) fun v=>ob (kq v) (.err 3) fun l=>aJ (Nat.beq (jI l) es) (xf elem es aV l E H) (.err 3)
def B1(n:Nat)(agg:Bool)(a:aI)(E:Env)(H:aE):aH:=
 bI a E (.err 4) fun v=>iW v (.err 4) fun f g off=>rd H f g off n (.err 4) fun l=>jf agg l (.err 4) fun v=>.ok v H
def BC(n:Nat)(a x:aI)(E:Env)(H:aE):aH:=
 bI a E (.err 5) fun p=>iW p (.err 5) fun f g off=>bI x E (.err 5) fun v=>ob (kq v) (.err 5) fun l=>wr H f g off n l (.err 5) fun H=>.ok .undef H
def CA(op:BinOp)(x y:aI)(E:Env)(H:aE):aH:=
 bI x E (.err 6) fun a=>bI y E (.err 6) fun b=>Ac op a b fun v=>.ok v H
def Au(c:At)(neg:Bool)(x y:aI)(E:Env)(H:aE):aH:=
 bI x E (.err 7) fun a=>bI y E (.err 7) fun b=>ob (n8 c a b) (.err 7) fun r=>nM (Bool.xor neg r) fun r=>.ok (.bool r) H
def CV(op:UnOp)(x:aI)(E:Env)(H:aE):aH:=bI x E (.err 8) fun a=>ob (Gt op a) (.err 8) fun v=>nj v fun v=>.ok v H
def B2(x:aI)(k:Nat)(E:Env)(H:aE):aH:=
 bI x E (.err 9) fun v=>iW v (.err 9) fun f g off=>dz (Nat.add off k) fun off=>.ok (.ptr f g off) H
def CB(x:aI)(off n:Nat)(agg:Bool)(E:Env)(H:aE):aH:=
 bI x E (.err 10) fun v=>pN v (.err 10) fun cs=>aJ (Nat.ble (Nat.add off n) (jI cs)) (jf agg ((cs.drop off).take n) (.err 10) fun v=>.ok v H) (.err 10)
def Bd(z es:Nat)(x i:aI)(E:Env)(H:aE):aH:=
 bI x E (.err 11) fun v=>iW v (.err 11) fun f g off=>bI i E (.err 11) fun A=>idx A z (.err 11) fun j=>dz (Nat.add off (Nat.mul j es)) fun off=>.ok (.ptr f g off) H
def BD(es:Nat)(x i:aI)(E:Env)(H:aE):aH:=
 bI x E (.err 12) fun v=>hO v (.err 12) (.err 12) fun f g off z _=>bI i E (.err 12) fun A=>idx A z (.err 12) fun j=>dz (Nat.add off (Nat.mul j es)) fun off=>.ok (.ptr f g off) H
def Be(z es:Nat)(agg:Bool)(x i:aI)(E:Env)(H:aE):aH:=
 bI x E (.err 13) fun v=>pN v (.err 13) fun cs=>bI i E (.err 13) fun A=>idx A z (.err 13) fun j=>
  aJ (Nat.ble (Nat.add (Nat.mul j es) es) (jI cs)) (jf agg ((cs.drop (Nat.mul j es)).take es) (.err 13) fun v=>.ok v H) (.err 13)
def Bf(x i:aI)(E:Env)(H:aE):aH:=
 bI x E (.err 14) fun v=>j7 v (.err 14) fun l s=>bI i E (.err 14) fun z=>idx z l (.err 14) fun j=>dz (wZ s j) fun b=>.ok (.int .u8 (.ofNat b)) H
def BE(x:aI)(lo hi:Option aI)(E:Env)(H:aE):aH:=
 bI x E (.err 15) fun v=>j7 v (.err 15) fun l s=>gH E hi l l (.err 15) fun h=>gH E lo 0 h (.err 15) fun lo=>
  dz (Nat.sub h lo) fun n=>dz (yC s lo h) fun s=>.ok (.str n s) H
def B3(es:Nat)(x:aI)(lo hi:Option aI)(E:Env)(H:aE):aH:=
 bI x E (.err 16) fun v=>hO v (.err 16) (gH E hi 0 0 (.err 16) fun h=>gH E lo 0 h (.err 16) fun _=>.ok .cB H)
  fun f g off z fA=>aJ (Nat.beq es fA) (gH E hi z z (.err 16) fun h=>gH E lo 0 h (.err 16) fun lo=>
   dz (Nat.add off (Nat.mul lo es)) fun off=>dz (Nat.sub h lo) fun n=>.ok (.slice f g off n fA) H) (.err 16)
def ED(z es:Nat)(x:aI)(lo hi:Option aI)(E:Env)(H:aE):aH:=
 bI x E (.err 17) fun v=>iW v (.err 17) fun f g off=>jt (H.t.get f) (.err 17) fun _ fA _ m l0 _ _=>
  aJ (Nat.ble l0 g) (aJ (Nat.ble g m) (aJ (Nat.ble (Nat.add off (Nat.mul z es)) (Nat.mul g fA)) (gH E hi z z (.err 17) fun h=>gH E lo 0 h (.err 17) fun lo=>
   dz (Nat.add off (Nat.mul lo es)) fun off=>dz (Nat.sub h lo) fun n=>.ok (.slice f g off n es) H) (.err 17)) (.err 17)) (.err 17)
def B4(x:aI)(i:Nat)(E:Env)(H:aE):aH:=bI x E (.err 18) fun v=>th v (.err 18) fun vs=>ob (vs[i]?) (.err 18) fun v=>.ok v H
def yl:ax→Bool
 |.ptr _ _ _=>true|.func _ _ _=>true|_=>false
def BF(x:aI)(E:Env)(H:aE):aH:=bI x E (.err 19) fun v=>aJ (yl v) (.ok v H) (.err 19)
def B5(f:Nat)(first ff:List aI)(E:Env)(H:aE):aH:=ob (ki E first) (.err 20) fun z=>ob (ki E ff) (.err 20) fun vs=>.ok (.func f z vs) H
def B6(t:Nat)(x:aI)(E:Env)(H:aE):aH:=bI x E (.err 21) fun v=>.ok (.iface t v) H
def B7(elem es aV:Nat)(zero:List ax)(z A:aI)(E:Env)(H:aE):aH:=
 bI z E (.err 22) fun a=>gU a (.err 22) fun _ a=>jc a (.err 22) fun l=>bI A E (.err 22) fun b=>gU b (.err 22) fun _ b=>jc b (.err 22) fun c=>
  aJ (Nat.ble l c) (aJ (Nat.ble (Nat.mul c aV) 70368744177664) (aJ (Nat.ble c 4611686018427387904)
   (xu zero l fun cs=>H.alloc (.row elem es aV l l 0 cs) fun f H=>.ok (.slice f l 0 l es) H) (.err 22)) (.err 22)) (.err 22)
def EE(zero:List ax)(parts:List (Nat×Nat×aI))(E:Env)(H:aE):aH:=ob (qs E parts zero) (.err 23) fun cs=>.ok (.agg cs) H
def DW(elem es aV z:Nat)(zero:List ax)(parts:List (Nat×aI))(E:Env)(H:aE):aH:=
 ob (rb E es z parts (oA zero z)) (.err 24) fun t=>H.alloc (.row elem es aV z z 0 t) fun f H=>.ok (.slice f z 0 z es) H
def CC(x:aI)(E:Env)(H:aE):aH:=bI x E (.err 25) fun v=>hO v (.err 25) (.ok (.int .i64 (.ofNat 0)) H) fun _ _ _ l _=>.ok (.int .i64 (.ofNat l)) H
def B8(x:aI)(E:Env)(H:aE):aH:=bI x E (.err 25) fun v=>j7 v (.err 25) fun l _=>.ok (.int .i64 (.ofNat l)) H
def PG(n:Nat)(_:Env)(H:aE):aH:=.ok (.int .i64 (.ofNat n)) H
def CD(elem es aV:Nat)(x y:aI)(E:Env)(H:aE):aH:=
 bI x E (.err 26) fun a=>bI y E (.err 26) fun b=>hO b (.err 26) (ka elem es aV 0 [] H a) fun f g off n _=>
  ob (elems H f g es n off) (.err 26) fun l=>ka elem es aV n l H a
def Bg(elem:Nat)(x y:aI)(E:Env)(H:aE):aH:=
 bI x E (.err 27) fun a=>bI y E (.err 27) fun b=>j7 b (.err 27) fun l v=>ka elem 1 1 l (mV l v) H a
def XV(_:Nat)(_ _:aI)(_:Env)(_:aE):aH:=.err 28
def Gu(mx:Bool)(k:IntKind)(l:List ax):Int→Option ax:=
 List.rec (motive:=fun _=>Int→Option ax) (fun a=>some (.int k a))
  (fun v _ z a=>N1 v none fun _ b=>lR (aJ (aJ mx (lN a b) (lN b a)) b a) z) l
def Bh(mx:Bool)(x:aI)(ys:List aI)(E:Env)(H:aE):aH:=
 bI x E (.err 29) fun a=>gU a (.err 29) fun k a=>ob (ki E ys) (.err 29) fun vs=>ob (Gu mx k vs a) (.err 29) fun v=>.ok v H
def B9(k:IntKind)(x:aI)(E:Env)(H:aE):aH:=bI x E (.err 36) fun v=>gU v (.err 36) fun _ n=>lR (mB k n) fun n=>.ok (.int k n) H
def Bj(elem:Nat)(x:aI)(E:Env)(H:aE):aH:=
 bI x E (.err 38) fun v=>j7 v (.err 38) fun l s=>aJ (Nat.ble l 70368744177664)
  (tJ (mV l s) .emp 0 fun cs=>H.alloc (.row elem 1 1 l l 3 cs) fun f H=>.ok (.slice f l 0 l 1) H) (.err 38)
def ni(l:List (List ax)):Option Nat:=
 List.rec (motive:=fun _=>Option Nat) (some 0) (fun c _ z=>List.rec (motive:=fun _=>Option Nat) none (fun v r _=>List.rec (motive:=fun _=>Option Nat)
  (N0 v none fun k i=>aJ (Nat.beq (dO k) 4) (jc i none fun b=>aJ (Nat.ble b 255) (ob z none fun v=>some (Nat.add b (Nat.mul 256 v))) none) none) (fun _ _ _=>none) r) c) l
def Bk(x:aI)(E:Env)(H:aE):aH:=
 bI x E (.err 39) fun v=>hO v (.err 39) (.ok (.str 0 0) H) fun f g off n _=>
  ob (elems H f g 1 n off) (.err 39) fun l=>ob (ni l) (.err 39) fun s=>dz s fun s=>.ok (.str n s) H
def yE:ax→Bool
 |.iN=>true|_=>false
def BG(t n:Nat)(x:aI)(E:Env)(H:aE):aH:=
 bI x E (.err 44) fun v=>aJ (yE v) (.ok v H) (iW v (.err 44) fun f g off=>jt (H.t.get f) (.err 44) fun elem es _ m lo fl _=>
  aJ (Nat.beq elem t) (aJ (Nat.beq es n) (aJ (Nat.beq off 0) (aJ (Nat.ble lo g) (aJ (Nat.ble g m) (aJ (Nat.ble 1 g) (aJ (Nat.beq fl 0) (.ok v H) (.err 44)) (.err 44)) (.err 44)) (.err 44)) (.err 44)) (.err 44)) (.err 44))
def CE(x:aI)(E:Env)(H:aE):aH:=
 bI x E (.err 45) fun v=>hO v (.err 45) (.ok .iN H) fun f g off l _=>aJ (Nat.beq l 0) (.err 45) (.ok (.ptr f g off) H)
def nd(f e:Nat)(H:aE)(k:aE→aH):aH:=
 aE.casesOn (motive:=fun _=>aH) H fun next bj ws t=>jt (t.get f) (.err 46) fun elem es aV m lo fl cs=>
  aJ (Nat.beq elem e) (aJ (Nat.beq es 1) (aJ (aJ (Nat.beq fl 0) true (Nat.beq fl 2)) (t.gV f (.row elem es aV m lo 2 cs) fun t=>k ⟨next,bj,wrote f bj ws,t⟩) (.err 46)) (.err 46)) (.err 46)
def xg(e:Nat)(x n:aI)(E:Env)(H:aE):aH:=
 bI x E (.err 46) fun p=>aJ (yE p) (bI n E (.err 46) fun z=>gU z (.err 46) fun k i=>jc i (.err 46) fun l=>aJ (Nat.beq (dO k) 3) (aJ (Nat.beq l 0) (.ok (.str 0 0) H) (.err 46)) (.err 46))
  (iW p (.err 46) fun f g off=>bI n E (.err 46) fun z=>gU z (.err 46) fun k i=>jc i (.err 46) fun l=>
  aJ (Nat.beq off 0) (aJ (Nat.beq (dO k) 3) (aJ (Nat.ble 1 l) (aJ (Nat.ble l 70368744177664) (ob (elems H f g 1 l 0) (.err 46) fun L=>ob (ni L) (.err 46) fun s=>dz s fun s=>nd f e H fun H=>.ok (.str l s) H) (.err 46)) (.err 46)) (.err 46)) (.err 46))
abbrev fc:=Nat→List ax→aE→aH
def Ca(f:Nat)(args:List aI)(call:fc)(E:Env)(H:aE):aH:=ob (ki E args) (.err 42) fun vs=>call f vs H
def BH(x:aI)(args:List aI)(call:fc)(E:Env)(H:aE):aH:=
 bI x E (.err 43) fun v=>vc v (.err 43) fun f z ff=>ob (ki E args) (.err 43) fun vs=>call f (z++(vs++ff)) H
def bP.ev(o:bP):fc→Env→aE→aH:=
 bP.rec (motive:=fun _=>fc→Env→aE→aH)
  (fun x _=>mG x) (fun c a b _=>B0 c a b) (fun a b c d _=>xf a b c d) (fun a b c d _=>Cz a b c d) (fun a b c _=>B1 a b c) (fun a b c _=>BC a b c)
  (fun a b c _=>CA a b c) (fun a b c d _=>Au a b c d) (fun a b _=>CV a b) (fun a b _=>B2 a b) (fun a b c d _=>CB a b c d) (fun a b c d _=>Bd a b c d)
  (fun a b c _=>BD a b c) (fun a b c d e _=>Be a b c d e) (fun a b _=>Bf a b) (fun a b c _=>BE a b c) (fun a b c d _=>B3 a b c d) (fun a b c d e _=>ED a b c d e)
  (fun a b _=>B4 a b) (fun a _=>BF a) (fun a b c _=>B5 a b c) (fun a b _=>B6 a b) (fun a b c d e f _=>B7 a b c d e f) (fun a b _=>EE a b)
  (fun a b c d e f _=>DW a b c d e f) (fun a _=>CC a) (fun a _=>PG a) (fun a _=>B8 a) (fun a b c d e _=>CD a b c d e) (fun a b c _=>Bg a b c) (fun a b c _=>XV a b c)
  (fun a b c _=>Bh a b c) (fun a b _=>B9 a b) (fun a _=>mG a) (fun a b _=>Bj a b) (fun a _=>Bk a) (fun f args=>Ca f args) (fun x args=>BH x args) (fun a b c _=>BG a b c) (fun a _=>CE a) (fun a b c _=>xg a b c) o
def fin(dst:Option Key)(E:Env)(k:Env→aE→e9)(r:aH):e9:=
 aH.rec (motive:=fun _=>e9) (fun v H=>Option.rec (motive:=fun _=>e9) (k E H) (fun d=>E.Ab d v fun E=>k E H) dst) .err r
def bA.run(call:fc)(o:bA)(E:Env)(H:aE)(k:Env→aE→e9):e9:=fin o.dst E k (o.op.ev call E H)
def k9(dst:Option Key)(E:Env)(H:aE)(k:Env→aE→e9):e9:=
 Option.rec (motive:=fun _=>e9) (k E H) (fun d=>E.Ab d .undef fun E=>k E H) dst
def bA.step(call:fc)(o:bA)(E:Env)(H:aE)(k:Env→aE→e9):e9:=
 Option.rec (motive:=fun _=>e9) (o.run call E H k)
  (fun g=>ob (E.get g.1) (.err 51) fun v=>xq v (k9 o.dst E H k) fun b=>aJ (Bool.xor b g.2) (k9 o.dst E H k) (o.run call E H k)) o.g
def nu(call:fc)(l:List bA):Env→aE→e9:=
 List.rec (motive:=fun _=>Env→aE→e9) e9.ok (fun o _ z E H=>o.step call E H z) l
structure FP where
 rd:Option (List Nat)
 ws:List Nat
 lo:Nat
 hi:Nat
def ju:Option ax→List Nat
 |some (.ptr f _ _)=>[f]
 |some (.slice f _ _ _ _)=>[f]
 |_=>[]
def bP.reads(E:Env):bP→Option (List Nat)
 |.load _ _ a=>some (ju (a.ev E))
 |.app _ _ _ x y=>some (ju (x.ev E)++ju (y.ev E))
 |.rY _ x _=>some (ju (x.ev E))
 |.nN x=>some (ju (x.ev E))
 |.xe _ _ x _ _=>some (ju (x.ev E))
 |.store _ a _=>some (ju (a.ev E))
 |.rl _ _ x=>some (ju (x.ev E))
 |.rA _ x _=>some (ju (x.ev E))
 |.call _ _=>none
 |.ns _ _=>none
 |.copy _ _ _=>none
 |_=>some []
def zM(l m:List Nat):Bool:=
 List.rec (motive:=fun _=>Bool) true (fun x _ z=>aJ (qP x m) false z) l
def vU(l:List Nat)(lo hi:Nat):Bool:=
 List.rec (motive:=fun _=>Bool) true (fun x _ z=>aJ (Nat.ble lo x) (aJ (Nat.ble hi x) z false) z) l
def Cb(l:List Nat)(r:Option (List Nat)):Bool:=
 List.rec (motive:=fun _=>Bool) true (fun _ _ _=>Option.rec (motive:=fun _=>Bool) false (fun r=>zM l r) r) l
def tl(a b:FP):Bool:=
 aJ (Cb a.ws b.rd) (aJ (Cb b.ws a.rd) (aJ (zM a.ws b.ws) (vU a.ws b.lo b.hi) false) false) false
def qd(a:FP)(b9:List FP)(l:List Nat):Bool:=
 List.rec (motive:=fun _=>Bool) true (fun i _ z=>ob (b9[i]?) false fun b=>aJ (tl a b) z false) l
def pz(bj:Nat)(ws new:List Nat):List Nat:=
 List.rec (motive:=fun _=>List Nat) ws (fun f _ z=>wrote f bj z) new
def Ad(rs:Option (List Nat))(l:List Nat)(next bj:Nat)(ws:List Nat)(b9:List FP)(dst:Option Key)(E:Env)(k:Env→aE→List FP→e9)(r:aH):e9:=
 aH.rec (motive:=fun _=>e9) (fun v H'=>aE.casesOn (motive:=fun _=>e9) H' fun next' _ z t'=>
  aJ (qd ⟨rs,z,next,next'⟩ b9 l)
   (Option.rec (motive:=fun _=>e9) (k E ⟨next',bj,pz bj ws z,t'⟩ (⟨rs,z,next,next'⟩::b9))
    (fun d=>E.Ab d v fun E=>k E ⟨next',bj,pz bj ws z,t'⟩ (⟨rs,z,next,next'⟩::b9)) dst) (.err 50)) .err r
def bA.YO(call:fc)(o:bA)(l:List Nat)(E:Env)(H:aE)(b9:List FP)(k:Env→aE→List FP→e9):e9:=
 aE.casesOn (motive:=fun _=>e9) H fun next bj ws t=>dz next fun next=>Ad (o.op.reads E) l next bj ws b9 o.dst E k (o.op.ev call E ⟨next,next,[],t⟩)
def bA.qQ(call:fc)(o:bA)(E:Env)(H:aE)(b9:List FP)(k:Env→aE→List FP→e9):e9:=
 Option.rec (motive:=fun _=>e9) (o.run call E H fun E H=>k E H b9) (fun l=>o.YO call l E H b9 k) o.q
def su(q:Option (List Nat))(b9:List FP):List FP:=Option.rec (motive:=fun _=>List FP) b9 (fun _=>⟨some [],[],0,0⟩::b9) q
def bA.nT(call:fc)(o:bA)(E:Env)(H:aE)(b9:List FP)(k:Env→aE→List FP→e9):e9:=
 Option.rec (motive:=fun _=>e9) (o.qQ call E H b9 k)
  (fun g=>ob (E.get g.1) (.err 51) fun v=>xq v (k9 o.dst E H fun E H=>k E H (su o.q b9)) fun b=>aJ (Bool.xor b g.2) (k9 o.dst E H fun E H=>k E H (su o.q b9)) (o.qQ call E H b9 k)) o.g
def mz(call:fc)(l:List bA):Env→aE→List FP→e9:=
 List.rec (motive:=fun _=>Env→aE→List FP→e9) (fun E H _=>.ok E H) (fun o _ z E H b9=>o.nT call E H b9 z) l
def uP(r:Out)(k:Env→aE→Out):Out:=
 Out.rec (motive:=fun _=>Out) (fun x E H=>Ex.rec (motive:=fun _=>Out) (k E H) (fun id=>.ok (.exit id) E H) (.ok .ret E H) x) .err r
def vB(f:Env→aE→Out)(n:Nat):Env→aE→Out:=
 Nat.rec (motive:=fun _=>Env→aE→Out) (fun _ _=>.err 60) (fun _ z E H=>uP (f E H) z) n
def Av(r:e9):Out:=e9.rec (motive:=fun _=>Out) (fun E H=>.ok .normal E H) .err r
def XW(E:Env)(H:aE):Out:=.ok .normal E H
def Vy(call:fc)(draw:Bool)(ops:List bA):Env→aE→Out:=
 aJ draw (fun E H=>Av (mz call ops E H [])) (fun E H=>Av (nu call ops E H))
def YP(_ _:IC)(a b:Env→aE→Out)(E:Env)(H:aE):Out:=uP (a E H) b
def IT(c:aI)(_ _:IC)(a b:Env→aE→Out)(E:Env)(H:aE):Out:=
 ob (c.ev E) (.err 61) fun v=>M6 v (.err 61) fun t=>aJ t (a E H) (b E H)
def BI(id:Nat)(_:IC)(b:Env→aE→Out)(E:Env)(H:aE):Out:=
 Out.rec (motive:=fun _=>Out) (fun x E H=>Ex.rec (motive:=fun _=>Out) (.ok .normal E H) (fun z=>aJ (Nat.beq z id) (.ok .normal E H) (.ok (.exit z) E H)) (.ok .ret E H) x) .err (b E H)
def XX(lf:Nat)(_:IC)(b:Env→aE→Out):Env→aE→Out:=vB b lf
def XY(id:Nat)(E:Env)(H:aE):Out:=.ok (.exit id) E H
def YQ(E:Env)(H:aE):Out:=.ok .ret E H
def IC.ev(call:fc)(lf:Nat)(c:IC):Env→aE→Out:=
 IC.rec (motive:=fun _=>Env→aE→Out) XW (Vy call) YP IT BI (XX lf) XY YQ c
def params(ks:List Key):List ax→Env→(Env→aH)→aH:=
 List.rec (motive:=fun _=>List ax→Env→(Env→aH)→aH) (fun l E c=>List.rec (motive:=fun _=>aH) (c E) (fun _ _ _=>.err 71) l)
  (fun k _ z l E c=>List.rec (motive:=fun _=>aH) (.err 71) (fun v r _=>E.gV k v fun E=>z r E c) l) ks
def Ae(E:Env)(H:aE)(r:ml)(e:aH)(k:ax→aH):aH:=
 ml.casesOn (motive:=fun _=>aH) r (fun t=>ob (E.get t) e k)
  (fun a n agg=>ob (E.get a) e fun v=>iW v e fun f g off=>rd H f g off n e fun l=>jf agg l e k)
def vC(E:Env)(H:aE)(l:List ml)(e:aH):(List ax→aH)→aH:=
 List.rec (motive:=fun _=>(List ax→aH)→aH) (fun k=>k []) (fun r _ z k=>Ae E H r e fun v=>z fun vs=>k (v::vs)) l
def results(E:Env)(H:aE)(rs:List ml):aH:=
 vC E H rs (.err 70) fun vs=>List.rec (motive:=fun _=>aH) (.ok (.tuple []) H) (fun v r _=>List.rec (motive:=fun _=>aH) (.ok v H) (fun _ _ _=>.ok (.tuple (v::r)) H) r) vs
def t6(call:fc)(lf:Nat)(fn:bH)(args:List ax)(H:aE):aH:=
 params fn.ps args .emp fun E=>Out.rec (motive:=fun _=>aH) (fun x E H=>Ex.rec (motive:=fun _=>aH) (results E H fn.res) (fun _=>.err 72) (results E H fn.res) x) .err (fn.body.ev call lf E H)
def CF(c:Nat)(l:Nat):Nat→Nat→Int:=
 Nat.rec (motive:=fun _=>Nat→Nat→Int) (fun _ _=>Int.negSucc 0)
  (fun _ z s i=>aJ (Nat.beq (Nat.mod s 256) c) (Int.ofNat i) (dz (Nat.div s 256) fun s=>dz (Nat.succ i) fun i=>z s i)) l
def G7(args:List ax)(H:aE):aH:=
 List.rec (motive:=fun _=>aH) (.err 90) (fun x r _=>List.rec (motive:=fun _=>aH) (.err 90) (fun y _ _=>
  j7 x (.err 90) fun l s=>gU y (.err 90) fun k c=>jc c (.err 90) fun c=>aJ (Nat.beq (dO k) 4) (aJ (Nat.ble c 255) (aJ (Nat.beq (jI r) 1) (lR (CF c l s 0) fun i=>.ok (.int .i64 i) H) (.err 90)) (.err 90)) (.err 90)) r) args
def IU(args:List ax)(H:aE):aH:=
 List.rec (motive:=fun _=>aH) (.err 91) (fun x r _=>List.rec (motive:=fun _=>aH) (.ok x H) (fun _ _ _=>.err 91) r) args
def IV(args:List ax)(H:aE):aH:=
 List.rec (motive:=fun _=>aH) (.ok (.bool true) H) (fun _ _ _=>.err 92) args
def pU:Nat→Nat→List UInt8
 |0,_=>[]
 |l+1,s=>UInt8.ofNat (s % 256)::pU l (s/256)
def vD:List ax→aE→aH
 |[.str l s,.int k a,.int z b],H=>if k= .i64∧a=10∧z= .i64∧b=64∧l≤1000 then(match Lib.parseUintB 64 (pU l s) with
  |.ok u=>.ok (.tuple [.int .u64 u,.il]) H
  |_=>.err 93) else .err 93
 |_,_=>.err 93
def t7(t:Nat):List ax→aE→aH
 |[.str l s,.int k a,.int z b],H=>if k= .i64∧a=10∧z= .i64∧b=64∧l≤1000 then(match Lib.parseIntB 64 (pU l s) with
  |.ok v=>.ok (.tuple [.int .i64 v,.il]) H
  |.range=>.ok (.tuple [.int .i64 (Lib.intSat 64 (pU l s)),.iface t (.map 0)]) H
  |_=>.err 93) else .err 93
 |_,_=>.err 93
def Qg(c:Nat)(args:List ax)(H:aE):aH:=match c with
 |0=>vD args H
 |c+1=>t7 c args H
def rB(c:Nat)(args:List ax)(H:aE):aH:=
 Nat.rec (motive:=fun _=>aH) (G7 args H) (fun c _=>Nat.rec (motive:=fun _=>aH) (IU args H) (fun c _=>Nat.rec (motive:=fun _=>aH) (IV args H) (fun c _=>Qg c args H) c) c) c
def CW(ft:Tr bH)(xt:Tr Nat)(lf:Nat)(n:Nat):fc:=
 Nat.rec (motive:=fun _=>fc) (fun _ _ _=>.err 80) (fun _ z f args H=>ob (ft.get f) (ob (xt.get f) (.err (Nat.add 10000 f)) fun c=>rB c args H) fun fn=>t6 z lf fn args H) n
end Go.Ev
