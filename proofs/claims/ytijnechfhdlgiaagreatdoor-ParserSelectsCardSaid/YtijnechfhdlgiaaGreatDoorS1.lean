/- Part 1 of rules for walks through the code of a program, and of such walks; what each part proves is said by its theorems. -/
import Derived.Test.YtijnechfhdlgiaaGreatDoorS0
import Derived.Lib.ParseIntB
set_option linter.unusedVariables false
set_option linter.unusedSimpArgs false
namespace Go.Ev
theorem aa{α:Sort _}{a:α}:a=a:=rfl
inductive an where
 |bool (b:Bool)
 |int (k:IntKind) (n:Int)
 |str (l v:Nat)
 |ptr (f g off:Nat)
 |ik
 |slice (f g off len es:Nat)
 |cg
 |agg (cs:List an)
 |tuple (vs:List an)
 |func (f:Nat) (first eJ:List an)
 |nQ
 |iface (t:Nat) (v:an)
 |gS
 |map (f:Nat)
 |ud
 |undef
inductive D6 where
 |d0|d1|d2|d3|d4|d5
def D6.n:D6→Nat
 |.d0=>0|.d1=>1|.d2=>2|.d3=>3|.d4=>4|.d5=>5
def A0:Nat→D6
 |0=>.d0|1=>.d1|2=>.d2|3=>.d3|4=>.d4|_=>.d5
noncomputable def oa(n:Nat):D6:=
 Nat.rec (motive:=fun _=>D6) .d0 (fun n _=>Nat.rec (motive:=fun _=>D6) .d1 (fun n _=>Nat.rec (motive:=fun _=>D6) .d2 (fun n _=>Nat.rec (motive:=fun _=>D6) .d3 (fun n _=>Nat.rec (motive:=fun _=>D6) .d4 (fun _ _=>.d5) n) n) n) n) n
inductive Key where
 |mk (i j k l:D6)
def Key.n:Key→Nat
 |.mk i j k l=>i.n+6*j.n+36*k.n+216*l.n
def pk(n:Nat):Key:=.mk (A0 (n % 6)) (A0 (n/6 % 6)) (A0 (n/36 % 6)) (A0 (n/216 % 6))
theorem D6.lt(d:D6):d.n<6:=by cases d<;>decide
theorem D6.inj{a b:D6}(h:a.n=b.n):a=b:=by cases a<;>cases b<;>first|rfl|(simp[D6.n] at h)
instance:DecidableEq D6:=fun a b=>if h:a.n=b.n then .isTrue (D6.inj h) else .isFalse fun e=>h (by rw[e])
theorem C7{m:Nat}(h:m<6):(A0 m).n=m:=by
 match m,h with
 |0,_=>rfl
 |1,_=>rfl
 |2,_=>rfl
 |3,_=>rfl
 |4,_=>rfl
 |5,_=>rfl
theorem Dz{m:Nat}(h:m<6):(oa m).n=m:=by
 match m,h with
 |0,_=>rfl
 |1,_=>rfl
 |2,_=>rfl
 |3,_=>rfl
 |4,_=>rfl
 |5,_=>rfl
theorem Key.inj{a b:Key}(h:a.n=b.n):a=b:=by
 cases a with
 |mk i j k l=>cases b with
  |mk z A G I=>
   simp only[Key.n] at h
   have O:=i.lt;have h2:=j.lt;have U:=k.lt;have Y:=l.lt
   have Z:=z.lt;have h5:=A.lt;have h6:=G.lt;have h8:=I.lt
   have e1:i=z:=D6.inj (by omega)
   have e2:j=A:=D6.inj (by omega)
   have J:k=G:=D6.inj (by omega)
   have K:l=I:=D6.inj (by omega)
   rw[e1,e2,J,K]
instance:DecidableEq Key:=fun a b=>if h:a.n=b.n then .isTrue (Key.inj h) else .isFalse fun e=>h (by rw[e])
theorem wz{n:Nat}(h:n<1296):(pk n).n=n:=by
 simp only[pk,Key.n]
 rw[C7 (by omega),C7 (by omega),C7 (by omega),C7 (by omega)]
 omega
section
variable{α β:Type}
inductive S6(α:Type) where
 |mk (x0 x1 x2 x3 x4 x5:α)
noncomputable def S6.get(d:D6)(t:S6 α):α:=
 S6.rec (motive:=fun _=>α) (fun x0 x1 x2 x3 x4 x5=>D6.rec (motive:=fun _=>α) x0 x1 x2 x3 x4 x5 d) t
noncomputable def S6.u0(f:α→(α→β)→β)(t:S6 α)(c:S6 α→β):β:=S6.rec (motive:=fun _=>β) (fun x0 x1 x2 x3 x4 x5=>f x0 fun y=>c (.mk y x1 x2 x3 x4 x5)) t
noncomputable def S6.u1(f:α→(α→β)→β)(t:S6 α)(c:S6 α→β):β:=S6.rec (motive:=fun _=>β) (fun x0 x1 x2 x3 x4 x5=>f x1 fun y=>c (.mk x0 y x2 x3 x4 x5)) t
noncomputable def S6.u2(f:α→(α→β)→β)(t:S6 α)(c:S6 α→β):β:=S6.rec (motive:=fun _=>β) (fun x0 x1 x2 x3 x4 x5=>f x2 fun y=>c (.mk x0 x1 y x3 x4 x5)) t
noncomputable def S6.u3(f:α→(α→β)→β)(t:S6 α)(c:S6 α→β):β:=S6.rec (motive:=fun _=>β) (fun x0 x1 x2 x3 x4 x5=>f x3 fun y=>c (.mk x0 x1 x2 y x4 x5)) t
noncomputable def S6.u4(f:α→(α→β)→β)(t:S6 α)(c:S6 α→β):β:=S6.rec (motive:=fun _=>β) (fun x0 x1 x2 x3 x4 x5=>f x4 fun y=>c (.mk x0 x1 x2 x3 y x5)) t
noncomputable def S6.u5(f:α→(α→β)→β)(t:S6 α)(c:S6 α→β):β:=S6.rec (motive:=fun _=>β) (fun x0 x1 x2 x3 x4 x5=>f x5 fun y=>c (.mk x0 x1 x2 x3 x4 y)) t
noncomputable def S6.gC(d:D6):(α→(α→β)→β)→S6 α→(S6 α→β)→β:=
 D6.rec (motive:=fun _=>(α→(α→β)→β)→S6 α→(S6 α→β)→β) S6.u0 S6.u1 S6.u2 S6.u3 S6.u4 S6.u5 d
noncomputable def S6.mod(d:D6)(g:α→α)(t:S6 α):S6 α:=S6.gC d (fun x c=>c (g x)) t fun y=>y
theorem S6.CC(d z:D6)(g:α→α)(t:S6 α):S6.get z (S6.mod d g t)=if z=d then g (S6.get d t) else S6.get z t:=by
 cases t;cases d<;>cases z<;>rfl
theorem S6.C8(d:D6)(g:α→α)(f:α→(α→β)→β)(z:∀x c,f x c=c (g x))(t:S6 α)(c:S6 α→β):S6.gC d f t c=c (S6.mod d g t):=by
 cases t;cases d<;>exact z _ _
def S6.all(x:α):S6 α:=.mk x x x x x x
theorem S6.CD(d:D6)(x:α):S6.get d (S6.all x)=x:=by cases d<;>rfl
def T4(α:Type):Type:=S6 (S6 (S6 (S6 (Option α))))
noncomputable def T4.get(E:T4 α)(key:Key):Option α:=Key.rec (motive:=fun _=>T4 α→Option α) (fun i j k l E=>S6.get l (S6.get k (S6.get j (S6.get i E)))) key E
noncomputable def T4.gA(E:T4 α)(key:Key)(v:α)(c:T4 α→β):β:=Key.rec (motive:=fun _=>β) (fun i j k l=>S6.gC i (S6.gC j (S6.gC k (S6.gC l fun _ c=>c (some v)))) E c) key
noncomputable def T4.set(E:T4 α)(key:Key)(v:α):T4 α:=E.gA key v fun E=>E
theorem T4.Hx(E:T4 α)(i j k l:D6)(v:α)(c:T4 α→β):E.gA (.mk i j k l) v c=c (S6.mod i (S6.mod j (S6.mod k (S6.mod l fun _=>some v))) E):=
 S6.C8 i _ _ (fun x c=>S6.C8 j _ _ (fun x c=>S6.C8 k _ _ (fun x c=>S6.C8 l (fun _=>some v) _ (fun _ _=>rfl) x c) x c) x c) E c
theorem T4.ki(E:T4 α)(key:Key)(v:α)(c:T4 α→β):E.gA key v c=c (E.set key v):=by
 cases key with
 |mk i j k l=>unfold T4.set;rw[T4.Hx,T4.Hx]
theorem S6.gs(E:S6 (S6 (S6 (S6 (Option α)))))(i j k l z A G I:D6)(v:α):S6.get I (S6.get G (S6.get A (S6.get z (S6.mod i (S6.mod j (S6.mod k (S6.mod l fun _=>some v))) E))))=
  if Key.mk z A G I=Key.mk i j k l then some v else S6.get I (S6.get G (S6.get A (S6.get z E))):=by
 rw[S6.CC]
 by_cases hi:z=i
 ·subst hi
  rw[aw rfl,S6.CC]
  by_cases J:A=j
  ·subst J
   rw[aw rfl,S6.CC]
   by_cases hk:G=k
   ·subst hk
    rw[aw rfl,S6.CC]
    by_cases K:I=l
    ·subst K
     rw[aw rfl,aw rfl]
    rw[aj K,aj (by intro e;cases e;exact K rfl)]
   rw[aj hk,aj (by intro e;cases e;exact hk rfl)]
  rw[aj J,aj (by intro e;cases e;exact J rfl)]
 rw[aj hi,aj (by intro e;cases e;exact hi rfl)]
theorem T4.eY(E:T4 α)(key z:Key)(v:α):(E.set key v).get z=if z=key then some v else E.get z:=by
 cases key with
 |mk i j k l=>cases z with
  |mk A G I J=>
   unfold T4.set
   rw[T4.Hx]
   exact S6.gs E i j k l A G I J v
def T4.emp:T4 α:=S6.all (S6.all (S6.all (S6.all none)))
theorem T4.sh(key:Key):(T4.emp:T4 α).get key=none:=by
 cases key with
 |mk i j k l=>
  show S6.get l (S6.get k (S6.get j (S6.get i (S6.all (S6.all (S6.all (S6.all none)))))))=none
  rw[S6.CD,S6.CD,S6.CD,S6.CD]
noncomputable def pq(n:Nat):Key:=.mk (oa (Nat.mod n 6)) (oa (Nat.mod (Nat.div n 6) 6)) (oa (Nat.mod (Nat.div n 36) 6)) (oa (Nat.mod (Nat.div n 216) 6))
theorem Pf{n:Nat}(h:n<1296):(pq n).n=n:=by
 show(oa (n % 6)).n+6*(oa (n/6 % 6)).n+36*(oa (n/36 % 6)).n+216*(oa (n/216 % 6)).n=n
 rw[Dz (jR _ (by omega)),Dz (jR _ (by omega)),Dz (jR _ (by omega)),Dz (jR _ (by omega))]
 omega
theorem VB{n k:Nat}(h:pq (n % 1296)=pq (k % 1296)):n % 1296=k % 1296:=by
 rw[←Pf (n:=n % 1296) (by omega),←Pf (n:=k % 1296) (by omega),h]
def GT(α:Type):Type:=Tr (T4 α)
noncomputable def GT.vd(t:GT α)(n:Nat):T4 α:=Option.rec (motive:=fun _=>T4 α) .emp (fun s=>s) (Tr.get t n)
noncomputable def GT.get(t:GT α)(n:Nat):Option α:=(t.vd (Nat.div n 1296)).get (pq (Nat.mod n 1296))
noncomputable def GT.set(t:GT α)(n:Nat)(v:α):GT α:=Tr.set t (Nat.div n 1296) ((t.vd (Nat.div n 1296)).set (pq (Nat.mod n 1296)) v)
noncomputable def GT.gA(t:GT α)(n:Nat)(v:α)(c:GT α→β):β:=(t.vd (Nat.div n 1296)).gA (pq (Nat.mod n 1296)) v fun s=>(Tr.set t (Nat.div n 1296) s).seq c
theorem GT.ki(t:GT α)(n:Nat)(v:α)(c:GT α→β):t.gA n v c=c (t.set n v):=by
 unfold GT.gA;rw[T4.ki];exact Tr.seq_eq (α:=T4 α) _ c
def GT.emp:GT α:=Tr.leaf
theorem GT.sh(n:Nat):(GT.emp:GT α).get n=none:=T4.sh _
theorem GT.ats(t:Tr (T4 α))(n k:Nat)(s:T4 α):(Option.rec (motive:=fun _=>T4 α) .emp (fun s=>s) (Tr.get (Tr.set t n s) k):T4 α)=if k=n then s else Option.rec (motive:=fun _=>T4 α) .emp (fun s=>s) (Tr.get t k):=by
 rw[Tr.eY]
 split
 ·rfl
 rfl
theorem GT.eY(t:GT α)(n k:Nat)(v:α):(t.set n v).get k=if k=n then some v else t.get k:=by
 have h:(t.set n v).vd (k/1296)=if k/1296=n/1296 then(t.vd (n/1296)).set (pq (n % 1296)) v else t.vd (k/1296):=GT.ats t _ _ _
 show((t.set n v).vd (k/1296)).get (pq (k % 1296))=if k=n then some v else(t.vd (k/1296)).get (pq (k % 1296))
 rw[h]
 by_cases e:k/1296=n/1296
 ·rw[aw e,T4.eY,e]
  by_cases e2:k % 1296=n % 1296
  ·rw[aw (by rw[e2]),aw (by omega)]
  rw[aj (fun h=>e2 (VB h)),aj (by omega)]
 rw[aj e,aj (by omega)]
end
abbrev Env:=T4 an
def ah:Key:=.mk .d0 .d0 .d0 .d0
def aW:Key:=.mk .d1 .d0 .d0 .d0
def aB:Key:=.mk .d2 .d0 .d0 .d0
def ay:Key:=.mk .d3 .d0 .d0 .d0
def au:Key:=.mk .d4 .d0 .d0 .d0
def aq:Key:=.mk .d5 .d0 .d0 .d0
def aC:Key:=.mk .d0 .d1 .d0 .d0
def aH:Key:=.mk .d1 .d1 .d0 .d0
def aD:Key:=.mk .d2 .d1 .d0 .d0
def aL:Key:=.mk .d3 .d1 .d0 .d0
def aT:Key:=.mk .d4 .d1 .d0 .d0
def aS:Key:=.mk .d5 .d1 .d0 .d0
def aR:Key:=.mk .d0 .d2 .d0 .d0
def aV:Key:=.mk .d1 .d2 .d0 .d0
def aX:Key:=.mk .d2 .d2 .d0 .d0
def aZ:Key:=.mk .d3 .d2 .d0 .d0
def bg:Key:=.mk .d4 .d2 .d0 .d0
def bl:Key:=.mk .d5 .d2 .d0 .d0
def bj:Key:=.mk .d0 .d3 .d0 .d0
def bu:Key:=.mk .d1 .d3 .d0 .d0
def bn:Key:=.mk .d2 .d3 .d0 .d0
def bw:Key:=.mk .d3 .d3 .d0 .d0
def bK:Key:=.mk .d4 .d3 .d0 .d0
def bQ:Key:=.mk .d5 .d3 .d0 .d0
def bS:Key:=.mk .d0 .d4 .d0 .d0
def bW:Key:=.mk .d1 .d4 .d0 .d0
def bU:Key:=.mk .d2 .d4 .d0 .d0
def bX:Key:=.mk .d3 .d4 .d0 .d0
def ch:Key:=.mk .d4 .d4 .d0 .d0
def cn:Key:=.mk .d5 .d4 .d0 .d0
def ck:Key:=.mk .d0 .d5 .d0 .d0
def cf:Key:=.mk .d1 .d5 .d0 .d0
def cj:Key:=.mk .d2 .d5 .d0 .d0
def cG:Key:=.mk .d3 .d5 .d0 .d0
def cE:Key:=.mk .d4 .d5 .d0 .d0
def cl:Key:=.mk .d5 .d5 .d0 .d0
def cS:Key:=.mk .d0 .d0 .d1 .d0
def db:Key:=.mk .d1 .d0 .d1 .d0
def de:Key:=.mk .d2 .d0 .d1 .d0
def dp:Key:=.mk .d3 .d0 .d1 .d0
def dF:Key:=.mk .d4 .d0 .d1 .d0
def dL:Key:=.mk .d5 .d0 .d1 .d0
def du:Key:=.mk .d0 .d1 .d1 .d0
def dM:Key:=.mk .d1 .d1 .d1 .d0
def dJ:Key:=.mk .d2 .d1 .d1 .d0
def dO:Key:=.mk .d3 .d1 .d1 .d0
def ef:Key:=.mk .d4 .d1 .d1 .d0
def eg:Key:=.mk .d5 .d1 .d1 .d0
def eT:Key:=.mk .d0 .d2 .d1 .d0
def d9:Key:=.mk .d1 .d2 .d1 .d0
def eK:Key:=.mk .d2 .d2 .d1 .d0
def ee:Key:=.mk .d3 .d2 .d1 .d0
def ey:Key:=.mk .d4 .d2 .d1 .d0
def fx:Key:=.mk .d5 .d2 .d1 .d0
def fh:Key:=.mk .d0 .d3 .d1 .d0
def eQ:Key:=.mk .d1 .d3 .d1 .d0
def eL:Key:=.mk .d2 .d3 .d1 .d0
def eW:Key:=.mk .d3 .d3 .d1 .d0
def e7:Key:=.mk .d4 .d3 .d1 .d0
def e8:Key:=.mk .d5 .d3 .d1 .d0
def fJ:Key:=.mk .d0 .d4 .d1 .d0
def fQ:Key:=.mk .d1 .d4 .d1 .d0
def fe:Key:=.mk .d2 .d4 .d1 .d0
def f3:Key:=.mk .d3 .d4 .d1 .d0
def fR:Key:=.mk .d4 .d4 .d1 .d0
def fD:Key:=.mk .d5 .d4 .d1 .d0
def fS:Key:=.mk .d0 .d5 .d1 .d0
def gW:Key:=.mk .d1 .d5 .d1 .d0
def hH:Key:=.mk .d2 .d5 .d1 .d0
def gX:Key:=.mk .d3 .d5 .d1 .d0
def iq:Key:=.mk .d4 .d5 .d1 .d0
def hZ:Key:=.mk .d5 .d5 .d1 .d0
def iG:Key:=.mk .d0 .d0 .d2 .d0
def iu:Key:=.mk .d1 .d0 .d2 .d0
def jc:Key:=.mk .d2 .d0 .d2 .d0
def hJ:Key:=.mk .d3 .d0 .d2 .d0
def jl:Key:=.mk .d4 .d0 .d2 .d0
def jy:Key:=.mk .d5 .d0 .d2 .d0
def iS:Key:=.mk .d0 .d1 .d2 .d0
def j8:Key:=.mk .d1 .d1 .d2 .d0
def iT:Key:=.mk .d2 .d1 .d2 .d0
def j9:Key:=.mk .d3 .d1 .d2 .d0
def kH:Key:=.mk .d4 .d1 .d2 .d0
def k0:Key:=.mk .d5 .d1 .d2 .d0
def jm:Key:=.mk .d0 .d2 .d2 .d0
def lB:Key:=.mk .d1 .d2 .d2 .d0
def lC:Key:=.mk .d2 .d2 .d2 .d0
def lD:Key:=.mk .d3 .d2 .d2 .d0
def jz:Key:=.mk .d4 .d2 .d2 .d0
def lE:Key:=.mk .d5 .d2 .d2 .d0
def lF:Key:=.mk .d0 .d3 .d2 .d0
def mi:Key:=.mk .d1 .d3 .d2 .d0
def lG:Key:=.mk .d2 .d3 .d2 .d0
def lH:Key:=.mk .d3 .d3 .d2 .d0
def mj:Key:=.mk .d4 .d3 .d2 .d0
def ml:Key:=.mk .d5 .d3 .d2 .d0
def k9:Key:=.mk .d0 .d4 .d2 .d0
def mZ:Key:=.mk .d1 .d4 .d2 .d0
def m5:Key:=.mk .d2 .d4 .d2 .d0
def n4:Key:=.mk .d3 .d4 .d2 .d0
def pY:Key:=.mk .d4 .d4 .d2 .d0
def pZ:Key:=.mk .d5 .d4 .d2 .d0
def mS:Key:=.mk .d0 .d5 .d2 .d0
def rl:Key:=.mk .d1 .d5 .d2 .d0
def rm:Key:=.mk .d2 .d5 .d2 .d0
def rn:Key:=.mk .d3 .d5 .d2 .d0
def rq:Key:=.mk .d4 .d5 .d2 .d0
def ru:Key:=.mk .d5 .d5 .d2 .d0
def ry:Key:=.mk .d0 .d0 .d3 .d0
def uk:Key:=.mk .d1 .d0 .d3 .d0
def um:Key:=.mk .d2 .d0 .d3 .d0
def nk:Key:=.mk .d3 .d0 .d3 .d0
def uo:Key:=.mk .d4 .d0 .d3 .d0
def uq:Key:=.mk .d5 .d0 .d3 .d0
def ur:Key:=.mk .d0 .d1 .d3 .d0
def nV:Key:=.mk .d1 .d1 .d3 .d0
def uu:Key:=.mk .d2 .d1 .d3 .d0
def uv:Key:=.mk .d3 .d1 .d3 .d0
def uw:Key:=.mk .d4 .d1 .d3 .d0
def ux:Key:=.mk .d5 .d1 .d3 .d0
def nm:Key:=.mk .d0 .d2 .d3 .d0
def o6:Key:=.mk .d1 .d2 .d3 .d0
def uy:Key:=.mk .d2 .d2 .d3 .d0
def wc:Key:=.mk .d3 .d2 .d3 .d0
def uz:Key:=.mk .d4 .d2 .d3 .d0
def we:Key:=.mk .d5 .d2 .d3 .d0
def uA:Key:=.mk .d0 .d3 .d3 .d0
def uB:Key:=.mk .d1 .d3 .d3 .d0
def qB:Key:=.mk .d2 .d3 .d3 .d0
def nq:Key:=.mk .d3 .d3 .d3 .d0
def uC:Key:=.mk .d4 .d3 .d3 .d0
def uD:Key:=.mk .d5 .d3 .d3 .d0
def xZ:Key:=.mk .d0 .d4 .d3 .d0
def x6:Key:=.mk .d1 .d4 .d3 .d0
def x7:Key:=.mk .d2 .d4 .d3 .d0
def x8:Key:=.mk .d3 .d4 .d3 .d0
def x9:Key:=.mk .d4 .d4 .d3 .d0
def yb:Key:=.mk .d5 .d4 .d3 .d0
def o7:Key:=.mk .d0 .d5 .d3 .d0
def yd:Key:=.mk .d1 .d5 .d3 .d0
def ye:Key:=.mk .d2 .d5 .d3 .d0
def yf:Key:=.mk .d3 .d5 .d3 .d0
def yg:Key:=.mk .d4 .d5 .d3 .d0
def DA:Key:=.mk .d5 .d5 .d3 .d0
def H3:Key:=.mk .d0 .d0 .d4 .d0
def DB:Key:=.mk .d1 .d0 .d4 .d0
def DD:Key:=.mk .d2 .d0 .d4 .d0
def DE:Key:=.mk .d3 .d0 .d4 .d0
def DF:Key:=.mk .d4 .d0 .d4 .d0
def DG:Key:=.mk .d5 .d0 .d4 .d0
def H4:Key:=.mk .d0 .d1 .d4 .d0
def DH:Key:=.mk .d1 .d1 .d4 .d0
def DI:Key:=.mk .d2 .d1 .d4 .d0
def DJ:Key:=.mk .d3 .d1 .d4 .d0
def DK:Key:=.mk .d4 .d1 .d4 .d0
def DL:Key:=.mk .d5 .d1 .d4 .d0
def DM:Key:=.mk .d0 .d2 .d4 .d0
def DN:Key:=.mk .d1 .d2 .d4 .d0
def DO:Key:=.mk .d2 .d2 .d4 .d0
def DP:Key:=.mk .d3 .d2 .d4 .d0
def DQ:Key:=.mk .d4 .d2 .d4 .d0
def DR:Key:=.mk .d5 .d2 .d4 .d0
def DS:Key:=.mk .d0 .d3 .d4 .d0
def DT:Key:=.mk .d1 .d3 .d4 .d0
def DU:Key:=.mk .d2 .d3 .d4 .d0
def DV:Key:=.mk .d3 .d3 .d4 .d0
def DW:Key:=.mk .d4 .d3 .d4 .d0
def DX:Key:=.mk .d5 .d3 .d4 .d0
def DY:Key:=.mk .d0 .d4 .d4 .d0
def DZ:Key:=.mk .d1 .d4 .d4 .d0
def D0:Key:=.mk .d2 .d4 .d4 .d0
def D1:Key:=.mk .d3 .d4 .d4 .d0
def D2:Key:=.mk .d4 .d4 .d4 .d0
def H5:Key:=.mk .d5 .d4 .d4 .d0
def D3:Key:=.mk .d0 .d5 .d4 .d0
def D4:Key:=.mk .d1 .d5 .d4 .d0
def D5:Key:=.mk .d2 .d5 .d4 .d0
def D7:Key:=.mk .d3 .d5 .d4 .d0
def D8:Key:=.mk .d4 .d5 .d4 .d0
def D9:Key:=.mk .d5 .d5 .d4 .d0
def D':Key:=.mk .d0 .d0 .d5 .d0
def Ea:Key:=.mk .d1 .d0 .d5 .d0
def Eb:Key:=.mk .d2 .d0 .d5 .d0
def Ec:Key:=.mk .d3 .d0 .d5 .d0
def Ed:Key:=.mk .d4 .d0 .d5 .d0
def Ee:Key:=.mk .d5 .d0 .d5 .d0
def rz:Key:=.mk .d0 .d1 .d5 .d0
def Ef:Key:=.mk .d1 .d1 .d5 .d0
def Eg:Key:=.mk .d2 .d1 .d5 .d0
def Eh:Key:=.mk .d3 .d1 .d5 .d0
def Ei:Key:=.mk .d4 .d1 .d5 .d0
def Ej:Key:=.mk .d5 .d1 .d5 .d0
def Ek:Key:=.mk .d0 .d2 .d5 .d0
def El:Key:=.mk .d1 .d2 .d5 .d0
def Em:Key:=.mk .d2 .d2 .d5 .d0
def En:Key:=.mk .d3 .d2 .d5 .d0
def Eo:Key:=.mk .d4 .d2 .d5 .d0
def Ep:Key:=.mk .d5 .d2 .d5 .d0
def Er:Key:=.mk .d0 .d3 .d5 .d0
def Et:Key:=.mk .d1 .d3 .d5 .d0
def Eu:Key:=.mk .d2 .d3 .d5 .d0
def Ew:Key:=.mk .d3 .d3 .d5 .d0
def Ey:Key:=.mk .d4 .d3 .d5 .d0
def Ez:Key:=.mk .d5 .d3 .d5 .d0
def EA:Key:=.mk .d0 .d4 .d5 .d0
def H6:Key:=.mk .d1 .d4 .d5 .d0
def EB:Key:=.mk .d2 .d4 .d5 .d0
def EC:Key:=.mk .d3 .d4 .d5 .d0
def ED:Key:=.mk .d4 .d4 .d5 .d0
def EE:Key:=.mk .d5 .d4 .d5 .d0
def EF:Key:=.mk .d0 .d5 .d5 .d0
def EH:Key:=.mk .d1 .d5 .d5 .d0
def EI:Key:=.mk .d2 .d5 .d5 .d0
def NN:Key:=.mk .d3 .d5 .d5 .d0
def NO:Key:=.mk .d4 .d5 .d5 .d0
def NP:Key:=.mk .d5 .d5 .d5 .d0
def NQ:Key:=.mk .d0 .d0 .d0 .d1
def NR:Key:=.mk .d1 .d0 .d0 .d1
def NS:Key:=.mk .d2 .d0 .d0 .d1
def NT:Key:=.mk .d3 .d0 .d0 .d1
def NU:Key:=.mk .d4 .d0 .d0 .d1
def NV:Key:=.mk .d5 .d0 .d0 .d1
def NW:Key:=.mk .d0 .d1 .d0 .d1
def uE:Key:=.mk .d1 .d1 .d0 .d1
def NX:Key:=.mk .d2 .d1 .d0 .d1
def NY:Key:=.mk .d3 .d1 .d0 .d1
def NZ:Key:=.mk .d4 .d1 .d0 .d1
def N0:Key:=.mk .d5 .d1 .d0 .d1
def N1:Key:=.mk .d0 .d2 .d0 .d1
def N3:Key:=.mk .d1 .d2 .d0 .d1
def N4:Key:=.mk .d2 .d2 .d0 .d1
def uF:Key:=.mk .d3 .d2 .d0 .d1
def N5:Key:=.mk .d4 .d2 .d0 .d1
def N6:Key:=.mk .d5 .d2 .d0 .d1
def N7:Key:=.mk .d0 .d3 .d0 .d1
def N8:Key:=.mk .d1 .d3 .d0 .d1
def N9:Key:=.mk .d2 .d3 .d0 .d1
def N':Key:=.mk .d3 .d3 .d0 .d1
def Oa:Key:=.mk .d4 .d3 .d0 .d1
def Ob:Key:=.mk .d5 .d3 .d0 .d1
def Oc:Key:=.mk .d0 .d4 .d0 .d1
def Od:Key:=.mk .d1 .d4 .d0 .d1
def Oe:Key:=.mk .d2 .d4 .d0 .d1
def Of:Key:=.mk .d3 .d4 .d0 .d1
def Og:Key:=.mk .d4 .d4 .d0 .d1
def Oh:Key:=.mk .d5 .d4 .d0 .d1
def Oi:Key:=.mk .d0 .d5 .d0 .d1
def Oj:Key:=.mk .d1 .d5 .d0 .d1
def Ok:Key:=.mk .d2 .d5 .d0 .d1
def Ol:Key:=.mk .d3 .d5 .d0 .d1
def Om:Key:=.mk .d4 .d5 .d0 .d1
def On:Key:=.mk .d5 .d5 .d0 .d1
def Oo:Key:=.mk .d0 .d0 .d1 .d1
def Oq:Key:=.mk .d1 .d0 .d1 .d1
def Ot:Key:=.mk .d2 .d0 .d1 .d1
def Ou:Key:=.mk .d3 .d0 .d1 .d1
def Ov:Key:=.mk .d4 .d0 .d1 .d1
def Ow:Key:=.mk .d5 .d0 .d1 .d1
def Ox:Key:=.mk .d0 .d1 .d1 .d1
def mT:Key:=.mk .d1 .d1 .d1 .d1
def Oy:Key:=.mk .d2 .d1 .d1 .d1
def Oz:Key:=.mk .d3 .d1 .d1 .d1
def OA:Key:=.mk .d4 .d1 .d1 .d1
def OB:Key:=.mk .d5 .d1 .d1 .d1
def OC:Key:=.mk .d0 .d2 .d1 .d1
def OD:Key:=.mk .d1 .d2 .d1 .d1
def OE:Key:=.mk .d2 .d2 .d1 .d1
def OF:Key:=.mk .d3 .d2 .d1 .d1
def OG:Key:=.mk .d4 .d2 .d1 .d1
def OH:Key:=.mk .d5 .d2 .d1 .d1
def OI:Key:=.mk .d0 .d3 .d1 .d1
def OJ:Key:=.mk .d1 .d3 .d1 .d1
def OK:Key:=.mk .d2 .d3 .d1 .d1
def OL:Key:=.mk .d3 .d3 .d1 .d1
def OM:Key:=.mk .d4 .d3 .d1 .d1
inductive RT where
 |emp
 |one (x:List an)
 |many (s:GT (List an))
noncomputable def RT.get(t:RT)(n:Nat):Option (List an):=
 RT.rec (motive:=fun _=>Nat→Option (List an)) (fun _=>none) (fun x n=>Nat.rec (motive:=fun _=>Option (List an)) (some x) (fun _ _=>none) n) GT.get t n
noncomputable def RT.set(t:RT)(n:Nat)(v:List an):RT:=
 RT.rec (motive:=fun _=>Nat→List an→RT) (fun n v=>Nat.rec (motive:=fun _=>RT) (.one v) (fun m _=>.many (GT.emp.set (Nat.succ m) v)) n)
  (fun x n v=>Nat.rec (motive:=fun _=>RT) (.one v) (fun m _=>.many ((GT.emp.set 0 x).set (Nat.succ m) v)) n) (fun s n v=>.many (s.set n v)) t n v
theorem RT.eY(t:RT)(n k:Nat)(v:List an):(t.set n v).get k=if k=n then some v else t.get k:=by
 cases t with
 |emp=>cases n with
  |zero=>cases k<;>rfl
  |succ n=>exact(GT.eY GT.emp (n+1) k v).trans (by rw[GT.sh];rfl)
 |one x=>cases n with
  |zero=>cases k<;>rfl
  |succ n=>
   refine(GT.eY (GT.emp.set 0 x) (n+1) k v).trans ?_
   rw[GT.eY,GT.sh]
   cases k<;>rfl
 |many s=>exact GT.eY s n k v
inductive dQ where
 |row (elem es aP n lo fl:Nat) (cs:RT)
 |map (es:List (an×an))
abbrev HT:=GT dQ
structure az where
 next:Nat
 bc:Nat
 ws:List Nat
 t:HT
inductive aF where
 |t (n:Key)
 |c (v:an)
inductive yW where
 |bool|ptr|agg (ks:List Nat)|slice|iface|func|map
inductive bG where
 |oc (x:aF)
 |pick (c a b:aF)
 |cm (elem es aP:Nat) (cells:List an)
 |box (elem es aP:Nat) (x:aF)
 |load (n:Nat) (agg:Bool) (a:aF)
 |store (n:Nat) (a x:aF)
 |bin (op:BinOp) (x y:aF)
 |eqv (c:yW) (neg:Bool) (x y:aF)
 |un (op:UnOp) (x:aF)
 |n5 (x:aF) (k:Nat)
 |sub (x:aF) (off n:Nat) (agg:Bool)
 |iW (len es:Nat) (x i:aF)
 |dV (es:Nat) (x i:aF)
 |z6 (len es:Nat) (agg:Bool) (x i:aF)
 |sv (x i:aF)
 |ji (x:aF) (lo hi:Option aF)
 |pg (es:Nat) (x:aF) (lo hi:Option aF)
 |wg (len es:Nat) (x:aF) (lo hi:Option aF)
 |rL (x:aF) (i:Nat)
 |o8 (x:aF)
 |n6 (f:Nat) (first eJ:List aF)
 |uY (t:Nat) (x:aF)
 |yC (elem es aP:Nat) (zero:List an) (len cap:aF)
 |build (zero:List an) (parts:List (Nat×Nat×aF))
 |cK (elem es aP len:Nat) (zero:List an) (parts:List (Nat×aF))
 |len (x:aF)
 |A1 (n:Nat)
 |ph (x:aF)
 |app (elem es aP:Nat) (x y:aF)
 |re (elem:Nat) (x y:aF)
 |copy (es:Nat) (x y:aF)
 |z7 (mx:Bool) (x:aF) (ys:List aF)
 |conv (k:IntKind) (x:aF)
 |C9 (x:aF)
 |xF (elem:Nat) (x:aF)
 |qv (x:aF)
 |call (f:Nat) (args:List aF)
 |mU (x:aF) (args:List aF)
 |qC (t n:Nat) (x:aF)
 |ve (x:aF)
 |qJ (e:Nat) (x n:aF)
structure bt where
 dst:Option Key
 g:Option (Key×Bool)
 q:Option (List Nat)
 op:bG
inductive lW where
 |tmp (t:Key)
 |cell (a:Key) (n:Nat) (agg:Bool)
inductive IC where
 |skip
 |region (draw:Bool) (ops:List bt)
 |seq (a b:IC)
 |cond (c:aF) (a b:IC)
 |block (id:Nat) (b:IC)
 |loop (b:IC)
 |exit (id:Nat)
 |ret
structure bH where
 nt:Nat
 ps:List Key
 res:List lW
 body:IC
inductive aE where
 |ok (v:an) (H:az)
 |err (n:Nat)
inductive eG where
 |ok (E:Env) (H:az)
 |err (n:Nat)
inductive Ex where
 |normal|exit (id:Nat)|ret
inductive Out where
 |ok (x:Ex) (E:Env) (H:az)
 |err (n:Nat)
noncomputable def T4.yD(E:Env)(key:Key)(v:an)(c:Env→eG):eG:=E.gA key v c
theorem T4.zF(E:Env)(key:Key)(v:an)(c:Env→eG):E.yD key v c=c (E.set key v):=T4.ki E key v c
noncomputable def RT.gA(t:RT)(n:Nat)(v:List an)(c:RT→aE):aE:=
 RT.rec (motive:=fun _=>Nat→List an→(RT→aE)→aE) (fun n v c=>Nat.rec (motive:=fun _=>aE) (c (.one v)) (fun m _=>GT.emp.gA (Nat.succ m) v fun s=>c (.many s)) n)
  (fun x n v c=>Nat.rec (motive:=fun _=>aE) (c (.one v)) (fun m _=>GT.emp.gA 0 x fun s=>s.gA (Nat.succ m) v fun s=>c (.many s)) n) (fun s n v c=>s.gA n v fun s=>c (.many s)) t n v c
theorem RT.ki(t:RT)(n:Nat)(v:List an)(c:RT→aE):t.gA n v c=c (t.set n v):=by
 cases t with
 |emp=>cases n with
  |zero=>rfl
  |succ n=>exact GT.ki _ _ _ _
 |one x=>cases n with
  |zero=>rfl
  |succ n=>exact(GT.ki _ _ _ _).trans (GT.ki _ _ _ _)
 |many s=>exact GT.ki _ _ _ _
noncomputable def mP(v:an)(k:an→aE):aE:=
 an.rec (motive_1:=fun _=>(an→aE)→aE) (motive_2:=fun _=>Unit) (fun b z=>Bool.rec (motive:=fun _=>aE) (z (.bool false)) (z (.bool true)) b) (fun k n z=>ll n fun n=>z (.int k n)) (fun l v z=>dk l fun l=>dk v fun v=>z (.str l v)) (fun f g o z=>dk f fun f=>dk g fun g=>dk o fun o=>z (.ptr f g o)) (fun z=>z (.ik)) (fun f g o l es z=>dk f fun f=>dk g fun g=>dk o fun o=>dk l fun l=>z (.slice f g o l es)) (fun z=>z (.cg)) (fun cs _ z=>z (.agg cs)) (fun vs _ z=>z (.tuple vs)) (fun f A eJ _ _ z=>z (.func f A eJ)) (fun z=>z (.nQ)) (fun t v _ z=>z (.iface t v)) (fun z=>z (.gS)) (fun f z=>z (.map f)) (fun z=>z (.ud)) (fun z=>z (.undef)) () (fun _ _ _ _=>()) v k
theorem tI(v:an)(k:an→aE):mP v k=k v:=by
 cases v<;>simp[mP,r9,ij]
 rename_i b;cases b<;>rfl
noncomputable def aG{β:Type}(b:Bool)(k e:β):β:=Bool.rec (motive:=fun _=>β) e k b
noncomputable def ob{α β:Type}(o:Option α)(e:β)(k:α→β):β:=Option.rec (motive:=fun _=>β) e k o
noncomputable def ni{β:Type}(b:Bool)(k:Bool→β):β:=Bool.rec (motive:=fun _=>β) (k false) (k true) b
noncomputable def sw(v:an)(e:aE)(k:Bool→aE):aE:=
 an.rec (motive_1:=fun _=>aE→(Bool→aE)→aE) (motive_2:=fun _=>Unit) (fun b e z=>z b) (fun _ _ e _=>e) (fun _ _ e _=>e) (fun _ _ _ e _=>e) (fun e _=>e) (fun _ _ _ _ _ e _=>e) (fun e _=>e) (fun _ _ e _=>e) (fun _ _ e _=>e) (fun _ _ _ _ _ e _=>e) (fun e _=>e) (fun _ _ _ e _=>e) (fun e _=>e) (fun _ e _=>e) (fun e _=>e) (fun e _=>e) () (fun _ _ _ _=>()) v e k
noncomputable def wA(v:an)(s:eG)(k:Bool→eG):eG:=
 an.rec (motive_1:=fun _=>eG→(Bool→eG)→eG) (motive_2:=fun _=>Unit) (fun b e z=>z b) (fun _ _ _ _=>.err 51) (fun _ _ _ _=>.err 51) (fun _ _ _ _ _=>.err 51) (fun _ _=>.err 51) (fun _ _ _ _ _ _ _=>.err 51) (fun _ _=>.err 51) (fun _ _ _ _=>.err 51) (fun _ _ _ _=>.err 51) (fun _ _ _ _ _ _ _=>.err 51) (fun _ _=>.err 51) (fun _ _ _ _ _=>.err 51) (fun _ _=>.err 51) (fun _ _ _=>.err 51) (fun _ _=>.err 51) (fun s _=>s) () (fun _ _ _ _=>()) v s k
noncomputable def Mf(v:an)(e:Out)(k:Bool→Out):Out:=
 an.rec (motive_1:=fun _=>Out→(Bool→Out)→Out) (motive_2:=fun _=>Unit) (fun b e z=>z b) (fun _ _ e _=>e) (fun _ _ e _=>e) (fun _ _ _ e _=>e) (fun e _=>e) (fun _ _ _ _ _ e _=>e) (fun e _=>e) (fun _ _ e _=>e) (fun _ _ e _=>e) (fun _ _ _ _ _ e _=>e) (fun e _=>e) (fun _ _ _ e _=>e) (fun e _=>e) (fun _ e _=>e) (fun e _=>e) (fun e _=>e) () (fun _ _ _ _=>()) v e k
noncomputable def gO(v:an)(e:aE)(k:IntKind→Int→aE):aE:=
 an.rec (motive_1:=fun _=>aE→(IntKind→Int→aE)→aE) (motive_2:=fun _=>Unit) (fun _ e _=>e) (fun k n e z=>z k n) (fun _ _ e _=>e) (fun _ _ _ e _=>e) (fun e _=>e) (fun _ _ _ _ _ e _=>e) (fun e _=>e) (fun _ _ e _=>e) (fun _ _ e _=>e) (fun _ _ _ _ _ e _=>e) (fun e _=>e) (fun _ _ _ e _=>e) (fun e _=>e) (fun _ e _=>e) (fun e _=>e) (fun e _=>e) () (fun _ _ _ _=>()) v e k
noncomputable def jJ(v:an)(e:aE)(k:Nat→Nat→aE):aE:=
 an.rec (motive_1:=fun _=>aE→(Nat→Nat→aE)→aE) (motive_2:=fun _=>Unit) (fun _ e _=>e) (fun _ _ e _=>e) (fun l v e z=>z l v) (fun _ _ _ e _=>e) (fun e _=>e) (fun _ _ _ _ _ e _=>e) (fun e _=>e) (fun _ _ e _=>e) (fun _ _ e _=>e) (fun _ _ _ _ _ e _=>e) (fun e _=>e) (fun _ _ _ e _=>e) (fun e _=>e) (fun _ e _=>e) (fun e _=>e) (fun e _=>e) () (fun _ _ _ _=>()) v e k
noncomputable def iE(v:an)(e:aE)(k:Nat→Nat→Nat→aE):aE:=
 an.rec (motive_1:=fun _=>aE→(Nat→Nat→Nat→aE)→aE) (motive_2:=fun _=>Unit) (fun _ e _=>e) (fun _ _ e _=>e) (fun _ _ e _=>e) (fun f g o e z=>z f g o) (fun e _=>e) (fun _ _ _ _ _ e _=>e) (fun e _=>e) (fun _ _ e _=>e) (fun _ _ e _=>e) (fun _ _ _ _ _ e _=>e) (fun e _=>e) (fun _ _ _ e _=>e) (fun e _=>e) (fun _ e _=>e) (fun e _=>e) (fun e _=>e) () (fun _ _ _ _=>()) v e k
noncomputable def gL(v:an)(e n:aE)(k:Nat→Nat→Nat→Nat→Nat→aE):aE:=
 an.rec (motive_1:=fun _=>aE→aE→(Nat→Nat→Nat→Nat→Nat→aE)→aE) (motive_2:=fun _=>Unit) (fun _ e _ _=>e) (fun _ _ e _ _=>e) (fun _ _ e _ _=>e) (fun _ _ _ e _ _=>e) (fun e _ _=>e) (fun f g o l es e _ z=>z f g o l es) (fun _ n _=>n) (fun _ _ e _ _=>e) (fun _ _ e _ _=>e) (fun _ _ _ _ _ e _ _=>e) (fun e _ _=>e) (fun _ _ _ e _ _=>e) (fun e _ _=>e) (fun _ e _ _=>e) (fun e _ _=>e) (fun e _ _=>e) () (fun _ _ _ _=>()) v e n k
noncomputable def o9(v:an)(e:aE)(k:List an→aE):aE:=
 an.rec (motive_1:=fun _=>aE→(List an→aE)→aE) (motive_2:=fun _=>Unit) (fun _ e _=>e) (fun _ _ e _=>e) (fun _ _ e _=>e) (fun _ _ _ e _=>e) (fun e _=>e) (fun _ _ _ _ _ e _=>e) (fun e _=>e) (fun cs _ e z=>z cs) (fun _ _ e _=>e) (fun _ _ _ _ _ e _=>e) (fun e _=>e) (fun _ _ _ e _=>e) (fun e _=>e) (fun _ e _=>e) (fun e _=>e) (fun e _=>e) () (fun _ _ _ _=>()) v e k
noncomputable def si(v:an)(e:aE)(k:List an→aE):aE:=
 an.rec (motive_1:=fun _=>aE→(List an→aE)→aE) (motive_2:=fun _=>Unit) (fun _ e _=>e) (fun _ _ e _=>e) (fun _ _ e _=>e) (fun _ _ _ e _=>e) (fun e _=>e) (fun _ _ _ _ _ e _=>e) (fun e _=>e) (fun _ _ e _=>e) (fun vs _ e z=>z vs) (fun _ _ _ _ _ e _=>e) (fun e _=>e) (fun _ _ _ e _=>e) (fun e _=>e) (fun _ e _=>e) (fun e _=>e) (fun e _=>e) () (fun _ _ _ _=>()) v e k
noncomputable def ue(v:an)(e:aE)(k:Nat→List an→List an→aE):aE:=
 an.rec (motive_1:=fun _=>aE→(Nat→List an→List an→aE)→aE) (motive_2:=fun _=>Unit) (fun _ e _=>e) (fun _ _ e _=>e) (fun _ _ e _=>e) (fun _ _ _ e _=>e) (fun e _=>e) (fun _ _ _ _ _ e _=>e) (fun e _=>e) (fun _ _ e _=>e) (fun _ _ e _=>e) (fun f z eJ _ _ e A=>A f z eJ) (fun e _=>e) (fun _ _ _ e _=>e) (fun e _=>e) (fun _ e _=>e) (fun e _=>e) (fun e _=>e) () (fun _ _ _ _=>()) v e k
noncomputable def M8(v:an)(e:Option Nat)(k:IntKind→Int→Option Nat):Option Nat:=
 an.rec (motive_1:=fun _=>Option Nat→(IntKind→Int→Option Nat)→Option Nat) (motive_2:=fun _=>Unit) (fun _ e _=>e) (fun k n e z=>z k n) (fun _ _ e _=>e) (fun _ _ _ e _=>e) (fun e _=>e) (fun _ _ _ _ _ e _=>e) (fun e _=>e) (fun _ _ e _=>e) (fun _ _ e _=>e) (fun _ _ _ _ _ e _=>e) (fun e _=>e) (fun _ _ _ e _=>e) (fun e _=>e) (fun _ e _=>e) (fun e _=>e) (fun e _=>e) () (fun _ _ _ _=>()) v e k
noncomputable def M9(v:an)(e:Option an)(k:IntKind→Int→Option an):Option an:=
 an.rec (motive_1:=fun _=>Option an→(IntKind→Int→Option an)→Option an) (motive_2:=fun _=>Unit) (fun _ e _=>e) (fun k n e z=>z k n) (fun _ _ e _=>e) (fun _ _ _ e _=>e) (fun e _=>e) (fun _ _ _ _ _ e _=>e) (fun e _=>e) (fun _ _ e _=>e) (fun _ _ e _=>e) (fun _ _ _ _ _ e _=>e) (fun e _=>e) (fun _ _ _ e _=>e) (fun e _=>e) (fun _ e _=>e) (fun e _=>e) (fun e _=>e) () (fun _ _ _ _=>()) v e k
noncomputable def jW(v:an):Option (List an):=
 an.rec (motive_1:=fun _=>Option (List an)) (motive_2:=fun _=>Unit) (fun b=>some [.bool b]) (fun k n=>some [.int k n]) (fun l v=>some [.str l v]) (fun f g o=>some [.ptr f g o]) (some [.ik]) (fun f g o l es=>some [.slice f g o l es]) (some [.cg]) (fun cs _=>some cs) (fun _ _=>none) (fun f z eJ _ _=>some [.func f z eJ]) (some [.nQ]) (fun t v _=>some [.iface t v]) (some [.gS]) (fun f=>some [.map f]) (some [.ud]) (none) () (fun _ _ _ _=>()) v
noncomputable def iY{β:Type}(o:Option dQ)(e:β)(k:Nat→Nat→Nat→Nat→Nat→Nat→RT→β):β:=
 Option.rec (motive:=fun _=>β) e (fun o=>dQ.casesOn (motive:=fun _=>β) o k (fun _=>e)) o
noncomputable def jj{β:Type}(i:Int)(e:β)(k:Nat→β):β:=Int.rec (motive:=fun _=>β) k (fun _=>e) i
noncomputable def jn(l:List an):Nat:=List.rec (motive:=fun _=>Nat) 0 (fun _ _ z=>Nat.succ z) l
noncomputable def az.alloc(H:az)(o:dQ)(k:Nat→az→aE):aE:=
 az.casesOn (motive:=fun _=>aE) H fun next bc ws t=>dk next fun f=>t.gA f o fun t=>k f ⟨Nat.succ f,bc,ws,t⟩
noncomputable def qa(f:Nat)(l:List Nat):Bool:=
 List.rec (motive:=fun _=>Bool) false (fun x _ z=>aG (Nat.beq f x) true z) l
noncomputable def wrote(f bc:Nat)(ws:List Nat):List Nat:=
 aG (Nat.ble bc f) ws (aG (qa f ws) ws (f::ws))
noncomputable def rd{β:Type}(H:az)(f g off n:Nat)(e:β)(k:List an→β):β:=
 iY (H.t.get f) e fun _ es _ m lo _ cs=>
  aG (Nat.ble lo g) (aG (Nat.ble g m) (aG (Nat.ble (Nat.add (Nat.mod off es) n) es) (aG (Nat.ble (Nat.succ (Nat.div off es)) g)
   (ob (cs.get (Nat.div off es)) e fun l=>aG (Nat.beq n es) (k l) (k ((l.drop (Nat.mod off es)).take n))) e) e) e) e
noncomputable def g7(l:List an)(r:Nat)(new:List an):List an:=l.take r++(new++l.drop (r+new.length))
noncomputable def wr(H:az)(f g off n:Nat)(new:List an)(e:aE)(k:az→aE):aE:=
 az.casesOn (motive:=fun _=>aE) H fun next bc ws t=>iY (t.get f) e fun elem es aP m lo fl cs=>
  aG (Nat.beq fl 0) (aG (Nat.beq g m) (aG (Nat.ble lo g) (aG (Nat.ble (Nat.add (Nat.mod off es) n) es) (aG (Nat.ble (Nat.succ (Nat.div off es)) g) (aG (Nat.beq (jn new) n)
   (ob (cs.get (Nat.div off es)) e fun l=>
    cs.gA (Nat.div off es) (aG (Nat.beq n es) new (g7 l (Nat.mod off es) new)) fun cs=>t.gA f (.row elem es aP m m 0 cs) fun t=>
     k ⟨next,bc,wrote f bc ws,t⟩) e) e) e) e) e) e
def vU(v i:Nat):Nat:=Nat.mod (Nat.shiftRight v (Nat.mul 8 i)) 256
def xG(v lo hi:Nat):Nat:=Nat.mod (Nat.shiftRight v (Nat.mul 8 lo)) (Nat.shiftLeft 1 (Nat.mul 8 (Nat.sub hi lo)))
def z8(z A G:Nat):Nat:=Nat.add A (Nat.shiftLeft G (Nat.mul 8 z))
noncomputable def strLt(J:Nat):Nat→Nat→Nat→Bool:=
 Nat.rec (motive:=fun _=>Nat→Nat→Nat→Bool) (fun _ z _=>Bool.not (Nat.beq z 0))
  (fun _ K A z G=>Nat.rec (motive:=fun _=>Bool) false (fun I _=>
   match Nat.beq (Nat.mod A 256) (Nat.mod G 256) with
   |true=>K (Nat.div A 256) I (Nat.div G 256)
   |false=>Nat.ble (Nat.succ (Nat.mod A 256)) (Nat.mod G 256)) z) J
def pack:List UInt8→Nat
 |[]=>0
 |b::r=>b.toNat+256*pack r
def dw:IntKind→Nat
 |.i8=>0|.i16=>1|.i32=>2|.i64=>3|.u8=>4|.u16=>5|.u32=>6|.u64=>7
def mf(k:IntKind)(n:Int):Int:=
 match k,n with
 |.i64,.ofNat m=>match Nat.ble m 9223372036854775807 with|true=>.ofNat m|false=>IntKind.wrap .i64 (.ofNat m)
 |.i64,.negSucc m=>match Nat.ble m 9223372036854775807 with|true=>.negSucc m|false=>IntKind.wrap .i64 (.negSucc m)
 |k,n=>k.wrap n
def lh:Int→Int→Bool
 |.ofNat a,.ofNat b=>Nat.ble (Nat.succ a) b
 |.ofNat _,.negSucc _=>false
 |.negSucc _,.ofNat _=>true
 |.negSucc a,.negSucc b=>Nat.ble (Nat.succ b) a
def mr:Int→Int→Bool
 |.ofNat a,.ofNat b=>Nat.beq a b
 |.negSucc a,.negSucc b=>Nat.beq a b
 |_,_=>false
def intBits(op:BinOp)(k:IntKind)(x y:Int):Option Int:=
 let a:=BitVec.ofInt k.bits x
 let b:=BitVec.ofInt k.bits y
 match op with
 |.and=>some (k.wrap ((a&&&b).toNat))
 |.or=>some (k.wrap ((a|||b).toNat))
 |.xor=>some (k.wrap ((a^^^b).toNat))
 |.andNot=>some (k.wrap ((a&&&~~~b).toNat))
 |_=>none
noncomputable def iX(op:BinOp)(k:IntKind)(a:Int)(z:IntKind)(b:Int):Option an:=
 match op with
 |.shl=>aG (lh b 0) none (some (.int k (mf k (a*2^(Nat.min b.toNat k.bits)))))
 |.shr=>aG (lh b 0) none (some (.int k (a.fdiv (2^(Nat.min b.toNat k.bits)))))
 |.add=>aG (Nat.beq (dw k) (dw z)) (some (.int k (mf k (a+b)))) none
 |.sub=>aG (Nat.beq (dw k) (dw z)) (some (.int k (mf k (a-b)))) none
 |.mul=>aG (Nat.beq (dw k) (dw z)) (some (.int k (mf k (a*b)))) none
 |.quo=>aG (Nat.beq (dw k) (dw z)) (aG (mr b 0) none (some (.int k (mf k (a.tdiv b))))) none
 |.rem=>aG (Nat.beq (dw k) (dw z)) (aG (mr b 0) none (some (.int k (a.tmod b)))) none
 |.eql=>aG (Nat.beq (dw k) (dw z)) (some (.bool (mr a b))) none
 |.neq=>aG (Nat.beq (dw k) (dw z)) (some (.bool (Bool.not (mr a b)))) none
 |.lss=>aG (Nat.beq (dw k) (dw z)) (some (.bool (lh a b))) none
 |.leq=>aG (Nat.beq (dw k) (dw z)) (some (.bool (Bool.not (lh b a)))) none
 |.gtr=>aG (Nat.beq (dw k) (dw z)) (some (.bool (lh b a))) none
 |.geq=>aG (Nat.beq (dw k) (dw z)) (some (.bool (Bool.not (lh a b)))) none
 |op=>aG (Nat.beq (dw k) (dw z)) (ob (intBits op k a b) none fun r=>some (.int k r)) none
def rA(z A G I:Nat):Bool:=match Nat.beq z G with|true=>Nat.beq A I|false=>false
noncomputable def Hy(op:BinOp)(z G A I:Nat):Option an:=
 match op with
 |.add=>aG (Nat.ble (Nat.add z A) 4611686018427387904) (some (.str (Nat.add z A) (z8 z G I))) none
 |.eql=>some (.bool (rA z G A I))
 |.neq=>some (.bool (Bool.not (rA z G A I)))
 |.lss=>some (.bool (strLt z G A I))
 |.leq=>some (.bool (Bool.not (strLt A I z G)))
 |.gtr=>some (.bool (strLt A I z G))
 |.geq=>some (.bool (Bool.not (strLt z G A I)))
 |_=>none
noncomputable def A2(op:BinOp)(x y:an):Option an:=
 match x,y with
 |.int k a,.int z b=>iX op k a z b
 |.str A G,.str I J=>Hy op A G I J
 |_,_=>none
noncomputable def FJ(op:UnOp)(x:an):Option an:=
 match op,x with
 |.neg,.int k n=>some (.int k (mf k (0-n)))
 |.xor,.int k n=>ob (intBits .xor k (if k.signed then-1 else k.max) n) none fun r=>some (.int k r)
 |.not,.bool b=>some (.bool (Bool.not b))
 |_,_=>none
def sz(c:Nat):an→Bool
 |.int k _=>Nat.beq (dw k) c
 |.bool _=>Nat.beq c 100
 |.str _ _=>Nat.beq c 101
 |_=>false
def kQ:List Nat→List an→Bool
 |[],[]=>true
 |c::r,a::s=>sz c a&&kQ r s
 |_,_=>false
def xe:an→an→Option Bool
 |.int k a,.int z b=>match Nat.beq (dw k) (dw z) with|true=>some (mr a b)|false=>none
 |.bool a,.bool b=>some (a==b)
 |.str A G,.str I J=>some (rA A G I J)
 |_,_=>none
def qq:List an→List an→Option Bool
 |[],[]=>some true
 |a::r,b::s=>match xe a b with
  |some true=>qq r s
  |some false=>match qq r s with|some _=>some false|none=>none
  |none=>none
 |_,_=>none
noncomputable def nF(c:yW)(x y:an):Option Bool:=
 match c with
 |.bool=>match x,y with|.bool a,.bool b=>some (a==b)|_,_=>none
 |.ptr=>match x,y with
  |.ik,.ik=>some true
  |.ik,.ptr _ _ _=>some false
  |.ptr _ _ _,.ik=>some false
  |.ptr f g o,.ptr f' g' z=>aG (Nat.beq f f') (aG (Nat.beq g g') (aG (Nat.beq o z) (some true) none) none) none
  |_,_=>none
 |.agg ks=>match x,y with|.agg a,.agg b=>aG (kQ ks a) (aG (kQ ks b) (qq a b) none) none|_,_=>none
 |.slice=>match x,y with
  |.cg,.cg=>some true
  |.cg,.slice _ _ _ _ _=>some false
  |.slice _ _ _ _ _,.cg=>some false
  |_,_=>none
 |.iface=>match x,y with
  |.gS,.gS=>some true
  |.gS,.iface _ _=>some false
  |.iface _ _,.gS=>some false
  |.iface t _,.iface t' _=>aG (Nat.beq t t') none (some false)
  |_,_=>none
 |.func=>match x,y with
  |.nQ,.nQ=>some true
  |.nQ,.func _ _ _=>some false
  |.func _ _ _,.nQ=>some false
  |_,_=>none
 |.map=>match x,y with
  |.ud,.ud=>some true
  |_,_=>none
noncomputable def rQ(m n:Nat):Int:=Bool.rec (motive:=fun _=>Int) (.negSucc (Nat.pred (Nat.sub n m))) (.ofNat (Nat.sub m n)) (Nat.ble n m)
noncomputable def Pg(x y:Int):Int:=
 Int.rec (motive:=fun _=>Int→Int) (fun m y=>Int.rec (motive:=fun _=>Int) (fun n=>.ofNat (Nat.add m n)) (fun n=>rQ m (Nat.succ n)) y)
  (fun m y=>Int.rec (motive:=fun _=>Int) (fun n=>rQ n (Nat.succ m)) (fun n=>.negSucc (Nat.succ (Nat.add m n))) y) x y
noncomputable def Ph(x y:Int):Int:=
 Int.rec (motive:=fun _=>Int→Int) (fun m y=>Int.rec (motive:=fun _=>Int) (fun n=>rQ m n) (fun n=>.ofNat (Nat.add m (Nat.succ n))) y)
  (fun m y=>Int.rec (motive:=fun _=>Int) (fun n=>.negSucc (Nat.add m n)) (fun n=>rQ n m) y) x y
noncomputable def Bo(x y:Int):Bool:=
 Int.rec (motive:=fun _=>Int→Bool) (fun m y=>Int.rec (motive:=fun _=>Bool) (fun n=>Nat.ble (Nat.succ m) n) (fun _=>false) y)
  (fun m y=>Int.rec (motive:=fun _=>Bool) (fun _=>true) (fun n=>Nat.ble (Nat.succ n) m) y) x y
noncomputable def I'(x y:Int):Bool:=
 Int.rec (motive:=fun _=>Int→Bool) (fun m y=>Int.rec (motive:=fun _=>Bool) (fun n=>Nat.beq m n) (fun _=>false) y)
  (fun m y=>Int.rec (motive:=fun _=>Bool) (fun _=>false) (fun n=>Nat.beq m n) y) x y
noncomputable def P1(n:Int):Int:=
 Int.rec (motive:=fun _=>Int) (fun m=>Bool.rec (motive:=fun _=>Int) (IntKind.wrap .i64 (.ofNat m)) (.ofNat m) (Nat.ble m 9223372036854775807))
  (fun m=>Bool.rec (motive:=fun _=>Int) (IntKind.wrap .i64 (.negSucc m)) (.negSucc m) (Nat.ble m 9223372036854775807)) n
noncomputable def wU(mx:Nat)(k:IntKind)(n:Int):Int:=
 Int.rec (motive:=fun _=>Int) (fun m=>Bool.rec (motive:=fun _=>Int) (IntKind.wrap k (.ofNat m)) (.ofNat m) (Nat.ble m mx)) (fun m=>IntKind.wrap k (.negSucc m)) n
noncomputable def H7(k:IntKind):Int→Int:=
 IntKind.rec (motive:=fun _=>Int→Int) (IntKind.wrap .i8) (IntKind.wrap .i16) (IntKind.wrap .i32) P1 (wU 255 .u8) (wU 65535 .u16) (wU 4294967295 .u32) (wU 18446744073709551615 .u64) k
noncomputable def nr(op:BinOp)(a b:an)(k:an→aE):aE:=ob (A2 op a b) (.err 6) fun v=>mP v k
noncomputable def Hz(f:Int→Int→Int)(op:BinOp)(a b:an)(k:an→aE):aE:=
 gO a (nr op a b k) fun z x=>gO b (nr op a b k) fun A y=>aG (Nat.beq (dw z) (dw A)) (ll (H7 z (f x y)) fun r=>k (.int z r)) (.err 6)
noncomputable def wB(f:Int→Int→Bool)(op:BinOp)(a b:an)(k:an→aE):aE:=
 gO a (nr op a b k) fun A x=>gO b (nr op a b k) fun z y=>aG (Nat.beq (dw A) (dw z)) (ni (f x y) fun r=>k (.bool r)) (.err 6)
noncomputable def P2(x y:Int):Bool:=Bool.not (I' x y)
noncomputable def P3(x y:Int):Bool:=Bool.not (Bo y x)
noncomputable def P4(x y:Int):Bool:=Bo y x
noncomputable def P5(x y:Int):Bool:=Bool.not (Bo x y)
noncomputable def yE(op:BinOp):an→an→(an→aE)→aE:=
 BinOp.rec (motive:=fun _=>an→an→(an→aE)→aE) (Hz Pg .add) (Hz Ph .sub) (nr .mul) (nr .quo) (nr .rem) (nr .and) (nr .or) (nr .xor) (nr .shl) (nr .shr) (nr .andNot)
  (wB I' .eql) (wB P2 .neq) (wB Bo .lss) (wB P3 .leq) (wB P4 .gtr) (wB P5 .geq) op
def hD:an→Bool
 |.agg _=>false|.tuple _=>false|.undef=>false|_=>true
noncomputable def iL(agg:Bool)(l:List an)(e:aE)(k:an→aE):aE:=
 aG agg (k (.agg l)) (List.rec (motive:=fun _=>aE) e (fun v r _=>List.rec (motive:=fun _=>aE) (k v) (fun _ _ _=>e) r) l)
noncomputable def aF.ev(x:aF)(E:Env):Option an:=
 aF.casesOn (motive:=fun _=>Option an) x (fun n=>E.get n) some
noncomputable def bB(x:aF)(E:Env)(e:aE)(k:an→aE):aE:=
 aF.casesOn (motive:=fun _=>aE) x (fun n=>ob (E.get n) e k) k
noncomputable def jS(E:Env)(l:List aF):Option (List an):=
 List.rec (motive:=fun _=>Option (List an)) (some []) (fun x _ z=>ob (x.ev E) none fun v=>ob z none fun vs=>some (v::vs)) l
noncomputable def gi(E:Env)(x:Option aF)(z y:Nat)(e:aE)(k:Nat→aE):aE:=
 Option.rec (motive:=fun _=>aE) (k z) (fun x=>ob (x.ev E) e fun v=>gO v e fun _ i=>jj i e fun n=>aG (Nat.ble n y) (k n) e) x
noncomputable def idx(v:an)(n:Nat)(e:aE)(k:Nat→aE):aE:=
 gO v e fun _ i=>jj i e fun i=>aG (Nat.ble (Nat.succ i) n) (k i) e
noncomputable def elems(H:az)(f g es:Nat)(n:Nat):Nat→Option (List (List an)):=
 Nat.rec (motive:=fun _=>Nat→Option (List (List an))) (fun _=>some [])
  (fun _ z off=>rd H f g off es none fun l=>ob (z (Nat.add off es)) none fun r=>some (l::r)) n
noncomputable def jG(l:List (List an)):RT→Nat→RT:=
 List.rec (motive:=fun _=>RT→Nat→RT) (fun t _=>t) (fun x _ z t i=>z (t.set i x) (Nat.succ i)) l
noncomputable def sG(l:List (List an)):RT→Nat→(RT→aE)→aE:=
 List.rec (motive:=fun _=>RT→Nat→(RT→aE)→aE) (fun t _ c=>c t) (fun x _ z t i c=>t.gA i x fun t=>dk (Nat.succ i) fun i=>z t i c) l
theorem vE:∀(l:List (List an))(t:RT)(i:Nat)(c:RT→aE),sG l t i c=c (jG l t i)
 |[],_,_,_=>rfl
 |x::l,t,i,c=>by
  show(t.gA i x fun t=>dk (Nat.succ i) fun i=>sG l t i c)=c (jG l (t.set i x) (i+1))
  rw[RT.ki,ij,vE l]
noncomputable def p0(x:List an)(n:Nat):RT:=
 Nat.rec (motive:=fun _=>RT) .emp (fun m t=>t.set m x) n
noncomputable def Fi(x:List an)(n:Nat):(RT→aE)→aE:=
 Nat.rec (motive:=fun _=>(RT→aE)→aE) (fun c=>c .emp) (fun m z c=>z fun t=>t.gA m x c) n
theorem G9(x:List an):∀(n:Nat)(c:RT→aE),Fi x n c=c (p0 x n)
 |0,_=>rfl
 |n+1,c=>by
  show(Fi x n fun t=>t.gA n x c)=c ((p0 x n).set n x)
  rw[G9 x n,RT.ki]
noncomputable def mC(l:Nat):Nat→List (List an):=
 Nat.rec (motive:=fun _=>Nat→List (List an)) (fun _=>[]) (fun _ z v=>[an.int .u8 (Int.ofNat (Nat.mod v 256))]::z (Nat.div v 256)) l
noncomputable def pR(E:Env)(parts:List (Nat×Nat×aF)):List an→Option (List an):=
 List.rec (motive:=fun _=>List an→Option (List an)) some
  (fun p _ z cells=>ob (p.2.2.ev E) none fun v=>ob (jW v) none fun new=>aG (Nat.beq (jn new) p.2.1) (z (g7 cells p.1 new)) none) parts
noncomputable def qs(E:Env)(es z:Nat)(parts:List (Nat×aF)):RT→Option RT:=
 List.rec (motive:=fun _=>RT→Option RT) some
  (fun p _ A t=>ob (p.2.ev E) none fun v=>ob (jW v) none fun new=>aG (Nat.beq (jn new) es) (aG (Nat.ble (Nat.succ p.1) z) (A (t.set p.1 new)) none) none) parts
noncomputable def vV(elem es aP n:Nat)(new:List (List an))(H:az):aE:=
 aG (Nat.ble (Nat.mul n aP) 70368744177664)
  (sG new .emp 0 fun cs=>H.alloc (.row elem es aP n n 0 cs) fun f H=>.ok (.slice f n 0 n es) H) (.err 35)
noncomputable def xH(elem es aP n:Nat)(new:List (List an))(H:az)(f g off I ff:Nat):aE:=
 az.casesOn (motive:=fun _=>aE) H fun next bc ws t=>iY (t.get f) (.err 33) fun z A mJ m lo fl cs=>
  aG (Nat.beq off 0) (aG (Nat.beq g m) (aG (Nat.ble lo g) (aG (Nat.beq I m) (aG (Nat.beq ff es) (aG (Nat.beq A es) (aG (Nat.beq fl 1) (.err 32)
   (aG (Nat.ble (Nat.mul (Nat.add m n) aP) 70368744177664) (aG (Nat.beq elem z)
    (dk (Nat.add m n) fun G=>sG new cs m fun cs=>t.gA f (.row z A mJ G lo fl cs) fun t=>
     .ok (.slice f G 0 G es) ⟨next,bc,wrote f bc ws,t⟩) (.err 32)) (.err 32))) (.err 32)) (.err 32)) (.err 32)) (.err 32)) (.err 32)) (.err 32)
noncomputable def jO(elem es aP n:Nat)(new:List (List an))(H:az)(x:an):aE:=
 Nat.rec (motive:=fun _=>aE) (gL x (.err 31) (.ok x H) fun _ _ _ _ _=>.ok x H)
  (fun n _=>gL x (.err 34) (vV elem es aP (Nat.succ n) new H) (xH elem es aP (Nat.succ n) new H)) n
noncomputable def mm(x:aF)(E:Env)(H:az):aE:=bB x E (.err 1) fun v=>.ok v H
noncomputable def Au(c a b:aF)(E:Env)(H:az):aE:=bB c E (.err 2) fun v=>sw v (.err 2) fun t=>aG t (mm a E H) (mm b E H)
noncomputable def wi(elem es aP:Nat)(cells:List an)(_:Env)(H:az):aE:=
 H.alloc (.row elem es aP 1 1 0 (.one cells)) fun f H=>.ok (.ptr f 1 0) H
noncomputable def A3(elem es aP:Nat)(x:aF)(E:Env)(H:az):aE:=
 bB x E (.err 3) fun v=>ob (jW v) (.err 3) fun l=>aG (Nat.beq (jn l) es) (wi elem es aP l E H) (.err 3)
noncomputable def Av(n:Nat)(agg:Bool)(a:aF)(E:Env)(H:az):aE:=
 bB a E (.err 4) fun v=>iE v (.err 4) fun f g off=>rd H f g off n (.err 4) fun l=>iL agg l (.err 4) fun v=>.ok v H
noncomputable def Aa(n:Nat)(a x:aF)(E:Env)(H:az):aE:=
 bB a E (.err 5) fun p=>iE p (.err 5) fun f g off=>bB x E (.err 5) fun v=>ob (jW v) (.err 5) fun l=>wr H f g off n l (.err 5) fun H=>.ok .undef H
noncomputable def A4(op:BinOp)(x y:aF)(E:Env)(H:az):aE:=
 bB x E (.err 6) fun a=>bB y E (.err 6) fun b=>yE op a b fun v=>.ok v H
noncomputable def yX(c:yW)(neg:Bool)(x y:aF)(E:Env)(H:az):aE:=
 bB x E (.err 7) fun a=>bB y E (.err 7) fun b=>ob (nF c a b) (.err 7) fun r=>ni (Bool.xor neg r) fun r=>.ok (.bool r) H
noncomputable def Bp(op:UnOp)(x:aF)(E:Env)(H:az):aE:=bB x E (.err 8) fun a=>ob (FJ op a) (.err 8) fun v=>mP v fun v=>.ok v H
noncomputable def Aw(x:aF)(k:Nat)(E:Env)(H:az):aE:=
 bB x E (.err 9) fun v=>iE v (.err 9) fun f g off=>dk (Nat.add off k) fun off=>.ok (.ptr f g off) H
noncomputable def A5(x:aF)(off n:Nat)(agg:Bool)(E:Env)(H:az):aE:=
 bB x E (.err 10) fun v=>o9 v (.err 10) fun cs=>aG (Nat.ble (Nat.add off n) (jn cs)) (iL agg ((cs.drop off).take n) (.err 10) fun v=>.ok v H) (.err 10)
noncomputable def zG(z es:Nat)(x i:aF)(E:Env)(H:az):aE:=
 bB x E (.err 11) fun v=>iE v (.err 11) fun f g off=>bB i E (.err 11) fun A=>idx A z (.err 11) fun j=>dk (Nat.add off (Nat.mul j es)) fun off=>.ok (.ptr f g off) H
noncomputable def Ab(es:Nat)(x i:aF)(E:Env)(H:az):aE:=
 bB x E (.err 12) fun v=>gL v (.err 12) (.err 12) fun f g off z _=>bB i E (.err 12) fun A=>idx A z (.err 12) fun j=>dk (Nat.add off (Nat.mul j es)) fun off=>.ok (.ptr f g off) H
noncomputable def zH(z es:Nat)(agg:Bool)(x i:aF)(E:Env)(H:az):aE:=
 bB x E (.err 13) fun v=>o9 v (.err 13) fun cs=>bB i E (.err 13) fun A=>idx A z (.err 13) fun j=>
  aG (Nat.ble (Nat.add (Nat.mul j es) es) (jn cs)) (iL agg ((cs.drop (Nat.mul j es)).take es) (.err 13) fun v=>.ok v H) (.err 13)
noncomputable def zI(x i:aF)(E:Env)(H:az):aE:=
 bB x E (.err 14) fun v=>jJ v (.err 14) fun l s=>bB i E (.err 14) fun z=>idx z l (.err 14) fun j=>dk (vU s j) fun b=>.ok (.int .u8 (.ofNat b)) H
noncomputable def Ac(x:aF)(lo hi:Option aF)(E:Env)(H:az):aE:=
 bB x E (.err 15) fun v=>jJ v (.err 15) fun l s=>gi E hi l l (.err 15) fun h=>gi E lo 0 h (.err 15) fun lo=>
  dk (Nat.sub h lo) fun n=>dk (xG s lo h) fun s=>.ok (.str n s) H
noncomputable def Ax(es:Nat)(x:aF)(lo hi:Option aF)(E:Env)(H:az):aE:=
 bB x E (.err 16) fun v=>gL v (.err 16) (gi E hi 0 0 (.err 16) fun h=>gi E lo 0 h (.err 16) fun _=>.ok .cg H)
  fun f g off z ff=>aG (Nat.beq es ff) (gi E hi z z (.err 16) fun h=>gi E lo 0 h (.err 16) fun lo=>
   dk (Nat.add off (Nat.mul lo es)) fun off=>dk (Nat.sub h lo) fun n=>.ok (.slice f g off n ff) H) (.err 16)
noncomputable def Da(z es:Nat)(x:aF)(lo hi:Option aF)(E:Env)(H:az):aE:=
 bB x E (.err 17) fun v=>iE v (.err 17) fun f g off=>iY (H.t.get f) (.err 17) fun _ ff _ m A _ _=>
  aG (Nat.ble A g) (aG (Nat.ble g m) (aG (Nat.ble (Nat.add off (Nat.mul z es)) (Nat.mul g ff)) (gi E hi z z (.err 17) fun h=>gi E lo 0 h (.err 17) fun lo=>
   dk (Nat.add off (Nat.mul lo es)) fun off=>dk (Nat.sub h lo) fun n=>.ok (.slice f g off n es) H) (.err 17)) (.err 17)) (.err 17)
noncomputable def Ay(x:aF)(i:Nat)(E:Env)(H:az):aE:=bB x E (.err 18) fun v=>si v (.err 18) fun vs=>ob (vs[i]?) (.err 18) fun v=>.ok v H
def xp:an→Bool
 |.ptr _ _ _=>true|.func _ _ _=>true|_=>false
noncomputable def Ad(x:aF)(E:Env)(H:az):aE:=bB x E (.err 19) fun v=>aG (xp v) (.ok v H) (.err 19)
noncomputable def Az(f:Nat)(first eJ:List aF)(E:Env)(H:az):aE:=ob (jS E first) (.err 20) fun z=>ob (jS E eJ) (.err 20) fun vs=>.ok (.func f z vs) H
noncomputable def AA(t:Nat)(x:aF)(E:Env)(H:az):aE:=bB x E (.err 21) fun v=>.ok (.iface t v) H
noncomputable def AB(elem es aP:Nat)(zero:List an)(z A:aF)(E:Env)(H:az):aE:=
 bB z E (.err 22) fun a=>gO a (.err 22) fun _ a=>jj a (.err 22) fun l=>bB A E (.err 22) fun b=>gO b (.err 22) fun _ b=>jj b (.err 22) fun c=>
  aG (Nat.ble l c) (aG (Nat.ble (Nat.mul c aP) 70368744177664) (aG (Nat.ble c 4611686018427387904)
   (Fi zero l fun cs=>H.alloc (.row elem es aP l l 0 cs) fun f H=>.ok (.slice f l 0 l es) H) (.err 22)) (.err 22)) (.err 22)
noncomputable def Db(zero:List an)(parts:List (Nat×Nat×aF))(E:Env)(H:az):aE:=ob (pR E parts zero) (.err 23) fun cs=>.ok (.agg cs) H
noncomputable def Cr(elem es aP z:Nat)(zero:List an)(parts:List (Nat×aF))(E:Env)(H:az):aE:=
 ob (qs E es z parts (p0 zero z)) (.err 24) fun t=>H.alloc (.row elem es aP z z 0 t) fun f H=>.ok (.slice f z 0 z es) H
noncomputable def A6(x:aF)(E:Env)(H:az):aE:=bB x E (.err 25) fun v=>gL v (.err 25) (.ok (.int .i64 (.ofNat 0)) H) fun _ _ _ l _=>.ok (.int .i64 (.ofNat l)) H
noncomputable def AD(x:aF)(E:Env)(H:az):aE:=bB x E (.err 25) fun v=>jJ v (.err 25) fun l _=>.ok (.int .i64 (.ofNat l)) H
noncomputable def ON(n:Nat)(_:Env)(H:az):aE:=.ok (.int .i64 (.ofNat n)) H
noncomputable def A7(elem es aP:Nat)(x y:aF)(E:Env)(H:az):aE:=
 bB x E (.err 26) fun a=>bB y E (.err 26) fun b=>gL b (.err 26) (jO elem es aP 0 [] H a) fun f g off n _=>
  ob (elems H f g es n off) (.err 26) fun l=>jO elem es aP n l H a
noncomputable def zJ(elem:Nat)(x y:aF)(E:Env)(H:az):aE:=
 bB x E (.err 27) fun a=>bB y E (.err 27) fun b=>jJ b (.err 27) fun l v=>jO elem 1 1 l (mC l v) H a
noncomputable def WD(_:Nat)(_ _:aF)(_:Env)(_:az):aE:=.err 28
noncomputable def FK(mx:Bool)(k:IntKind)(l:List an):Int→Option an:=
 List.rec (motive:=fun _=>Int→Option an) (fun a=>some (.int k a))
  (fun v _ z a=>M9 v none fun _ b=>ll (aG (aG mx (lh a b) (lh b a)) b a) z) l
noncomputable def zK(mx:Bool)(x:aF)(ys:List aF)(E:Env)(H:az):aE:=
 bB x E (.err 29) fun a=>gO a (.err 29) fun k a=>ob (jS E ys) (.err 29) fun vs=>ob (FK mx k vs a) (.err 29) fun v=>.ok v H
noncomputable def AE(k:IntKind)(x:aF)(E:Env)(H:az):aE:=bB x E (.err 36) fun v=>gO v (.err 36) fun _ n=>ll (mf k n) fun n=>.ok (.int k n) H
noncomputable def zL(elem:Nat)(x:aF)(E:Env)(H:az):aE:=
 bB x E (.err 38) fun v=>jJ v (.err 38) fun l s=>aG (Nat.ble l 70368744177664)
  (sG (mC l s) .emp 0 fun cs=>H.alloc (.row elem 1 1 l l 3 cs) fun f H=>.ok (.slice f l 0 l 1) H) (.err 38)
noncomputable def nR(l:List (List an)):Option Nat:=
 List.rec (motive:=fun _=>Option Nat) (some 0) (fun c _ z=>List.rec (motive:=fun _=>Option Nat) none (fun v r _=>List.rec (motive:=fun _=>Option Nat)
  (M8 v none fun k i=>aG (Nat.beq (dw k) 4) (jj i none fun b=>aG (Nat.ble b 255) (ob z none fun v=>some (Nat.add b (Nat.mul 256 v))) none) none) (fun _ _ _=>none) r) c) l
noncomputable def zM(x:aF)(E:Env)(H:az):aE:=
 bB x E (.err 39) fun v=>gL v (.err 39) (.ok (.str 0 0) H) fun f g off n _=>
  ob (elems H f g 1 n off) (.err 39) fun l=>ob (nR l) (.err 39) fun s=>dk s fun s=>.ok (.str n s) H
def xI:an→Bool
 |.ik=>true|_=>false
noncomputable def Ae(t n:Nat)(x:aF)(E:Env)(H:az):aE:=
 bB x E (.err 44) fun v=>aG (xI v) (.ok v H) (iE v (.err 44) fun f g off=>iY (H.t.get f) (.err 44) fun elem es _ m lo fl _=>
  aG (Nat.beq elem t) (aG (Nat.beq es n) (aG (Nat.beq off 0) (aG (Nat.ble lo g) (aG (Nat.ble g m) (aG (Nat.ble 1 g) (aG (Nat.beq fl 0) (.ok v H) (.err 44)) (.err 44)) (.err 44)) (.err 44)) (.err 44)) (.err 44)) (.err 44))
noncomputable def A8(x:aF)(E:Env)(H:az):aE:=
 bB x E (.err 45) fun v=>gL v (.err 45) (.ok .ik H) fun f g off l _=>aG (Nat.beq l 0) (.err 45) (.ok (.ptr f g off) H)
noncomputable def mL(f e:Nat)(H:az)(k:az→aE):aE:=
 az.casesOn (motive:=fun _=>aE) H fun next bc ws t=>iY (t.get f) (.err 46) fun elem es aP m lo fl cs=>
  aG (Nat.beq elem e) (aG (Nat.beq es 1) (aG (aG (Nat.beq fl 0) true (Nat.beq fl 2)) (t.gA f (.row elem es aP m lo 2 cs) fun t=>k ⟨next,bc,wrote f bc ws,t⟩) (.err 46)) (.err 46)) (.err 46)
noncomputable def wk(e:Nat)(x n:aF)(E:Env)(H:az):aE:=
 bB x E (.err 46) fun p=>aG (xI p) (bB n E (.err 46) fun z=>gO z (.err 46) fun k i=>jj i (.err 46) fun l=>aG (Nat.beq (dw k) 3) (aG (Nat.beq l 0) (.ok (.str 0 0) H) (.err 46)) (.err 46))
  (iE p (.err 46) fun f g off=>bB n E (.err 46) fun z=>gO z (.err 46) fun k i=>jj i (.err 46) fun l=>
  aG (Nat.beq off 0) (aG (Nat.beq (dw k) 3) (aG (Nat.ble 1 l) (aG (Nat.ble l 70368744177664) (ob (elems H f g 1 l 0) (.err 46) fun L=>ob (nR L) (.err 46) fun s=>dk s fun s=>mL f e H fun H=>.ok (.str l s) H) (.err 46)) (.err 46)) (.err 46)) (.err 46))
abbrev eI:=Nat→List an→az→aE
noncomputable def AF(f:Nat)(args:List aF)(call:eI)(E:Env)(H:az):aE:=ob (jS E args) (.err 42) fun vs=>call f vs H
noncomputable def Af(x:aF)(args:List aF)(call:eI)(E:Env)(H:az):aE:=
 bB x E (.err 43) fun v=>ue v (.err 43) fun f z eJ=>ob (jS E args) (.err 43) fun vs=>call f (z++(vs++eJ)) H
noncomputable def bG.ev(o:bG):eI→Env→az→aE:=
 bG.rec (motive:=fun _=>eI→Env→az→aE)
  (fun x _=>mm x) (fun c a b _=>Au c a b) (fun a b c d _=>wi a b c d) (fun a b c d _=>A3 a b c d) (fun a b c _=>Av a b c) (fun a b c _=>Aa a b c)
  (fun a b c _=>A4 a b c) (fun a b c d _=>yX a b c d) (fun a b _=>Bp a b) (fun a b _=>Aw a b) (fun a b c d _=>A5 a b c d) (fun a b c d _=>zG a b c d)
  (fun a b c _=>Ab a b c) (fun a b c d e _=>zH a b c d e) (fun a b _=>zI a b) (fun a b c _=>Ac a b c) (fun a b c d _=>Ax a b c d) (fun a b c d e _=>Da a b c d e)
  (fun a b _=>Ay a b) (fun a _=>Ad a) (fun a b c _=>Az a b c) (fun a b _=>AA a b) (fun a b c d e f _=>AB a b c d e f) (fun a b _=>Db a b)
  (fun a b c d e f _=>Cr a b c d e f) (fun a _=>A6 a) (fun a _=>ON a) (fun a _=>AD a) (fun a b c d e _=>A7 a b c d e) (fun a b c _=>zJ a b c) (fun a b c _=>WD a b c)
  (fun a b c _=>zK a b c) (fun a b _=>AE a b) (fun a _=>mm a) (fun a b _=>zL a b) (fun a _=>zM a) (fun f args=>AF f args) (fun x args=>Af x args) (fun a b c _=>Ae a b c) (fun a _=>A8 a) (fun a b c _=>wk a b c) o
noncomputable def fin(dst:Option Key)(E:Env)(k:Env→az→eG)(r:aE):eG:=
 aE.rec (motive:=fun _=>eG) (fun v H=>Option.rec (motive:=fun _=>eG) (k E H) (fun d=>E.yD d v fun E=>k E H) dst) .err r
noncomputable def bt.run(call:eI)(o:bt)(E:Env)(H:az)(k:Env→az→eG):eG:=fin o.dst E k (o.op.ev call E H)
noncomputable def kC(dst:Option Key)(E:Env)(H:az)(k:Env→az→eG):eG:=
 Option.rec (motive:=fun _=>eG) (k E H) (fun d=>E.yD d .undef fun E=>k E H) dst
noncomputable def bt.step(call:eI)(o:bt)(E:Env)(H:az)(k:Env→az→eG):eG:=
 Option.rec (motive:=fun _=>eG) (o.run call E H k)
  (fun g=>ob (E.get g.1) (.err 51) fun v=>wA v (kC o.dst E H k) fun b=>aG (Bool.xor b g.2) (kC o.dst E H k) (o.run call E H k)) o.g
noncomputable def mV(call:eI)(l:List bt):Env→az→eG:=
 List.rec (motive:=fun _=>Env→az→eG) eG.ok (fun o _ z E H=>o.step call E H z) l
structure FP where
 rd:Option (List Nat)
 ws:List Nat
 lo:Nat
 hi:Nat
def iZ:Option an→List Nat
 |some (.ptr f _ _)=>[f]
 |some (.slice f _ _ _ _)=>[f]
 |_=>[]
noncomputable def bG.reads(E:Env):bG→Option (List Nat)
 |.load _ _ a=>some (iZ (a.ev E))
 |.app _ _ _ x y=>some (iZ (x.ev E)++iZ (y.ev E))
 |.re _ x _=>some (iZ (x.ev E))
 |.qv x=>some (iZ (x.ev E))
 |.wg _ _ x _ _=>some (iZ (x.ev E))
 |.store _ a _=>some (iZ (a.ev E))
 |.qC _ _ x=>some (iZ (x.ev E))
 |.qJ _ x _=>some (iZ (x.ev E))
 |.call _ _=>none
 |.mU _ _=>none
 |.copy _ _ _=>none
 |_=>some []
noncomputable def yh(l m:List Nat):Bool:=
 List.rec (motive:=fun _=>Bool) true (fun x _ z=>aG (qa x m) false z) l
noncomputable def uZ(l:List Nat)(lo hi:Nat):Bool:=
 List.rec (motive:=fun _=>Bool) true (fun x _ z=>aG (Nat.ble lo x) (aG (Nat.ble hi x) z false) z) l
noncomputable def AG(l:List Nat)(r:Option (List Nat)):Bool:=
 List.rec (motive:=fun _=>Bool) true (fun _ _ _=>Option.rec (motive:=fun _=>Bool) false (fun r=>yh l r) r) l
noncomputable def sj(a b:FP):Bool:=
 aG (AG a.ws b.rd) (aG (AG b.ws a.rd) (aG (yh a.ws b.ws) (uZ a.ws b.lo b.hi) false) false) false
noncomputable def pI(a:FP)(bR:List FP)(l:List Nat):Bool:=
 List.rec (motive:=fun _=>Bool) true (fun i _ z=>ob (bR[i]?) false fun b=>aG (sj a b) z false) l
noncomputable def oJ(bc:Nat)(ws new:List Nat):List Nat:=
 List.rec (motive:=fun _=>List Nat) ws (fun f _ z=>wrote f bc z) new
noncomputable def yF(rs:Option (List Nat))(l:List Nat)(next bc:Nat)(ws:List Nat)(bR:List FP)(dst:Option Key)(E:Env)(k:Env→az→List FP→eG)(r:aE):eG:=
 aE.rec (motive:=fun _=>eG) (fun v H'=>az.casesOn (motive:=fun _=>eG) H' fun next' _ z t'=>
  aG (pI ⟨rs,z,next,next'⟩ bR l)
   (Option.rec (motive:=fun _=>eG) (k E ⟨next',bc,oJ bc ws z,t'⟩ (⟨rs,z,next,next'⟩::bR))
    (fun d=>E.yD d v fun E=>k E ⟨next',bc,oJ bc ws z,t'⟩ (⟨rs,z,next,next'⟩::bR)) dst) (.err 50)) .err r
noncomputable def bt.Xw(call:eI)(o:bt)(l:List Nat)(E:Env)(H:az)(bR:List FP)(k:Env→az→List FP→eG):eG:=
 az.casesOn (motive:=fun _=>eG) H fun next bc ws t=>dk next fun next=>yF (o.op.reads E) l next bc ws bR o.dst E k (o.op.ev call E ⟨next,next,[],t⟩)
noncomputable def bt.qb(call:eI)(o:bt)(E:Env)(H:az)(bR:List FP)(k:Env→az→List FP→eG):eG:=
 Option.rec (motive:=fun _=>eG) (o.run call E H fun E H=>k E H bR) (fun l=>o.Xw call l E H bR k) o.q
noncomputable def rB(q:Option (List Nat))(bR:List FP):List FP:=Option.rec (motive:=fun _=>List FP) bR (fun _=>⟨some [],[],0,0⟩::bR) q
noncomputable def bt.ns(call:eI)(o:bt)(E:Env)(H:az)(bR:List FP)(k:Env→az→List FP→eG):eG:=
 Option.rec (motive:=fun _=>eG) (o.qb call E H bR k)
  (fun g=>ob (E.get g.1) (.err 51) fun v=>wA v (kC o.dst E H fun E H=>k E H (rB o.q bR)) fun b=>aG (Bool.xor b g.2) (kC o.dst E H fun E H=>k E H (rB o.q bR)) (o.qb call E H bR k)) o.g
noncomputable def me(call:eI)(l:List bt):Env→az→List FP→eG:=
 List.rec (motive:=fun _=>Env→az→List FP→eG) (fun E H _=>.ok E H) (fun o _ z E H bR=>o.ns call E H bR z) l
noncomputable def tP(r:Out)(k:Env→az→Out):Out:=
 Out.rec (motive:=fun _=>Out) (fun x E H=>Ex.rec (motive:=fun _=>Out) (k E H) (fun id=>.ok (.exit id) E H) (.ok .ret E H) x) .err r
noncomputable def uG(f:Env→az→Out)(n:Nat):Env→az→Out:=
 Nat.rec (motive:=fun _=>Env→az→Out) (fun _ _=>.err 60) (fun _ z E H=>tP (f E H) z) n
noncomputable def yY(r:eG):Out:=eG.rec (motive:=fun _=>Out) (fun E H=>.ok .normal E H) .err r
noncomputable def WE(E:Env)(H:az):Out:=.ok .normal E H
noncomputable def Uj(call:eI)(draw:Bool)(ops:List bt):Env→az→Out:=
 aG draw (fun E H=>yY (me call ops E H [])) (fun E H=>yY (mV call ops E H))
noncomputable def Xx(_ _:IC)(a b:Env→az→Out)(E:Env)(H:az):Out:=tP (a E H) b
noncomputable def H8(c:aF)(_ _:IC)(a b:Env→az→Out)(E:Env)(H:az):Out:=
 ob (c.ev E) (.err 61) fun v=>Mf v (.err 61) fun t=>aG t (a E H) (b E H)
noncomputable def Ag(id:Nat)(_:IC)(b:Env→az→Out)(E:Env)(H:az):Out:=
 Out.rec (motive:=fun _=>Out) (fun x E H=>Ex.rec (motive:=fun _=>Out) (.ok .normal E H) (fun z=>aG (Nat.beq z id) (.ok .normal E H) (.ok (.exit z) E H)) (.ok .ret E H) x) .err (b E H)
noncomputable def WG(lf:Nat)(_:IC)(b:Env→az→Out):Env→az→Out:=uG b lf
noncomputable def WH(id:Nat)(E:Env)(H:az):Out:=.ok (.exit id) E H
noncomputable def Xy(E:Env)(H:az):Out:=.ok .ret E H
noncomputable def IC.ev(call:eI)(lf:Nat)(c:IC):Env→az→Out:=
 IC.rec (motive:=fun _=>Env→az→Out) WE (Uj call) Xx H8 Ag (WG lf) WH Xy c
noncomputable def params(ks:List Key):List an→Env→(Env→aE)→aE:=
 List.rec (motive:=fun _=>List an→Env→(Env→aE)→aE) (fun l E c=>List.rec (motive:=fun _=>aE) (c E) (fun _ _ _=>.err 71) l)
  (fun k _ z l E c=>List.rec (motive:=fun _=>aE) (.err 71) (fun v r _=>E.gA k v fun E=>z r E c) l) ks
noncomputable def yG(E:Env)(H:az)(r:lW)(e:aE)(k:an→aE):aE:=
 lW.casesOn (motive:=fun _=>aE) r (fun t=>ob (E.get t) e k)
  (fun a n agg=>ob (E.get a) e fun v=>iE v e fun f g off=>rd H f g off n e fun l=>iL agg l e k)
noncomputable def uH(E:Env)(H:az)(l:List lW)(e:aE):(List an→aE)→aE:=
 List.rec (motive:=fun _=>(List an→aE)→aE) (fun k=>k []) (fun r _ z k=>yG E H r e fun v=>z fun vs=>k (v::vs)) l
noncomputable def results(E:Env)(H:az)(rs:List lW):aE:=
 uH E H rs (.err 70) fun vs=>List.rec (motive:=fun _=>aE) (.ok (.tuple []) H) (fun v r _=>List.rec (motive:=fun _=>aE) (.ok v H) (fun _ _ _=>.ok (.tuple (v::r)) H) r) vs
noncomputable def sQ(call:eI)(lf:Nat)(fn:bH)(args:List an)(H:az):aE:=
 params fn.ps args .emp fun E=>Out.rec (motive:=fun _=>aE) (fun x E H=>Ex.rec (motive:=fun _=>aE) (results E H fn.res) (fun _=>.err 72) (results E H fn.res) x) .err (fn.body.ev call lf E H)
noncomputable def A9(c:Nat)(l:Nat):Nat→Nat→Int:=
 Nat.rec (motive:=fun _=>Nat→Nat→Int) (fun _ _=>Int.negSucc 0)
  (fun _ z s i=>aG (Nat.beq (Nat.mod s 256) c) (Int.ofNat i) (dk (Nat.div s 256) fun s=>dk (Nat.succ i) fun i=>z s i)) l
noncomputable def Gr(args:List an)(H:az):aE:=
 List.rec (motive:=fun _=>aE) (.err 90) (fun x r _=>List.rec (motive:=fun _=>aE) (.err 90) (fun y _ _=>
  jJ x (.err 90) fun l s=>gO y (.err 90) fun k c=>jj c (.err 90) fun c=>aG (Nat.beq (dw k) 4) (aG (Nat.ble c 255) (aG (Nat.beq (jn r) 1) (ll (A9 c l s 0) fun i=>.ok (.int .i64 i) H) (.err 90)) (.err 90)) (.err 90)) r) args
noncomputable def H9(args:List an)(H:az):aE:=
 List.rec (motive:=fun _=>aE) (.err 91) (fun x r _=>List.rec (motive:=fun _=>aE) (.ok x H) (fun _ _ _=>.err 91) r) args
noncomputable def Ia(args:List an)(H:az):aE:=
 List.rec (motive:=fun _=>aE) (.ok (.bool true) H) (fun _ _ _=>.err 92) args
def pj:Nat→Nat→List UInt8
 |0,_=>[]
 |l+1,s=>UInt8.ofNat (s % 256)::pj l (s/256)
noncomputable def uI:List an→az→aE
 |[.str l s,.int k a,.int z b],H=>if k= .i64∧a=10∧z= .i64∧b=64∧l≤1000 then(match Lib.parseUintB 64 (pj l s) with
  |.ok u=>.ok (.tuple [.int .u64 u,.gS]) H
  |_=>.err 93) else .err 93
 |_,_=>.err 93
noncomputable def sS(t:Nat):List an→az→aE
 |[.str l s,.int k a,.int z b],H=>if k= .i64∧a=10∧z= .i64∧b=64∧l≤1000 then(match Lib.parseIntB 64 (pj l s) with
  |.ok v=>.ok (.tuple [.int .i64 v,.gS]) H
  |.range=>.ok (.tuple [.int .i64 (Lib.intSat 64 (pj l s)),.iface t (.map 0)]) H
  |_=>.err 93) else .err 93
 |_,_=>.err 93
noncomputable def Pj(c:Nat)(args:List an)(H:az):aE:=match c with
 |0=>uI args H
 |c+1=>sS c args H
noncomputable def qM(c:Nat)(args:List an)(H:az):aE:=
 Nat.rec (motive:=fun _=>aE) (Gr args H) (fun c _=>Nat.rec (motive:=fun _=>aE) (H9 args H) (fun c _=>Nat.rec (motive:=fun _=>aE) (Ia args H) (fun c _=>Pj c args H) c) c) c
noncomputable def Bq(ft:Tr bH)(xt:Tr Nat)(lf:Nat)(n:Nat):eI:=
 Nat.rec (motive:=fun _=>eI) (fun _ _ _=>.err 80) (fun _ z f args H=>ob (ft.get f) (ob (xt.get f) (.err (Nat.add 10000 f)) fun c=>qM c args H) fun fn=>sQ z lf fn args H) n
end Go.Ev
