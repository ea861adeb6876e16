/- Part 1 of rules for walks through the code of a program, and of such walks; what each part proves is said by its theorems. -/
import Derived.Test.YtddbkonalipepaaGreatDoorS0
import Derived.Lib.ParseIntB
set_option linter.unusedVariables false
set_option linter.unusedSimpArgs false
namespace Go.Ev
theorem aa{α:Sort _}{a:α}:a=a:=rfl
inductive an where
 |bool (b:Bool)
 |int (k:IntKind) (n:Int)
 |str (l v:Nat)
 |ptr (f g off:Nat)
 |hY
 |slice (f g off len es:Nat)
 |cb
 |agg (cs:List an)
 |tuple (vs:List an)
 |func (f:Nat) (first eD:List an)
 |nC
 |iface (t:Nat) (v:an)
 |gA
 |map (f:Nat)
 |tA
 |undef
inductive D6 where
 |d0|d1|d2|d3|d4|d5
def D6.n:D6→Nat
 |.d0=>0|.d1=>1|.d2=>2|.d3=>3|.d4=>4|.d5=>5
def AB:Nat→D6
 |0=>.d0|1=>.d1|2=>.d2|3=>.d3|4=>.d4|_=>.d5
noncomputable def nU(n:Nat):D6:=
 Nat.rec (motive:=fun _=>D6) .d0 (fun n _=>Nat.rec (motive:=fun _=>D6) .d1 (fun n _=>Nat.rec (motive:=fun _=>D6) .d2 (fun n _=>Nat.rec (motive:=fun _=>D6) .d3 (fun n _=>Nat.rec (motive:=fun _=>D6) .d4 (fun _ _=>.d5) n) n) n) n) n
inductive Key where
 |mk (i j k l:D6)
def Key.n:Key→Nat
 |.mk i j k l=>i.n+6*j.n+36*k.n+216*l.n
def pk(n:Nat):Key:=.mk (AB (n % 6)) (AB (n/6 % 6)) (AB (n/36 % 6)) (AB (n/216 % 6))
theorem D6.lt(d:D6):d.n<6:=by cases d<;>decide
theorem D6.inj{a b:D6}(h:a.n=b.n):a=b:=by cases a<;>cases b<;>first|rfl|(simp[D6.n] at h)
instance:DecidableEq D6:=fun a b=>if h:a.n=b.n then .isTrue (D6.inj h) else .isFalse fun e=>h (by rw[e])
theorem Cv{m:Nat}(h:m<6):(AB m).n=m:=by
 match m,h with
 |0,_=>rfl
 |1,_=>rfl
 |2,_=>rfl
 |3,_=>rfl
 |4,_=>rfl
 |5,_=>rfl
theorem CU{m:Nat}(h:m<6):(nU m).n=m:=by
 match m,h with
 |0,_=>rfl
 |1,_=>rfl
 |2,_=>rfl
 |3,_=>rfl
 |4,_=>rfl
 |5,_=>rfl
theorem Key.inj{a b:Key}(h:a.n=b.n):a=b:=by
 cases a with
 |mk i j k l=>cases b with
  |mk z A G I=>
   simp only[Key.n] at h
   have O:=i.lt;have h2:=j.lt;have U:=k.lt;have Y:=l.lt
   have Z:=z.lt;have h5:=A.lt;have h6:=G.lt;have h8:=I.lt
   have e1:i=z:=D6.inj (by omega)
   have e2:j=A:=D6.inj (by omega)
   have J:k=G:=D6.inj (by omega)
   have K:l=I:=D6.inj (by omega)
   rw[e1,e2,J,K]
instance:DecidableEq Key:=fun a b=>if h:a.n=b.n then .isTrue (Key.inj h) else .isFalse fun e=>h (by rw[e])
theorem wa{n:Nat}(h:n<1296):(pk n).n=n:=by
 simp only[pk,Key.n]
 rw[Cv (by omega),Cv (by omega),Cv (by omega),Cv (by omega)]
 omega
section
variable{α β:Type}
inductive S6(α:Type) where
 |mk (x0 x1 x2 x3 x4 x5:α)
noncomputable def S6.get(d:D6)(t:S6 α):α:=
 S6.rec (motive:=fun _=>α) (fun x0 x1 x2 x3 x4 x5=>D6.rec (motive:=fun _=>α) x0 x1 x2 x3 x4 x5 d) t
noncomputable def S6.u0(f:α→(α→β)→β)(t:S6 α)(c:S6 α→β):β:=S6.rec (motive:=fun _=>β) (fun x0 x1 x2 x3 x4 x5=>f x0 fun y=>c (.mk y x1 x2 x3 x4 x5)) t
noncomputable def S6.u1(f:α→(α→β)→β)(t:S6 α)(c:S6 α→β):β:=S6.rec (motive:=fun _=>β) (fun x0 x1 x2 x3 x4 x5=>f x1 fun y=>c (.mk x0 y x2 x3 x4 x5)) t
noncomputable def S6.u2(f:α→(α→β)→β)(t:S6 α)(c:S6 α→β):β:=S6.rec (motive:=fun _=>β) (fun x0 x1 x2 x3 x4 x5=>f x2 fun y=>c (.mk x0 x1 y x3 x4 x5)) t
noncomputable def S6.u3(f:α→(α→β)→β)(t:S6 α)(c:S6 α→β):β:=S6.rec (motive:=fun _=>β) (fun x0 x1 x2 x3 x4 x5=>f x3 fun y=>c (.mk x0 x1 x2 y x4 x5)) t
noncomputable def S6.u4(f:α→(α→β)→β)(t:S6 α)(c:S6 α→β):β:=S6.rec (motive:=fun _=>β) (fun x0 x1 x2 x3 x4 x5=>f x4 fun y=>c (.mk x0 x1 x2 x3 y x5)) t
noncomputable def S6.u5(f:α→(α→β)→β)(t:S6 α)(c:S6 α→β):β:=S6.rec (motive:=fun _=>β) (fun x0 x1 x2 x3 x4 x5=>f x5 fun y=>c (.mk x0 x1 x2 x3 x4 y)) t
noncomputable def S6.gy(d:D6):(α→(α→β)→β)→S6 α→(S6 α→β)→β:=
 D6.rec (motive:=fun _=>(α→(α→β)→β)→S6 α→(S6 α→β)→β) S6.u0 S6.u1 S6.u2 S6.u3 S6.u4 S6.u5 d
noncomputable def S6.mod(d:D6)(g:α→α)(t:S6 α):S6 α:=S6.gy d (fun x c=>c (g x)) t fun y=>y
theorem S6.B9(d z:D6)(g:α→α)(t:S6 α):S6.get z (S6.mod d g t)=if z=d then g (S6.get d t) else S6.get z t:=by
 cases t;cases d<;>cases z<;>rfl
theorem S6.Cw(d:D6)(g:α→α)(f:α→(α→β)→β)(z:∀x c,f x c=c (g x))(t:S6 α)(c:S6 α→β):S6.gy d f t c=c (S6.mod d g t):=by
 cases t;cases d<;>exact z _ _
def S6.all(x:α):S6 α:=.mk x x x x x x
theorem S6.Ca(d:D6)(x:α):S6.get d (S6.all x)=x:=by cases d<;>rfl
def T4(α:Type):Type:=S6 (S6 (S6 (S6 (Option α))))
noncomputable def T4.get(E:T4 α)(key:Key):Option α:=Key.rec (motive:=fun _=>T4 α→Option α) (fun i j k l E=>S6.get l (S6.get k (S6.get j (S6.get i E)))) key E
noncomputable def T4.gr(E:T4 α)(key:Key)(v:α)(c:T4 α→β):β:=Key.rec (motive:=fun _=>β) (fun i j k l=>S6.gy i (S6.gy j (S6.gy k (S6.gy l fun _ c=>c (some v)))) E c) key
noncomputable def T4.set(E:T4 α)(key:Key)(v:α):T4 α:=E.gr key v fun E=>E
theorem T4.GD(E:T4 α)(i j k l:D6)(v:α)(c:T4 α→β):E.gr (.mk i j k l) v c=c (S6.mod i (S6.mod j (S6.mod k (S6.mod l fun _=>some v))) E):=
 S6.Cw i _ _ (fun x c=>S6.Cw j _ _ (fun x c=>S6.Cw k _ _ (fun x c=>S6.Cw l (fun _=>some v) _ (fun _ _=>rfl) x c) x c) x c) E c
theorem T4.j6(E:T4 α)(key:Key)(v:α)(c:T4 α→β):E.gr key v c=c (E.set key v):=by
 cases key with
 |mk i j k l=>unfold T4.set;rw[T4.GD,T4.GD]
theorem S6.gs(E:S6 (S6 (S6 (S6 (Option α)))))(i j k l z A G I:D6)(v:α):S6.get I (S6.get G (S6.get A (S6.get z (S6.mod i (S6.mod j (S6.mod k (S6.mod l fun _=>some v))) E))))=
  if Key.mk z A G I=Key.mk i j k l then some v else S6.get I (S6.get G (S6.get A (S6.get z E))):=by
 rw[S6.B9]
 by_cases hi:z=i
 ·subst hi
  rw[aq rfl,S6.B9]
  by_cases J:A=j
  ·subst J
   rw[aq rfl,S6.B9]
   by_cases hk:G=k
   ·subst hk
    rw[aq rfl,S6.B9]
    by_cases K:I=l
    ·subst K
     rw[aq rfl,aq rfl]
    rw[aj K,aj (by intro e;cases e;exact K rfl)]
   rw[aj hk,aj (by intro e;cases e;exact hk rfl)]
  rw[aj J,aj (by intro e;cases e;exact J rfl)]
 rw[aj hi,aj (by intro e;cases e;exact hi rfl)]
theorem T4.eO(E:T4 α)(key z:Key)(v:α):(E.set key v).get z=if z=key then some v else E.get z:=by
 cases key with
 |mk i j k l=>cases z with
  |mk A G I J=>
   unfold T4.set
   rw[T4.GD]
   exact S6.gs E i j k l A G I J v
def T4.emp:T4 α:=S6.all (S6.all (S6.all (S6.all none)))
theorem T4.rQ(key:Key):(T4.emp:T4 α).get key=none:=by
 cases key with
 |mk i j k l=>
  show S6.get l (S6.get k (S6.get j (S6.get i (S6.all (S6.all (S6.all (S6.all none)))))))=none
  rw[S6.Ca,S6.Ca,S6.Ca,S6.Ca]
noncomputable def pq(n:Nat):Key:=.mk (nU (Nat.mod n 6)) (nU (Nat.mod (Nat.div n 6) 6)) (nU (Nat.mod (Nat.div n 36) 6)) (nU (Nat.mod (Nat.div n 216) 6))
theorem Ol{n:Nat}(h:n<1296):(pq n).n=n:=by
 show(nU (n % 6)).n+6*(nU (n/6 % 6)).n+36*(nU (n/36 % 6)).n+216*(nU (n/216 % 6)).n=n
 rw[CU (yy _ (by omega)),CU (yy _ (by omega)),CU (yy _ (by omega)),CU (yy _ (by omega))]
 omega
theorem UG{n k:Nat}(h:pq (n % 1296)=pq (k % 1296)):n % 1296=k % 1296:=by
 rw[←Ol (n:=n % 1296) (by omega),←Ol (n:=k % 1296) (by omega),h]
def GT(α:Type):Type:=Tr (T4 α)
noncomputable def GT.uR(t:GT α)(n:Nat):T4 α:=Option.rec (motive:=fun _=>T4 α) .emp (fun s=>s) (Tr.get t n)
noncomputable def GT.get(t:GT α)(n:Nat):Option α:=(t.uR (Nat.div n 1296)).get (pq (Nat.mod n 1296))
noncomputable def GT.set(t:GT α)(n:Nat)(v:α):GT α:=Tr.set t (Nat.div n 1296) ((t.uR (Nat.div n 1296)).set (pq (Nat.mod n 1296)) v)
noncomputable def GT.gr(t:GT α)(n:Nat)(v:α)(c:GT α→β):β:=(t.uR (Nat.div n 1296)).gr (pq (Nat.mod n 1296)) v fun s=>(Tr.set t (Nat.div n 1296) s).seq c
theorem GT.j6(t:GT α)(n:Nat)(v:α)(c:GT α→β):t.gr n v c=c (t.set n v):=by
 unfold GT.gr;rw[T4.j6];exact Tr.seq_eq (α:=T4 α) _ c
def GT.emp:GT α:=Tr.leaf
theorem GT.rQ(n:Nat):(GT.emp:GT α).get n=none:=T4.rQ _
theorem GT.ats(t:Tr (T4 α))(n k:Nat)(s:T4 α):(Option.rec (motive:=fun _=>T4 α) .emp (fun s=>s) (Tr.get (Tr.set t n s) k):T4 α)=if k=n then s else Option.rec (motive:=fun _=>T4 α) .emp (fun s=>s) (Tr.get t k):=by
 rw[Tr.eO]
 split
 ·rfl
 rfl
theorem GT.eO(t:GT α)(n k:Nat)(v:α):(t.set n v).get k=if k=n then some v else t.get k:=by
 have h:(t.set n v).uR (k/1296)=if k/1296=n/1296 then(t.uR (n/1296)).set (pq (n % 1296)) v else t.uR (k/1296):=GT.ats t _ _ _
 show((t.set n v).uR (k/1296)).get (pq (k % 1296))=if k=n then some v else(t.uR (k/1296)).get (pq (k % 1296))
 rw[h]
 by_cases e:k/1296=n/1296
 ·rw[aq e,T4.eO,e]
  by_cases e2:k % 1296=n % 1296
  ·rw[aq (by rw[e2]),aq (by omega)]
  rw[aj (fun h=>e2 (UG h)),aj (by omega)]
 rw[aj e,aj (by omega)]
end
abbrev Env:=T4 an
def ah:Key:=.mk .d0 .d0 .d0 .d0
def aW:Key:=.mk .d1 .d0 .d0 .d0
def aB:Key:=.mk .d2 .d0 .d0 .d0
def aA:Key:=.mk .d3 .d0 .d0 .d0
def au:Key:=.mk .d4 .d0 .d0 .d0
def aw:Key:=.mk .d5 .d0 .d0 .d0
def aE:Key:=.mk .d0 .d1 .d0 .d0
def aG:Key:=.mk .d1 .d1 .d0 .d0
def aC:Key:=.mk .d2 .d1 .d0 .d0
def aK:Key:=.mk .d3 .d1 .d0 .d0
def aP:Key:=.mk .d4 .d1 .d0 .d0
def aS:Key:=.mk .d5 .d1 .d0 .d0
def aR:Key:=.mk .d0 .d2 .d0 .d0
def aV:Key:=.mk .d1 .d2 .d0 .d0
def aX:Key:=.mk .d2 .d2 .d0 .d0
def bb:Key:=.mk .d3 .d2 .d0 .d0
def bg:Key:=.mk .d4 .d2 .d0 .d0
def bl:Key:=.mk .d5 .d2 .d0 .d0
def bj:Key:=.mk .d0 .d3 .d0 .d0
def bt:Key:=.mk .d1 .d3 .d0 .d0
def bn:Key:=.mk .d2 .d3 .d0 .d0
def bx:Key:=.mk .d3 .d3 .d0 .d0
def bK:Key:=.mk .d4 .d3 .d0 .d0
def bQ:Key:=.mk .d5 .d3 .d0 .d0
def bR:Key:=.mk .d0 .d4 .d0 .d0
def bW:Key:=.mk .d1 .d4 .d0 .d0
def bU:Key:=.mk .d2 .d4 .d0 .d0
def bX:Key:=.mk .d3 .d4 .d0 .d0
def cm:Key:=.mk .d4 .d4 .d0 .d0
def cr:Key:=.mk .d5 .d4 .d0 .d0
def cn:Key:=.mk .d0 .d5 .d0 .d0
def cf:Key:=.mk .d1 .d5 .d0 .d0
def cq:Key:=.mk .d2 .d5 .d0 .d0
def cB:Key:=.mk .d3 .d5 .d0 .d0
def cC:Key:=.mk .d4 .d5 .d0 .d0
def ck:Key:=.mk .d5 .d5 .d0 .d0
def c8:Key:=.mk .d0 .d0 .d1 .d0
def db:Key:=.mk .d1 .d0 .d1 .d0
def de:Key:=.mk .d2 .d0 .d1 .d0
def dr:Key:=.mk .d3 .d0 .d1 .d0
def dF:Key:=.mk .d4 .d0 .d1 .d0
def dK:Key:=.mk .d5 .d0 .d1 .d0
def dw:Key:=.mk .d0 .d1 .d1 .d0
def dL:Key:=.mk .d1 .d1 .d1 .d0
def dH:Key:=.mk .d2 .d1 .d1 .d0
def dO:Key:=.mk .d3 .d1 .d1 .d0
def el:Key:=.mk .d4 .d1 .d1 .d0
def en:Key:=.mk .d5 .d1 .d1 .d0
def eZ:Key:=.mk .d0 .d2 .d1 .d0
def d9:Key:=.mk .d1 .d2 .d1 .d0
def eQ:Key:=.mk .d2 .d2 .d1 .d0
def eg:Key:=.mk .d3 .d2 .d1 .d0
def eH:Key:=.mk .d4 .d2 .d1 .d0
def fO:Key:=.mk .d5 .d2 .d1 .d0
def fx:Key:=.mk .d0 .d3 .d1 .d0
def eV:Key:=.mk .d1 .d3 .d1 .d0
def eR:Key:=.mk .d2 .d3 .d1 .d0
def fg:Key:=.mk .d3 .d3 .d1 .d0
def fy:Key:=.mk .d4 .d3 .d1 .d0
def fh:Key:=.mk .d5 .d3 .d1 .d0
def gf:Key:=.mk .d0 .d4 .d1 .d0
def gj:Key:=.mk .d1 .d4 .d1 .d0
def fr:Key:=.mk .d2 .d4 .d1 .d0
def gu:Key:=.mk .d3 .d4 .d1 .d0
def gk:Key:=.mk .d4 .d4 .d1 .d0
def fR:Key:=.mk .d5 .d4 .d1 .d0
def gm:Key:=.mk .d0 .d5 .d1 .d0
def ig:Key:=.mk .d1 .d5 .d1 .d0
def gE:Key:=.mk .d2 .d5 .d1 .d0
def ij:Key:=.mk .d3 .d5 .d1 .d0
def iP:Key:=.mk .d4 .d5 .d1 .d0
def iF:Key:=.mk .d5 .d5 .d1 .d0
def jf:Key:=.mk .d0 .d0 .d2 .d0
def iQ:Key:=.mk .d1 .d0 .d2 .d0
def jT:Key:=.mk .d2 .d0 .d2 .d0
def iA:Key:=.mk .d3 .d0 .d2 .d0
def ke:Key:=.mk .d4 .d0 .d2 .d0
def kx:Key:=.mk .d5 .d0 .d2 .d0
def jB:Key:=.mk .d0 .d1 .d2 .d0
def ld:Key:=.mk .d1 .d1 .d2 .d0
def jC:Key:=.mk .d2 .d1 .d2 .d0
def lX:Key:=.mk .d3 .d1 .d2 .d0
def lY:Key:=.mk .d4 .d1 .d2 .d0
def mo:Key:=.mk .d5 .d1 .d2 .d0
def kf:Key:=.mk .d0 .d2 .d2 .d0
def mJ:Key:=.mk .d1 .d2 .d2 .d0
def mK:Key:=.mk .d2 .d2 .d2 .d0
def mL:Key:=.mk .d3 .d2 .d2 .d0
def ky:Key:=.mk .d4 .d2 .d2 .d0
def mM:Key:=.mk .d5 .d2 .d2 .d0
def mN:Key:=.mk .d0 .d3 .d2 .d0
def nN:Key:=.mk .d1 .d3 .d2 .d0
def mO:Key:=.mk .d2 .d3 .d2 .d0
def mP:Key:=.mk .d3 .d3 .d2 .d0
def nO:Key:=.mk .d4 .d3 .d2 .d0
def nP:Key:=.mk .d5 .d3 .d2 .d0
def mq:Key:=.mk .d0 .d4 .d2 .d0
def pT:Key:=.mk .d1 .d4 .d2 .d0
def pU:Key:=.mk .d2 .d4 .d2 .d0
def rh:Key:=.mk .d3 .d4 .d2 .d0
def tN:Key:=.mk .d4 .d4 .d2 .d0
def tO:Key:=.mk .d5 .d4 .d2 .d0
def pL:Key:=.mk .d0 .d5 .d2 .d0
def tP:Key:=.mk .d1 .d5 .d2 .d0
def tQ:Key:=.mk .d2 .d5 .d2 .d0
def tR:Key:=.mk .d3 .d5 .d2 .d0
def tS:Key:=.mk .d4 .d5 .d2 .d0
def tT:Key:=.mk .d5 .d5 .d2 .d0
def tU:Key:=.mk .d0 .d0 .d3 .d0
def tV:Key:=.mk .d1 .d0 .d3 .d0
def tZ:Key:=.mk .d2 .d0 .d3 .d0
def m6:Key:=.mk .d3 .d0 .d3 .d0
def t6:Key:=.mk .d4 .d0 .d3 .d0
def t7:Key:=.mk .d5 .d0 .d3 .d0
def t8:Key:=.mk .d0 .d1 .d3 .d0
def nH:Key:=.mk .d1 .d1 .d3 .d0
def ua:Key:=.mk .d2 .d1 .d3 .d0
def ub:Key:=.mk .d3 .d1 .d3 .d0
def uc:Key:=.mk .d4 .d1 .d3 .d0
def ud:Key:=.mk .d5 .d1 .d3 .d0
def m7:Key:=.mk .d0 .d2 .d3 .d0
def oJ:Key:=.mk .d1 .d2 .d3 .d0
def ue:Key:=.mk .d2 .d2 .d3 .d0
def vP:Key:=.mk .d3 .d2 .d3 .d0
def uf:Key:=.mk .d4 .d2 .d3 .d0
def vQ:Key:=.mk .d5 .d2 .d3 .d0
def ug:Key:=.mk .d0 .d3 .d3 .d0
def uh:Key:=.mk .d1 .d3 .d3 .d0
def qm:Key:=.mk .d2 .d3 .d3 .d0
def m8:Key:=.mk .d3 .d3 .d3 .d0
def ui:Key:=.mk .d4 .d3 .d3 .d0
def uj:Key:=.mk .d5 .d3 .d3 .d0
def xF:Key:=.mk .d0 .d4 .d3 .d0
def xG:Key:=.mk .d1 .d4 .d3 .d0
def xH:Key:=.mk .d2 .d4 .d3 .d0
def xI:Key:=.mk .d3 .d4 .d3 .d0
def xJ:Key:=.mk .d4 .d4 .d3 .d0
def xK:Key:=.mk .d5 .d4 .d3 .d0
def oO:Key:=.mk .d0 .d5 .d3 .d0
def xL:Key:=.mk .d1 .d5 .d3 .d0
def xM:Key:=.mk .d2 .d5 .d3 .d0
def xN:Key:=.mk .d3 .d5 .d3 .d0
def xO:Key:=.mk .d4 .d5 .d3 .d0
def CV:Key:=.mk .d5 .d5 .d3 .d0
def G5:Key:=.mk .d0 .d0 .d4 .d0
def CW:Key:=.mk .d1 .d0 .d4 .d0
def CX:Key:=.mk .d2 .d0 .d4 .d0
def CY:Key:=.mk .d3 .d0 .d4 .d0
def CZ:Key:=.mk .d4 .d0 .d4 .d0
def C1:Key:=.mk .d5 .d0 .d4 .d0
def G6:Key:=.mk .d0 .d1 .d4 .d0
def C2:Key:=.mk .d1 .d1 .d4 .d0
def C3:Key:=.mk .d2 .d1 .d4 .d0
def C4:Key:=.mk .d3 .d1 .d4 .d0
def C5:Key:=.mk .d4 .d1 .d4 .d0
def C6:Key:=.mk .d5 .d1 .d4 .d0
def C7:Key:=.mk .d0 .d2 .d4 .d0
def C8:Key:=.mk .d1 .d2 .d4 .d0
def C9:Key:=.mk .d2 .d2 .d4 .d0
def Da:Key:=.mk .d3 .d2 .d4 .d0
def Db:Key:=.mk .d4 .d2 .d4 .d0
def Dc:Key:=.mk .d5 .d2 .d4 .d0
def Dd:Key:=.mk .d0 .d3 .d4 .d0
def De:Key:=.mk .d1 .d3 .d4 .d0
def Df:Key:=.mk .d2 .d3 .d4 .d0
def Dg:Key:=.mk .d3 .d3 .d4 .d0
def Dh:Key:=.mk .d4 .d3 .d4 .d0
def Di:Key:=.mk .d5 .d3 .d4 .d0
def Dj:Key:=.mk .d0 .d4 .d4 .d0
def Dk:Key:=.mk .d1 .d4 .d4 .d0
def Dl:Key:=.mk .d2 .d4 .d4 .d0
def Dm:Key:=.mk .d3 .d4 .d4 .d0
def Dn:Key:=.mk .d4 .d4 .d4 .d0
def G7:Key:=.mk .d5 .d4 .d4 .d0
def Dp:Key:=.mk .d0 .d5 .d4 .d0
def Dq:Key:=.mk .d1 .d5 .d4 .d0
def Dr:Key:=.mk .d2 .d5 .d4 .d0
def Ds:Key:=.mk .d3 .d5 .d4 .d0
def Dt:Key:=.mk .d4 .d5 .d4 .d0
def Du:Key:=.mk .d5 .d5 .d4 .d0
def Dv:Key:=.mk .d0 .d0 .d5 .d0
def Dw:Key:=.mk .d1 .d0 .d5 .d0
def Dx:Key:=.mk .d2 .d0 .d5 .d0
def Dy:Key:=.mk .d3 .d0 .d5 .d0
def Dz:Key:=.mk .d4 .d0 .d5 .d0
def DA:Key:=.mk .d5 .d0 .d5 .d0
def qY:Key:=.mk .d0 .d1 .d5 .d0
def DB:Key:=.mk .d1 .d1 .d5 .d0
def DD:Key:=.mk .d2 .d1 .d5 .d0
def DE:Key:=.mk .d3 .d1 .d5 .d0
def DF:Key:=.mk .d4 .d1 .d5 .d0
def DG:Key:=.mk .d5 .d1 .d5 .d0
def DH:Key:=.mk .d0 .d2 .d5 .d0
def DI:Key:=.mk .d1 .d2 .d5 .d0
def DJ:Key:=.mk .d2 .d2 .d5 .d0
def DK:Key:=.mk .d3 .d2 .d5 .d0
def DL:Key:=.mk .d4 .d2 .d5 .d0
def DM:Key:=.mk .d5 .d2 .d5 .d0
def DN:Key:=.mk .d0 .d3 .d5 .d0
def DO:Key:=.mk .d1 .d3 .d5 .d0
def DP:Key:=.mk .d2 .d3 .d5 .d0
def DQ:Key:=.mk .d3 .d3 .d5 .d0
def DR:Key:=.mk .d4 .d3 .d5 .d0
def DS:Key:=.mk .d5 .d3 .d5 .d0
def DT:Key:=.mk .d0 .d4 .d5 .d0
def G8:Key:=.mk .d1 .d4 .d5 .d0
def DU:Key:=.mk .d2 .d4 .d5 .d0
def DV:Key:=.mk .d3 .d4 .d5 .d0
def DW:Key:=.mk .d4 .d4 .d5 .d0
def DX:Key:=.mk .d5 .d4 .d5 .d0
def DY:Key:=.mk .d0 .d5 .d5 .d0
def DZ:Key:=.mk .d1 .d5 .d5 .d0
def D0:Key:=.mk .d2 .d5 .d5 .d0
def MS:Key:=.mk .d3 .d5 .d5 .d0
def MT:Key:=.mk .d4 .d5 .d5 .d0
def MU:Key:=.mk .d5 .d5 .d5 .d0
def MV:Key:=.mk .d0 .d0 .d0 .d1
def MW:Key:=.mk .d1 .d0 .d0 .d1
def MX:Key:=.mk .d2 .d0 .d0 .d1
def MY:Key:=.mk .d3 .d0 .d0 .d1
def MZ:Key:=.mk .d4 .d0 .d0 .d1
def M0:Key:=.mk .d5 .d0 .d0 .d1
def M1:Key:=.mk .d0 .d1 .d0 .d1
def uk:Key:=.mk .d1 .d1 .d0 .d1
def M3:Key:=.mk .d2 .d1 .d0 .d1
def M4:Key:=.mk .d3 .d1 .d0 .d1
def M5:Key:=.mk .d4 .d1 .d0 .d1
def M6:Key:=.mk .d5 .d1 .d0 .d1
def M7:Key:=.mk .d0 .d2 .d0 .d1
def M8:Key:=.mk .d1 .d2 .d0 .d1
def M9:Key:=.mk .d2 .d2 .d0 .d1
def um:Key:=.mk .d3 .d2 .d0 .d1
def M':Key:=.mk .d4 .d2 .d0 .d1
def Na:Key:=.mk .d5 .d2 .d0 .d1
def Nb:Key:=.mk .d0 .d3 .d0 .d1
def Nc:Key:=.mk .d1 .d3 .d0 .d1
def Nd:Key:=.mk .d2 .d3 .d0 .d1
def Nf:Key:=.mk .d3 .d3 .d0 .d1
def Ng:Key:=.mk .d4 .d3 .d0 .d1
def Nh:Key:=.mk .d5 .d3 .d0 .d1
def Ni:Key:=.mk .d0 .d4 .d0 .d1
def Nj:Key:=.mk .d1 .d4 .d0 .d1
def Nk:Key:=.mk .d2 .d4 .d0 .d1
def Nl:Key:=.mk .d3 .d4 .d0 .d1
def Nm:Key:=.mk .d4 .d4 .d0 .d1
def Nn:Key:=.mk .d5 .d4 .d0 .d1
def No:Key:=.mk .d0 .d5 .d0 .d1
def Np:Key:=.mk .d1 .d5 .d0 .d1
def Nq:Key:=.mk .d2 .d5 .d0 .d1
def Nr:Key:=.mk .d3 .d5 .d0 .d1
def Ns:Key:=.mk .d4 .d5 .d0 .d1
def Nt:Key:=.mk .d5 .d5 .d0 .d1
def Nu:Key:=.mk .d0 .d0 .d1 .d1
def Nv:Key:=.mk .d1 .d0 .d1 .d1
def Nw:Key:=.mk .d2 .d0 .d1 .d1
def Nx:Key:=.mk .d3 .d0 .d1 .d1
def Ny:Key:=.mk .d4 .d0 .d1 .d1
def Nz:Key:=.mk .d5 .d0 .d1 .d1
def NA:Key:=.mk .d0 .d1 .d1 .d1
def mE:Key:=.mk .d1 .d1 .d1 .d1
def NB:Key:=.mk .d2 .d1 .d1 .d1
def NC:Key:=.mk .d3 .d1 .d1 .d1
def ND:Key:=.mk .d4 .d1 .d1 .d1
def NF:Key:=.mk .d5 .d1 .d1 .d1
def NG:Key:=.mk .d0 .d2 .d1 .d1
def NH:Key:=.mk .d1 .d2 .d1 .d1
def NI:Key:=.mk .d2 .d2 .d1 .d1
def NJ:Key:=.mk .d3 .d2 .d1 .d1
def NK:Key:=.mk .d4 .d2 .d1 .d1
def NL:Key:=.mk .d5 .d2 .d1 .d1
def NM:Key:=.mk .d0 .d3 .d1 .d1
def NN:Key:=.mk .d1 .d3 .d1 .d1
def NO:Key:=.mk .d2 .d3 .d1 .d1
def NP:Key:=.mk .d3 .d3 .d1 .d1
def NQ:Key:=.mk .d4 .d3 .d1 .d1
inductive RT where
 |emp
 |one (x:List an)
 |many (s:GT (List an))
noncomputable def RT.get(t:RT)(n:Nat):Option (List an):=
 RT.rec (motive:=fun _=>Nat→Option (List an)) (fun _=>none) (fun x n=>Nat.rec (motive:=fun _=>Option (List an)) (some x) (fun _ _=>none) n) GT.get t n
noncomputable def RT.set(t:RT)(n:Nat)(v:List an):RT:=
 RT.rec (motive:=fun _=>Nat→List an→RT) (fun n v=>Nat.rec (motive:=fun _=>RT) (.one v) (fun m _=>.many (GT.emp.set (Nat.succ m) v)) n)
  (fun x n v=>Nat.rec (motive:=fun _=>RT) (.one v) (fun m _=>.many ((GT.emp.set 0 x).set (Nat.succ m) v)) n) (fun s n v=>.many (s.set n v)) t n v
theorem RT.eO(t:RT)(n k:Nat)(v:List an):(t.set n v).get k=if k=n then some v else t.get k:=by
 cases t with
 |emp=>cases n with
  |zero=>cases k<;>rfl
  |succ n=>exact(GT.eO GT.emp (n+1) k v).trans (by rw[GT.rQ];rfl)
 |one x=>cases n with
  |zero=>cases k<;>rfl
  |succ n=>
   refine(GT.eO (GT.emp.set 0 x) (n+1) k v).trans ?_
   rw[GT.eO,GT.rQ]
   cases k<;>rfl
 |many s=>exact GT.eO s n k v
inductive dP where
 |row (elem es aQ n lo fl:Nat) (cs:RT)
 |map (es:List (an×an))
abbrev HT:=GT dP
structure az where
 next:Nat
 bc:Nat
 ws:List Nat
 t:HT
inductive aF where
 |t (n:Key)
 |c (v:an)
inductive yA where
 |bool|ptr|agg (ks:List Nat)|slice|iface|func|map
inductive bE where
 |nV (x:aF)
 |pick (c a b:aF)
 |ca (elem es aQ:Nat) (cells:List an)
 |box (elem es aQ:Nat) (x:aF)
 |load (n:Nat) (agg:Bool) (a:aF)
 |store (n:Nat) (a x:aF)
 |bin (op:BinOp) (x y:aF)
 |eqv (c:yA) (neg:Bool) (x y:aF)
 |un (op:UnOp) (x:aF)
 |nQ (x:aF) (k:Nat)
 |sub (x:aF) (off n:Nat) (agg:Bool)
 |lr (len es:Nat) (x i:aF)
 |fm (es:Nat) (x i:aF)
 |zF (len es:Nat) (agg:Bool) (x i:aF)
 |rZ (x i:aF)
 |iM (x:aF) (lo hi:Option aF)
 |AD (es:Nat) (x:aF) (lo hi:Option aF)
 |vR (len es:Nat) (x:aF) (lo hi:Option aF)
 |ri (x:aF) (i:Nat)
 |oR (x:aF)
 |nR (f:Nat) (first eD:List aF)
 |uJ (t:Nat) (x:aF)
 |yg (elem es aQ:Nat) (zero:List an) (len cap:aF)
 |build (zero:List an) (parts:List (Nat×Nat×aF))
 |cY (elem es aQ len:Nat) (zero:List an) (parts:List (Nat×aF))
 |len (x:aF)
 |AE (n:Nat)
 |o3 (x:aF)
 |app (elem es aQ:Nat) (x y:aF)
 |tC (elem:Nat) (x y:aF)
 |copy (es:Nat) (x y:aF)
 |zG (mx:Bool) (x:aF) (ys:List aF)
 |conv (k:IntKind) (x:aF)
 |Cx (x:aF)
 |xi (elem:Nat) (x:aF)
 |qS (x:aF)
 |call (f:Nat) (args:List aF)
 |mF (x:aF) (args:List aF)
 |qn (t n:Nat) (x:aF)
 |uS (x:aF)
 |qu (e:Nat) (x n:aF)
structure bo where
 dst:Option Key
 g:Option (Key×Bool)
 q:Option (List Nat)
 op:bE
inductive lG where
 |tmp (t:Key)
 |cell (a:Key) (n:Nat) (agg:Bool)
inductive IC where
 |skip
 |region (draw:Bool) (ops:List bo)
 |seq (a b:IC)
 |cond (c:aF) (a b:IC)
 |block (id:Nat) (b:IC)
 |loop (b:IC)
 |exit (id:Nat)
 |ret
structure bD where
 nt:Nat
 ps:List Key
 res:List lG
 body:IC
inductive aD where
 |ok (v:an) (H:az)
 |err (n:Nat)
inductive eA where
 |ok (E:Env) (H:az)
 |err (n:Nat)
inductive Ex where
 |normal|exit (id:Nat)|ret
inductive Out where
 |ok (x:Ex) (E:Env) (H:az)
 |err (n:Nat)
noncomputable def T4.yh(E:Env)(key:Key)(v:an)(c:Env→eA):eA:=E.gr key v c
theorem T4.zi(E:Env)(key:Key)(v:an)(c:Env→eA):E.yh key v c=c (E.set key v):=T4.j6 E key v c
noncomputable def RT.gr(t:RT)(n:Nat)(v:List an)(c:RT→aD):aD:=
 RT.rec (motive:=fun _=>Nat→List an→(RT→aD)→aD) (fun n v c=>Nat.rec (motive:=fun _=>aD) (c (.one v)) (fun m _=>GT.emp.gr (Nat.succ m) v fun s=>c (.many s)) n)
  (fun x n v c=>Nat.rec (motive:=fun _=>aD) (c (.one v)) (fun m _=>GT.emp.gr 0 x fun s=>s.gr (Nat.succ m) v fun s=>c (.many s)) n) (fun s n v c=>s.gr n v fun s=>c (.many s)) t n v c
theorem RT.j6(t:RT)(n:Nat)(v:List an)(c:RT→aD):t.gr n v c=c (t.set n v):=by
 cases t with
 |emp=>cases n with
  |zero=>rfl
  |succ n=>exact GT.j6 _ _ _ _
 |one x=>cases n with
  |zero=>rfl
  |succ n=>exact(GT.j6 _ _ _ _).trans (GT.j6 _ _ _ _)
 |many s=>exact GT.j6 _ _ _ _
noncomputable def mB(v:an)(k:an→aD):aD:=
 an.rec (motive_1:=fun _=>(an→aD)→aD) (motive_2:=fun _=>Unit) (fun b z=>Bool.rec (motive:=fun _=>aD) (z (.bool false)) (z (.bool true)) b) (fun k n z=>kV n fun n=>z (.int k n)) (fun l v z=>dp l fun l=>dp v fun v=>z (.str l v)) (fun f g o z=>dp f fun f=>dp g fun g=>dp o fun o=>z (.ptr f g o)) (fun z=>z (.hY)) (fun f g o l es z=>dp f fun f=>dp g fun g=>dp o fun o=>dp l fun l=>z (.slice f g o l es)) (fun z=>z (.cb)) (fun cs _ z=>z (.agg cs)) (fun vs _ z=>z (.tuple vs)) (fun f A eD _ _ z=>z (.func f A eD)) (fun z=>z (.nC)) (fun t v _ z=>z (.iface t v)) (fun z=>z (.gA)) (fun f z=>z (.map f)) (fun z=>z (.tA)) (fun z=>z (.undef)) () (fun _ _ _ _=>()) v k
theorem ta(v:an)(k:an→aD):mB v k=k v:=by
 cases v<;>simp[mB,rJ,iq]
 rename_i b;cases b<;>rfl
noncomputable def aH{β:Type}(b:Bool)(k e:β):β:=Bool.rec (motive:=fun _=>β) e k b
noncomputable def ob{α β:Type}(o:Option α)(e:β)(k:α→β):β:=Option.rec (motive:=fun _=>β) e k o
noncomputable def mZ{β:Type}(b:Bool)(k:Bool→β):β:=Bool.rec (motive:=fun _=>β) (k false) (k true) b
noncomputable def r4(v:an)(e:aD)(k:Bool→aD):aD:=
 an.rec (motive_1:=fun _=>aD→(Bool→aD)→aD) (motive_2:=fun _=>Unit) (fun b e z=>z b) (fun _ _ e _=>e) (fun _ _ e _=>e) (fun _ _ _ e _=>e) (fun e _=>e) (fun _ _ _ _ _ e _=>e) (fun e _=>e) (fun _ _ e _=>e) (fun _ _ e _=>e) (fun _ _ _ _ _ e _=>e) (fun e _=>e) (fun _ _ _ e _=>e) (fun e _=>e) (fun _ e _=>e) (fun e _=>e) (fun e _=>e) () (fun _ _ _ _=>()) v e k
noncomputable def wb(v:an)(s:eA)(k:Bool→eA):eA:=
 an.rec (motive_1:=fun _=>eA→(Bool→eA)→eA) (motive_2:=fun _=>Unit) (fun b e z=>z b) (fun _ _ _ _=>.err 51) (fun _ _ _ _=>.err 51) (fun _ _ _ _ _=>.err 51) (fun _ _=>.err 51) (fun _ _ _ _ _ _ _=>.err 51) (fun _ _=>.err 51) (fun _ _ _ _=>.err 51) (fun _ _ _ _=>.err 51) (fun _ _ _ _ _ _ _=>.err 51) (fun _ _=>.err 51) (fun _ _ _ _ _=>.err 51) (fun _ _=>.err 51) (fun _ _ _=>.err 51) (fun _ _=>.err 51) (fun s _=>s) () (fun _ _ _ _=>()) v s k
noncomputable def Lp(v:an)(e:Out)(k:Bool→Out):Out:=
 an.rec (motive_1:=fun _=>Out→(Bool→Out)→Out) (motive_2:=fun _=>Unit) (fun b e z=>z b) (fun _ _ e _=>e) (fun _ _ e _=>e) (fun _ _ _ e _=>e) (fun e _=>e) (fun _ _ _ _ _ e _=>e) (fun e _=>e) (fun _ _ e _=>e) (fun _ _ e _=>e) (fun _ _ _ _ _ e _=>e) (fun e _=>e) (fun _ _ _ e _=>e) (fun e _=>e) (fun _ e _=>e) (fun e _=>e) (fun e _=>e) () (fun _ _ _ _=>()) v e k
noncomputable def gN(v:an)(e:aD)(k:IntKind→Int→aD):aD:=
 an.rec (motive_1:=fun _=>aD→(IntKind→Int→aD)→aD) (motive_2:=fun _=>Unit) (fun _ e _=>e) (fun k n e z=>z k n) (fun _ _ e _=>e) (fun _ _ _ e _=>e) (fun e _=>e) (fun _ _ _ _ _ e _=>e) (fun e _=>e) (fun _ _ e _=>e) (fun _ _ e _=>e) (fun _ _ _ _ _ e _=>e) (fun e _=>e) (fun _ _ _ e _=>e) (fun e _=>e) (fun _ e _=>e) (fun e _=>e) (fun e _=>e) () (fun _ _ _ _=>()) v e k
noncomputable def jQ(v:an)(e:aD)(k:Nat→Nat→aD):aD:=
 an.rec (motive_1:=fun _=>aD→(Nat→Nat→aD)→aD) (motive_2:=fun _=>Unit) (fun _ e _=>e) (fun _ _ e _=>e) (fun l v e z=>z l v) (fun _ _ _ e _=>e) (fun e _=>e) (fun _ _ _ _ _ e _=>e) (fun e _=>e) (fun _ _ e _=>e) (fun _ _ e _=>e) (fun _ _ _ _ _ e _=>e) (fun e _=>e) (fun _ _ _ e _=>e) (fun e _=>e) (fun _ e _=>e) (fun e _=>e) (fun e _=>e) () (fun _ _ _ _=>()) v e k
noncomputable def iv(v:an)(e:aD)(k:Nat→Nat→Nat→aD):aD:=
 an.rec (motive_1:=fun _=>aD→(Nat→Nat→Nat→aD)→aD) (motive_2:=fun _=>Unit) (fun _ e _=>e) (fun _ _ e _=>e) (fun _ _ e _=>e) (fun f g o e z=>z f g o) (fun e _=>e) (fun _ _ _ _ _ e _=>e) (fun e _=>e) (fun _ _ e _=>e) (fun _ _ e _=>e) (fun _ _ _ _ _ e _=>e) (fun e _=>e) (fun _ _ _ e _=>e) (fun e _=>e) (fun _ e _=>e) (fun e _=>e) (fun e _=>e) () (fun _ _ _ _=>()) v e k
noncomputable def gU(v:an)(e n:aD)(k:Nat→Nat→Nat→Nat→Nat→aD):aD:=
 an.rec (motive_1:=fun _=>aD→aD→(Nat→Nat→Nat→Nat→Nat→aD)→aD) (motive_2:=fun _=>Unit) (fun _ e _ _=>e) (fun _ _ e _ _=>e) (fun _ _ e _ _=>e) (fun _ _ _ e _ _=>e) (fun e _ _=>e) (fun f g o l es e _ z=>z f g o l es) (fun _ n _=>n) (fun _ _ e _ _=>e) (fun _ _ e _ _=>e) (fun _ _ _ _ _ e _ _=>e) (fun e _ _=>e) (fun _ _ _ e _ _=>e) (fun e _ _=>e) (fun _ e _ _=>e) (fun e _ _=>e) (fun e _ _=>e) () (fun _ _ _ _=>()) v e n k
noncomputable def oT(v:an)(e:aD)(k:List an→aD):aD:=
 an.rec (motive_1:=fun _=>aD→(List an→aD)→aD) (motive_2:=fun _=>Unit) (fun _ e _=>e) (fun _ _ e _=>e) (fun _ _ e _=>e) (fun _ _ _ e _=>e) (fun e _=>e) (fun _ _ _ _ _ e _=>e) (fun e _=>e) (fun cs _ e z=>z cs) (fun _ _ e _=>e) (fun _ _ _ _ _ e _=>e) (fun e _=>e) (fun _ _ _ e _=>e) (fun e _=>e) (fun _ e _=>e) (fun e _=>e) (fun e _=>e) () (fun _ _ _ _=>()) v e k
noncomputable def rR(v:an)(e:aD)(k:List an→aD):aD:=
 an.rec (motive_1:=fun _=>aD→(List an→aD)→aD) (motive_2:=fun _=>Unit) (fun _ e _=>e) (fun _ _ e _=>e) (fun _ _ e _=>e) (fun _ _ _ e _=>e) (fun e _=>e) (fun _ _ _ _ _ e _=>e) (fun e _=>e) (fun _ _ e _=>e) (fun vs _ e z=>z vs) (fun _ _ _ _ _ e _=>e) (fun e _=>e) (fun _ _ _ e _=>e) (fun e _=>e) (fun _ e _=>e) (fun e _=>e) (fun e _=>e) () (fun _ _ _ _=>()) v e k
noncomputable def tD(v:an)(e:aD)(k:Nat→List an→List an→aD):aD:=
 an.rec (motive_1:=fun _=>aD→(Nat→List an→List an→aD)→aD) (motive_2:=fun _=>Unit) (fun _ e _=>e) (fun _ _ e _=>e) (fun _ _ e _=>e) (fun _ _ _ e _=>e) (fun e _=>e) (fun _ _ _ _ _ e _=>e) (fun e _=>e) (fun _ _ e _=>e) (fun _ _ e _=>e) (fun f z eD _ _ e A=>A f z eD) (fun e _=>e) (fun _ _ _ e _=>e) (fun e _=>e) (fun _ e _=>e) (fun e _=>e) (fun e _=>e) () (fun _ _ _ _=>()) v e k
noncomputable def Mf(v:an)(e:Option Nat)(k:IntKind→Int→Option Nat):Option Nat:=
 an.rec (motive_1:=fun _=>Option Nat→(IntKind→Int→Option Nat)→Option Nat) (motive_2:=fun _=>Unit) (fun _ e _=>e) (fun k n e z=>z k n) (fun _ _ e _=>e) (fun _ _ _ e _=>e) (fun e _=>e) (fun _ _ _ _ _ e _=>e) (fun e _=>e) (fun _ _ e _=>e) (fun _ _ e _=>e) (fun _ _ _ _ _ e _=>e) (fun e _=>e) (fun _ _ _ e _=>e) (fun e _=>e) (fun _ e _=>e) (fun e _=>e) (fun e _=>e) () (fun _ _ _ _=>()) v e k
noncomputable def Mg(v:an)(e:Option an)(k:IntKind→Int→Option an):Option an:=
 an.rec (motive_1:=fun _=>Option an→(IntKind→Int→Option an)→Option an) (motive_2:=fun _=>Unit) (fun _ e _=>e) (fun k n e z=>z k n) (fun _ _ e _=>e) (fun _ _ _ e _=>e) (fun e _=>e) (fun _ _ _ _ _ e _=>e) (fun e _=>e) (fun _ _ e _=>e) (fun _ _ e _=>e) (fun _ _ _ _ _ e _=>e) (fun e _=>e) (fun _ _ _ e _=>e) (fun e _=>e) (fun _ e _=>e) (fun e _=>e) (fun e _=>e) () (fun _ _ _ _=>()) v e k
noncomputable def jK(v:an):Option (List an):=
 an.rec (motive_1:=fun _=>Option (List an)) (motive_2:=fun _=>Unit) (fun b=>some [.bool b]) (fun k n=>some [.int k n]) (fun l v=>some [.str l v]) (fun f g o=>some [.ptr f g o]) (some [.hY]) (fun f g o l es=>some [.slice f g o l es]) (some [.cb]) (fun cs _=>some cs) (fun _ _=>none) (fun f z eD _ _=>some [.func f z eD]) (some [.nC]) (fun t v _=>some [.iface t v]) (some [.gA]) (fun f=>some [.map f]) (some [.tA]) (none) () (fun _ _ _ _=>()) v
noncomputable def iU{β:Type}(o:Option dP)(e:β)(k:Nat→Nat→Nat→Nat→Nat→Nat→RT→β):β:=
 Option.rec (motive:=fun _=>β) e (fun o=>dP.casesOn (motive:=fun _=>β) o k (fun _=>e)) o
noncomputable def jd{β:Type}(i:Int)(e:β)(k:Nat→β):β:=Int.rec (motive:=fun _=>β) k (fun _=>e) i
noncomputable def jg(l:List an):Nat:=List.rec (motive:=fun _=>Nat) 0 (fun _ _ z=>Nat.succ z) l
noncomputable def az.alloc(H:az)(o:dP)(k:Nat→az→aD):aD:=
 az.casesOn (motive:=fun _=>aD) H fun next bc ws t=>dp next fun f=>t.gr f o fun t=>k f ⟨Nat.succ f,bc,ws,t⟩
noncomputable def pV(f:Nat)(l:List Nat):Bool:=
 List.rec (motive:=fun _=>Bool) false (fun x _ z=>aH (Nat.beq f x) true z) l
noncomputable def wrote(f bc:Nat)(ws:List Nat):List Nat:=
 aH (Nat.ble bc f) ws (aH (pV f ws) ws (f::ws))
noncomputable def rd{β:Type}(H:az)(f g off n:Nat)(e:β)(k:List an→β):β:=
 iU (H.t.get f) e fun _ es _ m lo _ cs=>
  aH (Nat.ble lo g) (aH (Nat.ble g m) (aH (Nat.ble (Nat.add (Nat.mod off es) n) es) (aH (Nat.ble (Nat.succ (Nat.div off es)) g)
   (ob (cs.get (Nat.div off es)) e fun l=>aH (Nat.beq n es) (k l) (k ((l.drop (Nat.mod off es)).take n))) e) e) e) e
noncomputable def gY(l:List an)(r:Nat)(new:List an):List an:=l.take r++(new++l.drop (r+new.length))
noncomputable def wr(H:az)(f g off n:Nat)(new:List an)(e:aD)(k:az→aD):aD:=
 az.casesOn (motive:=fun _=>aD) H fun next bc ws t=>iU (t.get f) e fun elem es aQ m lo fl cs=>
  aH (Nat.beq fl 0) (aH (Nat.beq g m) (aH (Nat.ble lo g) (aH (Nat.ble (Nat.add (Nat.mod off es) n) es) (aH (Nat.ble (Nat.succ (Nat.div off es)) g) (aH (Nat.beq (jg new) n)
   (ob (cs.get (Nat.div off es)) e fun l=>
    cs.gr (Nat.div off es) (aH (Nat.beq n es) new (gY l (Nat.mod off es) new)) fun cs=>t.gr f (.row elem es aQ m m 0 cs) fun t=>
     k ⟨next,bc,wrote f bc ws,t⟩) e) e) e) e) e) e
def vH(v i:Nat):Nat:=Nat.mod (Nat.shiftRight v (Nat.mul 8 i)) 256
def xj(v lo hi:Nat):Nat:=Nat.mod (Nat.shiftRight v (Nat.mul 8 lo)) (Nat.shiftLeft 1 (Nat.mul 8 (Nat.sub hi lo)))
def zH(z A G:Nat):Nat:=Nat.add A (Nat.shiftLeft G (Nat.mul 8 z))
noncomputable def strLt(J:Nat):Nat→Nat→Nat→Bool:=
 Nat.rec (motive:=fun _=>Nat→Nat→Nat→Bool) (fun _ z _=>Bool.not (Nat.beq z 0))
  (fun _ K A z G=>Nat.rec (motive:=fun _=>Bool) false (fun I _=>
   match Nat.beq (Nat.mod A 256) (Nat.mod G 256) with
   |true=>K (Nat.div A 256) I (Nat.div G 256)
   |false=>Nat.ble (Nat.succ (Nat.mod A 256)) (Nat.mod G 256)) z) J
def pack:List UInt8→Nat
 |[]=>0
 |b::r=>b.toNat+256*pack r
def dk:IntKind→Nat
 |.i8=>0|.i16=>1|.i32=>2|.i64=>3|.u8=>4|.u16=>5|.u32=>6|.u64=>7
def lT(k:IntKind)(n:Int):Int:=
 match k,n with
 |.i64,.ofNat m=>match Nat.ble m 9223372036854775807 with|true=>.ofNat m|false=>IntKind.wrap .i64 (.ofNat m)
 |.i64,.negSucc m=>match Nat.ble m 9223372036854775807 with|true=>.negSucc m|false=>IntKind.wrap .i64 (.negSucc m)
 |k,n=>k.wrap n
def lj:Int→Int→Bool
 |.ofNat a,.ofNat b=>Nat.ble (Nat.succ a) b
 |.ofNat _,.negSucc _=>false
 |.negSucc _,.ofNat _=>true
 |.negSucc a,.negSucc b=>Nat.ble (Nat.succ b) a
def l7:Int→Int→Bool
 |.ofNat a,.ofNat b=>Nat.beq a b
 |.negSucc a,.negSucc b=>Nat.beq a b
 |_,_=>false
def intBits(op:BinOp)(k:IntKind)(x y:Int):Option Int:=
 let a:=BitVec.ofInt k.bits x
 let b:=BitVec.ofInt k.bits y
 match op with
 |.and=>some (k.wrap ((a&&&b).toNat))
 |.or=>some (k.wrap ((a|||b).toNat))
 |.xor=>some (k.wrap ((a^^^b).toNat))
 |.andNot=>some (k.wrap ((a&&&~~~b).toNat))
 |_=>none
noncomputable def iT(op:BinOp)(k:IntKind)(a:Int)(z:IntKind)(b:Int):Option an:=
 match op with
 |.shl=>aH (lj b 0) none (some (.int k (lT k (a*2^(Nat.min b.toNat k.bits)))))
 |.shr=>aH (lj b 0) none (some (.int k (a.fdiv (2^(Nat.min b.toNat k.bits)))))
 |.add=>aH (Nat.beq (dk k) (dk z)) (some (.int k (lT k (a+b)))) none
 |.sub=>aH (Nat.beq (dk k) (dk z)) (some (.int k (lT k (a-b)))) none
 |.mul=>aH (Nat.beq (dk k) (dk z)) (some (.int k (lT k (a*b)))) none
 |.quo=>aH (Nat.beq (dk k) (dk z)) (aH (l7 b 0) none (some (.int k (lT k (a.tdiv b))))) none
 |.rem=>aH (Nat.beq (dk k) (dk z)) (aH (l7 b 0) none (some (.int k (a.tmod b)))) none
 |.eql=>aH (Nat.beq (dk k) (dk z)) (some (.bool (l7 a b))) none
 |.neq=>aH (Nat.beq (dk k) (dk z)) (some (.bool (Bool.not (l7 a b)))) none
 |.lss=>aH (Nat.beq (dk k) (dk z)) (some (.bool (lj a b))) none
 |.leq=>aH (Nat.beq (dk k) (dk z)) (some (.bool (Bool.not (lj b a)))) none
 |.gtr=>aH (Nat.beq (dk k) (dk z)) (some (.bool (lj b a))) none
 |.geq=>aH (Nat.beq (dk k) (dk z)) (some (.bool (Bool.not (lj a b)))) none
 |op=>aH (Nat.beq (dk k) (dk z)) (ob (intBits op k a b) none fun r=>some (.int k r)) none
def qZ(z A G I:Nat):Bool:=match Nat.beq z G with|true=>Nat.beq A I|false=>false
noncomputable def GF(op:BinOp)(z G A I:Nat):Option an:=
 match op with
 |.add=>aH (Nat.ble (Nat.add z A) 4611686018427387904) (some (.str (Nat.add z A) (zH z G I))) none
 |.eql=>some (.bool (qZ z G A I))
 |.neq=>some (.bool (Bool.not (qZ z G A I)))
 |.lss=>some (.bool (strLt z G A I))
 |.leq=>some (.bool (Bool.not (strLt A I z G)))
 |.gtr=>some (.bool (strLt A I z G))
 |.geq=>some (.bool (Bool.not (strLt z G A I)))
 |_=>none
noncomputable def AF(op:BinOp)(x y:an):Option an:=
 match x,y with
 |.int k a,.int z b=>iT op k a z b
 |.str A G,.str I J=>GF op A G I J
 |_,_=>none
noncomputable def EU(op:UnOp)(x:an):Option an:=
 match op,x with
 |.neg,.int k n=>some (.int k (lT k (0-n)))
 |.xor,.int k n=>ob (intBits .xor k (if k.signed then-1 else k.max) n) none fun r=>some (.int k r)
 |.not,.bool b=>some (.bool (Bool.not b))
 |_,_=>none
def r5(c:Nat):an→Bool
 |.int k _=>Nat.beq (dk k) c
 |.bool _=>Nat.beq c 100
 |.str _ _=>Nat.beq c 101
 |_=>false
def kH:List Nat→List an→Bool
 |[],[]=>true
 |c::r,a::s=>r5 c a&&kH r s
 |_,_=>false
def wP:an→an→Option Bool
 |.int k a,.int z b=>match Nat.beq (dk k) (dk z) with|true=>some (l7 a b)|false=>none
 |.bool a,.bool b=>some (a==b)
 |.str A G,.str I J=>some (qZ A G I J)
 |_,_=>none
def qc:List an→List an→Option Bool
 |[],[]=>some true
 |a::r,b::s=>match wP a b with
  |some true=>qc r s
  |some false=>match qc r s with|some _=>some false|none=>none
  |none=>none
 |_,_=>none
noncomputable def ns(c:yA)(x y:an):Option Bool:=
 match c with
 |.bool=>match x,y with|.bool a,.bool b=>some (a==b)|_,_=>none
 |.ptr=>match x,y with
  |.hY,.hY=>some true
  |.hY,.ptr _ _ _=>some false
  |.ptr _ _ _,.hY=>some false
  |.ptr f g o,.ptr f' g' z=>aH (Nat.beq f f') (aH (Nat.beq g g') (aH (Nat.beq o z) (some true) none) none) none
  |_,_=>none
 |.agg ks=>match x,y with|.agg a,.agg b=>aH (kH ks a) (aH (kH ks b) (qc a b) none) none|_,_=>none
 |.slice=>match x,y with
  |.cb,.cb=>some true
  |.cb,.slice _ _ _ _ _=>some false
  |.slice _ _ _ _ _,.cb=>some false
  |_,_=>none
 |.iface=>match x,y with
  |.gA,.gA=>some true
  |.gA,.iface _ _=>some false
  |.iface _ _,.gA=>some false
  |.iface t _,.iface t' _=>aH (Nat.beq t t') none (some false)
  |_,_=>none
 |.func=>match x,y with
  |.nC,.nC=>some true
  |.nC,.func _ _ _=>some false
  |.func _ _ _,.nC=>some false
  |_,_=>none
 |.map=>match x,y with
  |.tA,.tA=>some true
  |_,_=>none
noncomputable def rq(m n:Nat):Int:=Bool.rec (motive:=fun _=>Int) (.negSucc (Nat.pred (Nat.sub n m))) (.ofNat (Nat.sub m n)) (Nat.ble n m)
noncomputable def Om(x y:Int):Int:=
 Int.rec (motive:=fun _=>Int→Int) (fun m y=>Int.rec (motive:=fun _=>Int) (fun n=>.ofNat (Nat.add m n)) (fun n=>rq m (Nat.succ n)) y)
  (fun m y=>Int.rec (motive:=fun _=>Int) (fun n=>rq n (Nat.succ m)) (fun n=>.negSucc (Nat.succ (Nat.add m n))) y) x y
noncomputable def On(x y:Int):Int:=
 Int.rec (motive:=fun _=>Int→Int) (fun m y=>Int.rec (motive:=fun _=>Int) (fun n=>rq m n) (fun n=>.ofNat (Nat.add m (Nat.succ n))) y)
  (fun m y=>Int.rec (motive:=fun _=>Int) (fun n=>.negSucc (Nat.add m n)) (fun n=>rq n m) y) x y
noncomputable def A1(x y:Int):Bool:=
 Int.rec (motive:=fun _=>Int→Bool) (fun m y=>Int.rec (motive:=fun _=>Bool) (fun n=>Nat.ble (Nat.succ m) n) (fun _=>false) y)
  (fun m y=>Int.rec (motive:=fun _=>Bool) (fun _=>true) (fun n=>Nat.ble (Nat.succ n) m) y) x y
noncomputable def Ic(x y:Int):Bool:=
 Int.rec (motive:=fun _=>Int→Bool) (fun m y=>Int.rec (motive:=fun _=>Bool) (fun n=>Nat.beq m n) (fun _=>false) y)
  (fun m y=>Int.rec (motive:=fun _=>Bool) (fun _=>false) (fun n=>Nat.beq m n) y) x y
noncomputable def O0(n:Int):Int:=
 Int.rec (motive:=fun _=>Int) (fun m=>Bool.rec (motive:=fun _=>Int) (IntKind.wrap .i64 (.ofNat m)) (.ofNat m) (Nat.ble m 9223372036854775807))
  (fun m=>Bool.rec (motive:=fun _=>Int) (IntKind.wrap .i64 (.negSucc m)) (.negSucc m) (Nat.ble m 9223372036854775807)) n
noncomputable def wU(mx:Nat)(k:IntKind)(n:Int):Int:=
 Int.rec (motive:=fun _=>Int) (fun m=>Bool.rec (motive:=fun _=>Int) (IntKind.wrap k (.ofNat m)) (.ofNat m) (Nat.ble m mx)) (fun m=>IntKind.wrap k (.negSucc m)) n
noncomputable def G9(k:IntKind):Int→Int:=
 IntKind.rec (motive:=fun _=>Int→Int) (IntKind.wrap .i8) (IntKind.wrap .i16) (IntKind.wrap .i32) O0 (wU 255 .u8) (wU 65535 .u16) (wU 4294967295 .u32) (wU 18446744073709551615 .u64) k
noncomputable def m9(op:BinOp)(a b:an)(k:an→aD):aD:=ob (AF op a b) (.err 6) fun v=>mB v k
noncomputable def GG(f:Int→Int→Int)(op:BinOp)(a b:an)(k:an→aD):aD:=
 gN a (m9 op a b k) fun z x=>gN b (m9 op a b k) fun A y=>aH (Nat.beq (dk z) (dk A)) (kV (G9 z (f x y)) fun r=>k (.int z r)) (.err 6)
noncomputable def wc(f:Int→Int→Bool)(op:BinOp)(a b:an)(k:an→aD):aD:=
 gN a (m9 op a b k) fun A x=>gN b (m9 op a b k) fun z y=>aH (Nat.beq (dk A) (dk z)) (mZ (f x y) fun r=>k (.bool r)) (.err 6)
noncomputable def O1(x y:Int):Bool:=Bool.not (Ic x y)
noncomputable def O2(x y:Int):Bool:=Bool.not (A1 y x)
noncomputable def O3(x y:Int):Bool:=A1 y x
noncomputable def O4(x y:Int):Bool:=Bool.not (A1 x y)
noncomputable def yi(op:BinOp):an→an→(an→aD)→aD:=
 BinOp.rec (motive:=fun _=>an→an→(an→aD)→aD) (GG Om .add) (GG On .sub) (m9 .mul) (m9 .quo) (m9 .rem) (m9 .and) (m9 .or) (m9 .xor) (m9 .shl) (m9 .shr) (m9 .andNot)
  (wc Ic .eql) (wc O1 .neq) (wc A1 .lss) (wc O2 .leq) (wc O3 .gtr) (wc O4 .geq) op
def gZ:an→Bool
 |.agg _=>false|.tuple _=>false|.undef=>false|_=>true
noncomputable def iG(agg:Bool)(l:List an)(e:aD)(k:an→aD):aD:=
 aH agg (k (.agg l)) (List.rec (motive:=fun _=>aD) e (fun v r _=>List.rec (motive:=fun _=>aD) (k v) (fun _ _ _=>e) r) l)
noncomputable def aF.ev(x:aF)(E:Env):Option an:=
 aF.casesOn (motive:=fun _=>Option an) x (fun n=>E.get n) some
noncomputable def bA(x:aF)(E:Env)(e:aD)(k:an→aD):aD:=
 aF.casesOn (motive:=fun _=>aD) x (fun n=>ob (E.get n) e k) k
noncomputable def jF(E:Env)(l:List aF):Option (List an):=
 List.rec (motive:=fun _=>Option (List an)) (some []) (fun x _ z=>ob (x.ev E) none fun v=>ob z none fun vs=>some (v::vs)) l
noncomputable def gQ(E:Env)(x:Option aF)(z y:Nat)(e:aD)(k:Nat→aD):aD:=
 Option.rec (motive:=fun _=>aD) (k z) (fun x=>ob (x.ev E) e fun v=>gN v e fun _ i=>jd i e fun n=>aH (Nat.ble n y) (k n) e) x
noncomputable def idx(v:an)(n:Nat)(e:aD)(k:Nat→aD):aD:=
 gN v e fun _ i=>jd i e fun i=>aH (Nat.ble (Nat.succ i) n) (k i) e
noncomputable def elems(H:az)(f g es:Nat)(n:Nat):Nat→Option (List (List an)):=
 Nat.rec (motive:=fun _=>Nat→Option (List (List an))) (fun _=>some [])
  (fun _ z off=>rd H f g off es none fun l=>ob (z (Nat.add off es)) none fun r=>some (l::r)) n
noncomputable def ju(l:List (List an)):RT→Nat→RT:=
 List.rec (motive:=fun _=>RT→Nat→RT) (fun t _=>t) (fun x _ z t i=>z (t.set i x) (Nat.succ i)) l
noncomputable def sb(l:List (List an)):RT→Nat→(RT→aD)→aD:=
 List.rec (motive:=fun _=>RT→Nat→(RT→aD)→aD) (fun t _ c=>c t) (fun x _ z t i c=>t.gr i x fun t=>dp (Nat.succ i) fun i=>z t i c) l
theorem vm:∀(l:List (List an))(t:RT)(i:Nat)(c:RT→aD),sb l t i c=c (ju l t i)
 |[],_,_,_=>rfl
 |x::l,t,i,c=>by
  show(t.gr i x fun t=>dp (Nat.succ i) fun i=>sb l t i c)=c (ju l (t.set i x) (i+1))
  rw[RT.j6,iq,vm l]
noncomputable def pM(x:List an)(n:Nat):RT:=
 Nat.rec (motive:=fun _=>RT) .emp (fun m t=>t.set m x) n
noncomputable def Eu(x:List an)(n:Nat):(RT→aD)→aD:=
 Nat.rec (motive:=fun _=>(RT→aD)→aD) (fun c=>c .emp) (fun m z c=>z fun t=>t.gr m x c) n
theorem Gh(x:List an):∀(n:Nat)(c:RT→aD),Eu x n c=c (pM x n)
 |0,_=>rfl
 |n+1,c=>by
  show(Eu x n fun t=>t.gr n x c)=c ((pM x n).set n x)
  rw[Gh x n,RT.j6]
noncomputable def ox(l:Nat):Nat→List (List an):=
 Nat.rec (motive:=fun _=>Nat→List (List an)) (fun _=>[]) (fun _ z v=>[an.int .u8 (Int.ofNat (Nat.mod v 256))]::z (Nat.div v 256)) l
noncomputable def pD(E:Env)(parts:List (Nat×Nat×aF)):List an→Option (List an):=
 List.rec (motive:=fun _=>List an→Option (List an)) some
  (fun p _ z cells=>ob (p.2.2.ev E) none fun v=>ob (jK v) none fun new=>aH (Nat.beq (jg new) p.2.1) (z (gY cells p.1 new)) none) parts
noncomputable def qd(E:Env)(es z:Nat)(parts:List (Nat×aF)):RT→Option RT:=
 List.rec (motive:=fun _=>RT→Option RT) some
  (fun p _ A t=>ob (p.2.ev E) none fun v=>ob (jK v) none fun new=>aH (Nat.beq (jg new) es) (aH (Nat.ble (Nat.succ p.1) z) (A (t.set p.1 new)) none) none) parts
noncomputable def vI(elem es aQ n:Nat)(new:List (List an))(H:az):aD:=
 aH (Nat.ble (Nat.mul n aQ) 70368744177664)
  (sb new .emp 0 fun cs=>H.alloc (.row elem es aQ n n 0 cs) fun f H=>.ok (.slice f n 0 n es) H) (.err 35)
noncomputable def xk(elem es aQ n:Nat)(new:List (List an))(H:az)(f g off I gR:Nat):aD:=
 az.casesOn (motive:=fun _=>aD) H fun next bc ws t=>iU (t.get f) (.err 33) fun z A mr m lo fl cs=>
  aH (Nat.beq off 0) (aH (Nat.beq g m) (aH (Nat.ble lo g) (aH (Nat.beq I m) (aH (Nat.beq gR es) (aH (Nat.beq A es) (aH (Nat.beq fl 1) (.err 32)
   (aH (Nat.ble (Nat.mul (Nat.add m n) aQ) 70368744177664) (aH (Nat.beq elem z)
    (dp (Nat.add m n) fun G=>sb new cs m fun cs=>t.gr f (.row z A mr G lo fl cs) fun t=>
     .ok (.slice f G 0 G es) ⟨next,bc,wrote f bc ws,t⟩) (.err 32)) (.err 32))) (.err 32)) (.err 32)) (.err 32)) (.err 32)) (.err 32)) (.err 32)
noncomputable def jU(elem es aQ n:Nat)(new:List (List an))(H:az)(x:an):aD:=
 Nat.rec (motive:=fun _=>aD) (gU x (.err 31) (.ok x H) fun _ _ _ _ _=>.ok x H)
  (fun n _=>gU x (.err 34) (vI elem es aQ (Nat.succ n) new H) (xk elem es aQ (Nat.succ n) new H)) n
noncomputable def lZ(x:aF)(E:Env)(H:az):aD:=bA x E (.err 1) fun v=>.ok v H
noncomputable def z7(c a b:aF)(E:Env)(H:az):aD:=bA c E (.err 2) fun v=>r4 v (.err 2) fun t=>aH t (lZ a E H) (lZ b E H)
noncomputable def vS(elem es aQ:Nat)(cells:List an)(_:Env)(H:az):aD:=
 H.alloc (.row elem es aQ 1 1 0 (.one cells)) fun f H=>.ok (.ptr f 1 0) H
noncomputable def AG(elem es aQ:Nat)(x:aF)(E:Env)(H:az):aD:=
 bA x E (.err 3) fun v=>ob (jK v) (.err 3) fun l=>aH (Nat.beq (jg l) es) (vS elem es aQ l E H) (.err 3)
noncomputable def z8(n:Nat)(agg:Bool)(a:aF)(E:Env)(H:az):aD:=
 bA a E (.err 4) fun v=>iv v (.err 4) fun f g off=>rd H f g off n (.err 4) fun l=>iG agg l (.err 4) fun v=>.ok v H
noncomputable def zI(n:Nat)(a x:aF)(E:Env)(H:az):aD:=
 bA a E (.err 5) fun p=>iv p (.err 5) fun f g off=>bA x E (.err 5) fun v=>ob (jK v) (.err 5) fun l=>wr H f g off n l (.err 5) fun H=>.ok .undef H
noncomputable def AH(op:BinOp)(x y:aF)(E:Env)(H:az):aD:=
 bA x E (.err 6) fun a=>bA y E (.err 6) fun b=>yi op a b fun v=>.ok v H
noncomputable def yB(c:yA)(neg:Bool)(x y:aF)(E:Env)(H:az):aD:=
 bA x E (.err 7) fun a=>bA y E (.err 7) fun b=>ob (ns c a b) (.err 7) fun r=>mZ (Bool.xor neg r) fun r=>.ok (.bool r) H
noncomputable def A2(op:UnOp)(x:aF)(E:Env)(H:az):aD:=bA x E (.err 8) fun a=>ob (EU op a) (.err 8) fun v=>mB v fun v=>.ok v H
noncomputable def Aa(x:aF)(k:Nat)(E:Env)(H:az):aD:=
 bA x E (.err 9) fun v=>iv v (.err 9) fun f g off=>dp (Nat.add off k) fun off=>.ok (.ptr f g off) H
noncomputable def AI(x:aF)(off n:Nat)(agg:Bool)(E:Env)(H:az):aD:=
 bA x E (.err 10) fun v=>oT v (.err 10) fun cs=>aH (Nat.ble (Nat.add off n) (jg cs)) (iG agg ((cs.drop off).take n) (.err 10) fun v=>.ok v H) (.err 10)
noncomputable def zj(z es:Nat)(x i:aF)(E:Env)(H:az):aD:=
 bA x E (.err 11) fun v=>iv v (.err 11) fun f g off=>bA i E (.err 11) fun A=>idx A z (.err 11) fun j=>dp (Nat.add off (Nat.mul j es)) fun off=>.ok (.ptr f g off) H
noncomputable def zJ(es:Nat)(x i:aF)(E:Env)(H:az):aD:=
 bA x E (.err 12) fun v=>gU v (.err 12) (.err 12) fun f g off z _=>bA i E (.err 12) fun A=>idx A z (.err 12) fun j=>dp (Nat.add off (Nat.mul j es)) fun off=>.ok (.ptr f g off) H
noncomputable def zk(z es:Nat)(agg:Bool)(x i:aF)(E:Env)(H:az):aD:=
 bA x E (.err 13) fun v=>oT v (.err 13) fun cs=>bA i E (.err 13) fun A=>idx A z (.err 13) fun j=>
  aH (Nat.ble (Nat.add (Nat.mul j es) es) (jg cs)) (iG agg ((cs.drop (Nat.mul j es)).take es) (.err 13) fun v=>.ok v H) (.err 13)
noncomputable def zl(x i:aF)(E:Env)(H:az):aD:=
 bA x E (.err 14) fun v=>jQ v (.err 14) fun l s=>bA i E (.err 14) fun z=>idx z l (.err 14) fun j=>dp (vH s j) fun b=>.ok (.int .u8 (.ofNat b)) H
noncomputable def zK(x:aF)(lo hi:Option aF)(E:Env)(H:az):aD:=
 bA x E (.err 15) fun v=>jQ v (.err 15) fun l s=>gQ E hi l l (.err 15) fun h=>gQ E lo 0 h (.err 15) fun lo=>
  dp (Nat.sub h lo) fun n=>dp (xj s lo h) fun s=>.ok (.str n s) H
noncomputable def Ab(es:Nat)(x:aF)(lo hi:Option aF)(E:Env)(H:az):aD:=
 bA x E (.err 16) fun v=>gU v (.err 16) (gQ E hi 0 0 (.err 16) fun h=>gQ E lo 0 h (.err 16) fun _=>.ok .cb H)
  fun f g off z gR=>aH (Nat.beq es gR) (gQ E hi z z (.err 16) fun h=>gQ E lo 0 h (.err 16) fun lo=>
   dp (Nat.add off (Nat.mul lo es)) fun off=>dp (Nat.sub h lo) fun n=>.ok (.slice f g off n gR) H) (.err 16)
noncomputable def Cy(z es:Nat)(x:aF)(lo hi:Option aF)(E:Env)(H:az):aD:=
 bA x E (.err 17) fun v=>iv v (.err 17) fun f g off=>iU (H.t.get f) (.err 17) fun _ gR _ m A _ _=>
  aH (Nat.ble A g) (aH (Nat.ble g m) (aH (Nat.ble (Nat.add off (Nat.mul z es)) (Nat.mul g gR)) (gQ E hi z z (.err 17) fun h=>gQ E lo 0 h (.err 17) fun lo=>
   dp (Nat.add off (Nat.mul lo es)) fun off=>dp (Nat.sub h lo) fun n=>.ok (.slice f g off n es) H) (.err 17)) (.err 17)) (.err 17)
noncomputable def Ac(x:aF)(i:Nat)(E:Env)(H:az):aD:=bA x E (.err 18) fun v=>rR v (.err 18) fun vs=>ob (vs[i]?) (.err 18) fun v=>.ok v H
def w4:an→Bool
 |.ptr _ _ _=>true|.func _ _ _=>true|_=>false
noncomputable def zL(x:aF)(E:Env)(H:az):aD:=bA x E (.err 19) fun v=>aH (w4 v) (.ok v H) (.err 19)
noncomputable def Ad(f:Nat)(first eD:List aF)(E:Env)(H:az):aD:=ob (jF E first) (.err 20) fun z=>ob (jF E eD) (.err 20) fun vs=>.ok (.func f z vs) H
noncomputable def Ae(t:Nat)(x:aF)(E:Env)(H:az):aD:=bA x E (.err 21) fun v=>.ok (.iface t v) H
noncomputable def Af(elem es aQ:Nat)(zero:List an)(z A:aF)(E:Env)(H:az):aD:=
 bA z E (.err 22) fun a=>gN a (.err 22) fun _ a=>jd a (.err 22) fun l=>bA A E (.err 22) fun b=>gN b (.err 22) fun _ b=>jd b (.err 22) fun c=>
  aH (Nat.ble l c) (aH (Nat.ble (Nat.mul c aQ) 70368744177664) (aH (Nat.ble c 4611686018427387904)
   (Eu zero l fun cs=>H.alloc (.row elem es aQ l l 0 cs) fun f H=>.ok (.slice f l 0 l es) H) (.err 22)) (.err 22)) (.err 22)
noncomputable def Cz(zero:List an)(parts:List (Nat×Nat×aF))(E:Env)(H:az):aD:=ob (pD E parts zero) (.err 23) fun cs=>.ok (.agg cs) H
noncomputable def BY(elem es aQ z:Nat)(zero:List an)(parts:List (Nat×aF))(E:Env)(H:az):aD:=
 ob (qd E es z parts (pM zero z)) (.err 24) fun t=>H.alloc (.row elem es aQ z z 0 t) fun f H=>.ok (.slice f z 0 z es) H
noncomputable def AJ(x:aF)(E:Env)(H:az):aD:=bA x E (.err 25) fun v=>gU v (.err 25) (.ok (.int .i64 (.ofNat 0)) H) fun _ _ _ l _=>.ok (.int .i64 (.ofNat l)) H
noncomputable def Ag(x:aF)(E:Env)(H:az):aD:=bA x E (.err 25) fun v=>jQ v (.err 25) fun l _=>.ok (.int .i64 (.ofNat l)) H
noncomputable def NR(n:Nat)(_:Env)(H:az):aD:=.ok (.int .i64 (.ofNat n)) H
noncomputable def AK(elem es aQ:Nat)(x y:aF)(E:Env)(H:az):aD:=
 bA x E (.err 26) fun a=>bA y E (.err 26) fun b=>gU b (.err 26) (jU elem es aQ 0 [] H a) fun f g off n _=>
  ob (elems H f g es n off) (.err 26) fun l=>jU elem es aQ n l H a
noncomputable def zm(elem:Nat)(x y:aF)(E:Env)(H:az):aD:=
 bA x E (.err 27) fun a=>bA y E (.err 27) fun b=>jQ b (.err 27) fun l v=>jU elem 1 1 l (ox l v) H a
noncomputable def VA(_:Nat)(_ _:aF)(_:Env)(_:az):aD:=.err 28
noncomputable def EV(mx:Bool)(k:IntKind)(l:List an):Int→Option an:=
 List.rec (motive:=fun _=>Int→Option an) (fun a=>some (.int k a))
  (fun v _ z a=>Mg v none fun _ b=>kV (aH (aH mx (lj a b) (lj b a)) b a) z) l
noncomputable def zn(mx:Bool)(x:aF)(ys:List aF)(E:Env)(H:az):aD:=
 bA x E (.err 29) fun a=>gN a (.err 29) fun k a=>ob (jF E ys) (.err 29) fun vs=>ob (EV mx k vs a) (.err 29) fun v=>.ok v H
noncomputable def Ah(k:IntKind)(x:aF)(E:Env)(H:az):aD:=bA x E (.err 36) fun v=>gN v (.err 36) fun _ n=>kV (lT k n) fun n=>.ok (.int k n) H
noncomputable def zo(elem:Nat)(x:aF)(E:Env)(H:az):aD:=
 bA x E (.err 38) fun v=>jQ v (.err 38) fun l s=>aH (Nat.ble l 70368744177664)
  (sb (ox l s) .emp 0 fun cs=>H.alloc (.row elem 1 1 l l 3 cs) fun f H=>.ok (.slice f l 0 l 1) H) (.err 38)
noncomputable def nD(l:List (List an)):Option Nat:=
 List.rec (motive:=fun _=>Option Nat) (some 0) (fun c _ z=>List.rec (motive:=fun _=>Option Nat) none (fun v r _=>List.rec (motive:=fun _=>Option Nat)
  (Mf v none fun k i=>aH (Nat.beq (dk k) 4) (jd i none fun b=>aH (Nat.ble b 255) (ob z none fun v=>some (Nat.add b (Nat.mul 256 v))) none) none) (fun _ _ _=>none) r) c) l
noncomputable def zp(x:aF)(E:Env)(H:az):aD:=
 bA x E (.err 39) fun v=>gU v (.err 39) (.ok (.str 0 0) H) fun f g off n _=>
  ob (elems H f g 1 n off) (.err 39) fun l=>ob (nD l) (.err 39) fun s=>dp s fun s=>.ok (.str n s) H
def xl:an→Bool
 |.hY=>true|_=>false
noncomputable def zM(t n:Nat)(x:aF)(E:Env)(H:az):aD:=
 bA x E (.err 44) fun v=>aH (xl v) (.ok v H) (iv v (.err 44) fun f g off=>iU (H.t.get f) (.err 44) fun elem es _ m lo fl _=>
  aH (Nat.beq elem t) (aH (Nat.beq es n) (aH (Nat.beq off 0) (aH (Nat.ble lo g) (aH (Nat.ble g m) (aH (Nat.ble 1 g) (aH (Nat.beq fl 0) (.ok v H) (.err 44)) (.err 44)) (.err 44)) (.err 44)) (.err 44)) (.err 44)) (.err 44))
noncomputable def AL(x:aF)(E:Env)(H:az):aD:=
 bA x E (.err 45) fun v=>gU v (.err 45) (.ok .hY H) fun f g off l _=>aH (Nat.beq l 0) (.err 45) (.ok (.ptr f g off) H)
noncomputable def mv(f e:Nat)(H:az)(k:az→aD):aD:=
 az.casesOn (motive:=fun _=>aD) H fun next bc ws t=>iU (t.get f) (.err 46) fun elem es aQ m lo fl cs=>
  aH (Nat.beq elem e) (aH (Nat.beq es 1) (aH (aH (Nat.beq fl 0) true (Nat.beq fl 2)) (t.gr f (.row elem es aQ m lo 2 cs) fun t=>k ⟨next,bc,wrote f bc ws,t⟩) (.err 46)) (.err 46)) (.err 46)
noncomputable def vT(e:Nat)(x n:aF)(E:Env)(H:az):aD:=
 bA x E (.err 46) fun p=>aH (xl p) (bA n E (.err 46) fun z=>gN z (.err 46) fun k i=>jd i (.err 46) fun l=>aH (Nat.beq (dk k) 3) (aH (Nat.beq l 0) (.ok (.str 0 0) H) (.err 46)) (.err 46))
  (iv p (.err 46) fun f g off=>bA n E (.err 46) fun z=>gN z (.err 46) fun k i=>jd i (.err 46) fun l=>
  aH (Nat.beq off 0) (aH (Nat.beq (dk k) 3) (aH (Nat.ble 1 l) (aH (Nat.ble l 70368744177664) (ob (elems H f g 1 l 0) (.err 46) fun L=>ob (nD L) (.err 46) fun s=>dp s fun s=>mv f e H fun H=>.ok (.str l s) H) (.err 46)) (.err 46)) (.err 46)) (.err 46))
abbrev eC:=Nat→List an→az→aD
noncomputable def Ai(f:Nat)(args:List aF)(call:eC)(E:Env)(H:az):aD:=ob (jF E args) (.err 42) fun vs=>call f vs H
noncomputable def zN(x:aF)(args:List aF)(call:eC)(E:Env)(H:az):aD:=
 bA x E (.err 43) fun v=>tD v (.err 43) fun f z eD=>ob (jF E args) (.err 43) fun vs=>call f (z++(vs++eD)) H
noncomputable def bE.ev(o:bE):eC→Env→az→aD:=
 bE.rec (motive:=fun _=>eC→Env→az→aD)
  (fun x _=>lZ x) (fun c a b _=>z7 c a b) (fun a b c d _=>vS a b c d) (fun a b c d _=>AG a b c d) (fun a b c _=>z8 a b c) (fun a b c _=>zI a b c)
  (fun a b c _=>AH a b c) (fun a b c d _=>yB a b c d) (fun a b _=>A2 a b) (fun a b _=>Aa a b) (fun a b c d _=>AI a b c d) (fun a b c d _=>zj a b c d)
  (fun a b c _=>zJ a b c) (fun a b c d e _=>zk a b c d e) (fun a b _=>zl a b) (fun a b c _=>zK a b c) (fun a b c d _=>Ab a b c d) (fun a b c d e _=>Cy a b c d e)
  (fun a b _=>Ac a b) (fun a _=>zL a) (fun a b c _=>Ad a b c) (fun a b _=>Ae a b) (fun a b c d e f _=>Af a b c d e f) (fun a b _=>Cz a b)
  (fun a b c d e f _=>BY a b c d e f) (fun a _=>AJ a) (fun a _=>NR a) (fun a _=>Ag a) (fun a b c d e _=>AK a b c d e) (fun a b c _=>zm a b c) (fun a b c _=>VA a b c)
  (fun a b c _=>zn a b c) (fun a b _=>Ah a b) (fun a _=>lZ a) (fun a b _=>zo a b) (fun a _=>zp a) (fun f args=>Ai f args) (fun x args=>zN x args) (fun a b c _=>zM a b c) (fun a _=>AL a) (fun a b c _=>vT a b c) o
noncomputable def fin(dst:Option Key)(E:Env)(k:Env→az→eA)(r:aD):eA:=
 aD.rec (motive:=fun _=>eA) (fun v H=>Option.rec (motive:=fun _=>eA) (k E H) (fun d=>E.yh d v fun E=>k E H) dst) .err r
noncomputable def bo.run(call:eC)(o:bo)(E:Env)(H:az)(k:Env→az→eA):eA:=fin o.dst E k (o.op.ev call E H)
noncomputable def ku(dst:Option Key)(E:Env)(H:az)(k:Env→az→eA):eA:=
 Option.rec (motive:=fun _=>eA) (k E H) (fun d=>E.yh d .undef fun E=>k E H) dst
noncomputable def bo.step(call:eC)(o:bo)(E:Env)(H:az)(k:Env→az→eA):eA:=
 Option.rec (motive:=fun _=>eA) (o.run call E H k)
  (fun g=>ob (E.get g.1) (.err 51) fun v=>wb v (ku o.dst E H k) fun b=>aH (Bool.xor b g.2) (ku o.dst E H k) (o.run call E H k)) o.g
noncomputable def mG(call:eC)(l:List bo):Env→az→eA:=
 List.rec (motive:=fun _=>Env→az→eA) eA.ok (fun o _ z E H=>o.step call E H z) l
structure FP where
 rd:Option (List Nat)
 ws:List Nat
 lo:Nat
 hi:Nat
def iV:Option an→List Nat
 |some (.ptr f _ _)=>[f]
 |some (.slice f _ _ _ _)=>[f]
 |_=>[]
noncomputable def bE.reads(E:Env):bE→Option (List Nat)
 |.load _ _ a=>some (iV (a.ev E))
 |.app _ _ _ x y=>some (iV (x.ev E)++iV (y.ev E))
 |.tC _ x _=>some (iV (x.ev E))
 |.qS x=>some (iV (x.ev E))
 |.vR _ _ x _ _=>some (iV (x.ev E))
 |.store _ a _=>some (iV (a.ev E))
 |.qn _ _ x=>some (iV (x.ev E))
 |.qu _ x _=>some (iV (x.ev E))
 |.call _ _=>none
 |.mF _ _=>none
 |.copy _ _ _=>none
 |_=>some []
noncomputable def xP(l m:List Nat):Bool:=
 List.rec (motive:=fun _=>Bool) true (fun x _ z=>aH (pV x m) false z) l
noncomputable def uK(l:List Nat)(lo hi:Nat):Bool:=
 List.rec (motive:=fun _=>Bool) true (fun x _ z=>aH (Nat.ble lo x) (aH (Nat.ble hi x) z false) z) l
noncomputable def Aj(l:List Nat)(r:Option (List Nat)):Bool:=
 List.rec (motive:=fun _=>Bool) true (fun _ _ _=>Option.rec (motive:=fun _=>Bool) false (fun r=>xP l r) r) l
noncomputable def rS(a b:FP):Bool:=
 aH (Aj a.ws b.rd) (aH (Aj b.ws a.rd) (aH (xP a.ws b.ws) (uK a.ws b.lo b.hi) false) false) false
noncomputable def pn(a:FP)(bP:List FP)(l:List Nat):Bool:=
 List.rec (motive:=fun _=>Bool) true (fun i _ z=>ob (bP[i]?) false fun b=>aH (rS a b) z false) l
noncomputable def oo(bc:Nat)(ws new:List Nat):List Nat:=
 List.rec (motive:=fun _=>List Nat) ws (fun f _ z=>wrote f bc z) new
noncomputable def yj(rs:Option (List Nat))(l:List Nat)(next bc:Nat)(ws:List Nat)(bP:List FP)(dst:Option Key)(E:Env)(k:Env→az→List FP→eA)(r:aD):eA:=
 aD.rec (motive:=fun _=>eA) (fun v H'=>az.casesOn (motive:=fun _=>eA) H' fun next' _ z t'=>
  aH (pn ⟨rs,z,next,next'⟩ bP l)
   (Option.rec (motive:=fun _=>eA) (k E ⟨next',bc,oo bc ws z,t'⟩ (⟨rs,z,next,next'⟩::bP))
    (fun d=>E.yh d v fun E=>k E ⟨next',bc,oo bc ws z,t'⟩ (⟨rs,z,next,next'⟩::bP)) dst) (.err 50)) .err r
noncomputable def bo.Ww(call:eC)(o:bo)(l:List Nat)(E:Env)(H:az)(bP:List FP)(k:Env→az→List FP→eA):eA:=
 az.casesOn (motive:=fun _=>eA) H fun next bc ws t=>dp next fun next=>yj (o.op.reads E) l next bc ws bP o.dst E k (o.op.ev call E ⟨next,next,[],t⟩)
noncomputable def bo.pW(call:eC)(o:bo)(E:Env)(H:az)(bP:List FP)(k:Env→az→List FP→eA):eA:=
 Option.rec (motive:=fun _=>eA) (o.run call E H fun E H=>k E H bP) (fun l=>o.Ww call l E H bP k) o.q
noncomputable def q6(q:Option (List Nat))(bP:List FP):List FP:=Option.rec (motive:=fun _=>List FP) bP (fun _=>⟨some [],[],0,0⟩::bP) q
noncomputable def bo.na(call:eC)(o:bo)(E:Env)(H:az)(bP:List FP)(k:Env→az→List FP→eA):eA:=
 Option.rec (motive:=fun _=>eA) (o.pW call E H bP k)
  (fun g=>ob (E.get g.1) (.err 51) fun v=>wb v (ku o.dst E H fun E H=>k E H (q6 o.q bP)) fun b=>aH (Bool.xor b g.2) (ku o.dst E H fun E H=>k E H (q6 o.q bP)) (o.pW call E H bP k)) o.g
noncomputable def lR(call:eC)(l:List bo):Env→az→List FP→eA:=
 List.rec (motive:=fun _=>Env→az→List FP→eA) (fun E H _=>.ok E H) (fun o _ z E H bP=>o.na call E H bP z) l
noncomputable def tg(r:Out)(k:Env→az→Out):Out:=
 Out.rec (motive:=fun _=>Out) (fun x E H=>Ex.rec (motive:=fun _=>Out) (k E H) (fun id=>.ok (.exit id) E H) (.ok .ret E H) x) .err r
noncomputable def uo(f:Env→az→Out)(n:Nat):Env→az→Out:=
 Nat.rec (motive:=fun _=>Env→az→Out) (fun _ _=>.err 60) (fun _ z E H=>tg (f E H) z) n
noncomputable def yC(r:eA):Out:=eA.rec (motive:=fun _=>Out) (fun E H=>.ok .normal E H) .err r
noncomputable def VB(E:Env)(H:az):Out:=.ok .normal E H
noncomputable def Ti(call:eC)(draw:Bool)(ops:List bo):Env→az→Out:=
 aH draw (fun E H=>yC (lR call ops E H [])) (fun E H=>yC (mG call ops E H))
noncomputable def Wx(_ _:IC)(a b:Env→az→Out)(E:Env)(H:az):Out:=tg (a E H) b
noncomputable def G'(c:aF)(_ _:IC)(a b:Env→az→Out)(E:Env)(H:az):Out:=
 ob (c.ev E) (.err 61) fun v=>Lp v (.err 61) fun t=>aH t (a E H) (b E H)
noncomputable def zO(id:Nat)(_:IC)(b:Env→az→Out)(E:Env)(H:az):Out:=
 Out.rec (motive:=fun _=>Out) (fun x E H=>Ex.rec (motive:=fun _=>Out) (.ok .normal E H) (fun z=>aH (Nat.beq z id) (.ok .normal E H) (.ok (.exit z) E H)) (.ok .ret E H) x) .err (b E H)
noncomputable def VD(lf:Nat)(_:IC)(b:Env→az→Out):Env→az→Out:=uo b lf
noncomputable def VF(id:Nat)(E:Env)(H:az):Out:=.ok (.exit id) E H
noncomputable def Wy(E:Env)(H:az):Out:=.ok .ret E H
noncomputable def IC.ev(call:eC)(lf:Nat)(c:IC):Env→az→Out:=
 IC.rec (motive:=fun _=>Env→az→Out) VB (Ti call) Wx G' zO (VD lf) VF Wy c
noncomputable def params(ks:List Key):List an→Env→(Env→aD)→aD:=
 List.rec (motive:=fun _=>List an→Env→(Env→aD)→aD) (fun l E c=>List.rec (motive:=fun _=>aD) (c E) (fun _ _ _=>.err 71) l)
  (fun k _ z l E c=>List.rec (motive:=fun _=>aD) (.err 71) (fun v r _=>E.gr k v fun E=>z r E c) l) ks
noncomputable def yk(E:Env)(H:az)(r:lG)(e:aD)(k:an→aD):aD:=
 lG.casesOn (motive:=fun _=>aD) r (fun t=>ob (E.get t) e k)
  (fun a n agg=>ob (E.get a) e fun v=>iv v e fun f g off=>rd H f g off n e fun l=>iG agg l e k)
noncomputable def uq(E:Env)(H:az)(l:List lG)(e:aD):(List an→aD)→aD:=
 List.rec (motive:=fun _=>(List an→aD)→aD) (fun k=>k []) (fun r _ z k=>yk E H r e fun v=>z fun vs=>k (v::vs)) l
noncomputable def results(E:Env)(H:az)(rs:List lG):aD:=
 uq E H rs (.err 70) fun vs=>List.rec (motive:=fun _=>aD) (.ok (.tuple []) H) (fun v r _=>List.rec (motive:=fun _=>aD) (.ok v H) (fun _ _ _=>.ok (.tuple (v::r)) H) r) vs
noncomputable def sn(call:eC)(lf:Nat)(fn:bD)(args:List an)(H:az):aD:=
 params fn.ps args .emp fun E=>Out.rec (motive:=fun _=>aD) (fun x E H=>Ex.rec (motive:=fun _=>aD) (results E H fn.res) (fun _=>.err 72) (results E H fn.res) x) .err (fn.body.ev call lf E H)
noncomputable def AM(c:Nat)(l:Nat):Nat→Nat→Int:=
 Nat.rec (motive:=fun _=>Nat→Nat→Int) (fun _ _=>Int.negSucc 0)
  (fun _ z s i=>aH (Nat.beq (Nat.mod s 256) c) (Int.ofNat i) (dp (Nat.div s 256) fun s=>dp (Nat.succ i) fun i=>z s i)) l
noncomputable def FB(args:List an)(H:az):aD:=
 List.rec (motive:=fun _=>aD) (.err 90) (fun x r _=>List.rec (motive:=fun _=>aD) (.err 90) (fun y _ _=>
  jQ x (.err 90) fun l s=>gN y (.err 90) fun k c=>jd c (.err 90) fun c=>aH (Nat.beq (dk k) 4) (aH (Nat.ble c 255) (aH (Nat.beq (jg r) 1) (kV (AM c l s 0) fun i=>.ok (.int .i64 i) H) (.err 90)) (.err 90)) (.err 90)) r) args
noncomputable def Ha(args:List an)(H:az):aD:=
 List.rec (motive:=fun _=>aD) (.err 91) (fun x r _=>List.rec (motive:=fun _=>aD) (.ok x H) (fun _ _ _=>.err 91) r) args
noncomputable def Hb(args:List an)(H:az):aD:=
 List.rec (motive:=fun _=>aD) (.ok (.bool true) H) (fun _ _ _=>.err 92) args
def rj:Nat→Nat→List UInt8
 |0,_=>[]
 |l+1,s=>UInt8.ofNat (s % 256)::rj l (s/256)
noncomputable def ur:List an→az→aD
 |[.str l s,.int k a,.int z b],H=>if k= .i64∧a=10∧z= .i64∧b=64∧l≤1000 then(match Lib.parseUintB 64 (rj l s) with
  |.ok u=>.ok (.tuple [.int .u64 u,.gA]) H
  |_=>.err 93) else .err 93
 |_,_=>.err 93
noncomputable def so(t:Nat):List an→az→aD
 |[.str l s,.int k a,.int z b],H=>if k= .i64∧a=10∧z= .i64∧b=64∧l≤1000 then(match Lib.parseIntB 64 (rj l s) with
  |.ok v=>.ok (.tuple [.int .i64 v,.gA]) H
  |.range=>.ok (.tuple [.int .i64 (Lib.intSat 64 (rj l s)),.iface t (.map 0)]) H
  |_=>.err 93) else .err 93
 |_,_=>.err 93
noncomputable def Oo(c:Nat)(args:List an)(H:az):aD:=match c with
 |0=>ur args H
 |c+1=>so c args H
noncomputable def qv(c:Nat)(args:List an)(H:az):aD:=
 Nat.rec (motive:=fun _=>aD) (FB args H) (fun c _=>Nat.rec (motive:=fun _=>aD) (Ha args H) (fun c _=>Nat.rec (motive:=fun _=>aD) (Hb args H) (fun c _=>Oo c args H) c) c) c
noncomputable def A3(ft:Tr bD)(xt:Tr Nat)(lf:Nat)(n:Nat):eC:=
 Nat.rec (motive:=fun _=>eC) (fun _ _ _=>.err 80) (fun _ z f args H=>ob (ft.get f) (ob (xt.get f) (.err (Nat.add 10000 f)) fun c=>qv c args H) fun fn=>sn z lf fn args H) n
end Go.Ev
