/- Part 1 of rules for walks through the code of a program, and of such walks; what each part proves is said by its theorems. -/
import Derived.Test.YtdaamclhcpjdpaaGreatDoorR0
import Derived.Lib.ParseIntB
set_option linter.unusedVariables false
set_option linter.unusedSimpArgs false
noncomputable section
set_option maxRecDepth 100000
set_option maxHeartbeats 4000000
namespace Go.Ev
theorem aa{α:Sort _}{a:α}:a=a:=rfl
inductive al where
 |bool (b:Bool)
 |int (k:IntKind) (n:Int)
 |str (l v:Nat)
 |ptr (f g off:Nat)
 |jU
 |slice (f g off len es:Nat)
 |fE
 |agg (cs:List al)
 |tuple (vs:List al)
 |func (f:Nat) (first dL:List al)
 |mO
 |iface (t:Nat) (v:al)
 |jS
 |map (f:Nat)
 |uU
 |undef
inductive D6 where
 |d0|d1|d2|d3|d4|d5
def D6.n:D6→Nat
 |.d0=>0|.d1=>1|.d2=>2|.d3=>3|.d4=>4|.d5=>5
def IF:Nat→D6
 |0=>.d0|1=>.d1|2=>.d2|3=>.d3|4=>.d4|_=>.d5
def wg(n:Nat):D6:=
 Nat.rec (motive:=fun _=>D6) .d0 (fun n _=>Nat.rec (motive:=fun _=>D6) .d1 (fun n _=>Nat.rec (motive:=fun _=>D6) .d2 (fun n _=>Nat.rec (motive:=fun _=>D6) .d3 (fun n _=>Nat.rec (motive:=fun _=>D6) .d4 (fun _ _=>.d5) n) n) n) n) n
inductive Key where
 |mk (i j k l:D6)
def Key.n:Key→Nat
 |.mk i j k l=>i.n+6*j.n+36*k.n+216*l.n
def pk(n:Nat):Key:=.mk (IF (n % 6)) (IF (n/6 % 6)) (IF (n/36 % 6)) (IF (n/216 % 6))
theorem D6.lt(d:D6):d.n<6:=by cases d<;>decide
theorem D6.inj{a b:D6}(h:a.n=b.n):a=b:=by cases a<;>cases b<;>first|rfl|(simp[D6.n] at h)
instance:DecidableEq D6:=fun a b=>if h:a.n=b.n then .isTrue (D6.inj h) else .isFalse fun e=>h (by rw[e])
theorem Lw{m:Nat}(h:m<6):(IF m).n=m:=by
 match m,h with
 |0,_=>rfl
 |1,_=>rfl
 |2,_=>rfl
 |3,_=>rfl
 |4,_=>rfl
 |5,_=>rfl
theorem Mt{m:Nat}(h:m<6):(wg m).n=m:=by
 match m,h with
 |0,_=>rfl
 |1,_=>rfl
 |2,_=>rfl
 |3,_=>rfl
 |4,_=>rfl
 |5,_=>rfl
theorem Key.inj{a b:Key}(h:a.n=b.n):a=b:=by
 cases a with
 |mk i j k l=>cases b with
  |mk z A G I=>
   simp only[Key.n] at h;have Y:=i.lt;have h2:=j.lt;have Z:=k.lt;have h7:=l.lt;have h4:=z.lt;have h5:=A.lt;have h6:=G.lt;have h8:=I.lt;have L:i=z:=D6.inj ah;have M:j=A:=D6.inj ah;have O:k=G:=D6.inj ah;have U:l=I:=D6.inj ah;rw[L,M,O,U]
instance:DecidableEq Key:=fun a b=>if h:a.n=b.n then .isTrue (Key.inj h) else .isFalse fun e=>h (by rw[e])
theorem A'{n:Nat}(h:n<1296):(pk n).n=n:=by
 simp only[pk,Key.n];rw[Lw ah,Lw ah,Lw ah,Lw ah];omega
section
variable{α β:Type}
inductive S6(α:Type) where
 |mk (x0 x1 x2 x3 x4 x5:α)
def S6.get(d:D6)(t:S6 α):α:=
 S6.rec (motive:=fun _=>α) (fun x0 x1 x2 x3 x4 x5=>D6.rec (motive:=fun _=>α) x0 x1 x2 x3 x4 x5 d) t
def S6.u0(f:α→(α→β)→β)(t:S6 α)(c:S6 α→β):β:=S6.rec (motive:=fun _=>β) (fun x0 x1 x2 x3 x4 x5=>f x0 fun y=>c (.mk y x1 x2 x3 x4 x5)) t
def S6.u1(f:α→(α→β)→β)(t:S6 α)(c:S6 α→β):β:=S6.rec (motive:=fun _=>β) (fun x0 x1 x2 x3 x4 x5=>f x1 fun y=>c (.mk x0 y x2 x3 x4 x5)) t
def S6.u2(f:α→(α→β)→β)(t:S6 α)(c:S6 α→β):β:=S6.rec (motive:=fun _=>β) (fun x0 x1 x2 x3 x4 x5=>f x2 fun y=>c (.mk x0 x1 y x3 x4 x5)) t
def S6.u3(f:α→(α→β)→β)(t:S6 α)(c:S6 α→β):β:=S6.rec (motive:=fun _=>β) (fun x0 x1 x2 x3 x4 x5=>f x3 fun y=>c (.mk x0 x1 x2 y x4 x5)) t
def S6.u4(f:α→(α→β)→β)(t:S6 α)(c:S6 α→β):β:=S6.rec (motive:=fun _=>β) (fun x0 x1 x2 x3 x4 x5=>f x4 fun y=>c (.mk x0 x1 x2 x3 y x5)) t
def S6.u5(f:α→(α→β)→β)(t:S6 α)(c:S6 α→β):β:=S6.rec (motive:=fun _=>β) (fun x0 x1 x2 x3 x4 x5=>f x5 fun y=>c (.mk x0 x1 x2 x3 x4 y)) t
def S6.dZ(d:D6):(α→(α→β)→β)→S6 α→(S6 α→β)→β:=
 D6.rec (motive:=fun _=>(α→(α→β)→β)→S6 α→(S6 α→β)→β) S6.u0 S6.u1 S6.u2 S6.u3 S6.u4 S6.u5 d
def S6.mod(d:D6)(g:α→α)(t:S6 α):S6 α:=S6.dZ d (fun x c=>c (g x)) t fun y=>y
theorem S6.KQ(d z:D6)(g:α→α)(t:S6 α):S6.get z (S6.mod d g t)=if z=d then g (S6.get d t) else S6.get z t:=by
 cases t;cases d<;>cases z<;>rfl
theorem S6.Lx(d:D6)(g:α→α)(f:α→(α→β)→β)(z:∀x c,f x c=c (g x))(t:S6 α)(c:S6 α→β):S6.dZ d f t c=c (S6.mod d g t):=by
 cases t;cases d<;>exact z _ _
def S6.all(x:α):S6 α:=.mk x x x x x x
theorem S6.KR(d:D6)(x:α):S6.get d (S6.all x)=x:=by cases d<;>rfl
def T4(α:Type):Type:=S6 (S6 (S6 (S6 (Option α))))
def T4.get(E:T4 α)(key:Key):Option α:=Key.rec (motive:=fun _=>T4 α→Option α) (fun i j k l E=>S6.get l (S6.get k (S6.get j (S6.get i E)))) key E
def T4.fh(E:T4 α)(key:Key)(v:α)(c:T4 α→β):β:=Key.rec (motive:=fun _=>β) (fun i j k l=>S6.dZ i (S6.dZ j (S6.dZ k (S6.dZ l fun _ c=>c (some v)))) E c) key
def T4.set(E:T4 α)(key:Key)(v:α):T4 α:=E.fh key v fun E=>E
theorem T4.Rv(E:T4 α)(i j k l:D6)(v:α)(c:T4 α→β):E.fh (.mk i j k l) v c=c (S6.mod i (S6.mod j (S6.mod k (S6.mod l fun _=>some v))) E):=
 S6.Lx i _ _ (fun x c=>S6.Lx j _ _ (fun x c=>S6.Lx k _ _ (fun x c=>S6.Lx l (fun _=>some v) _ (fun _ _=>rfl) x c) x c) x c) E c
theorem T4.i4(E:T4 α)(key:Key)(v:α)(c:T4 α→β):E.fh key v c=c (E.set key v):=by
 cases key with
 |mk i j k l=>unfold T4.set;rw[T4.Rv,T4.Rv]
theorem S6.gs(E:S6 (S6 (S6 (S6 (Option α)))))(i j k l z A G I:D6)(v:α):S6.get I (S6.get G (S6.get A (S6.get z (S6.mod i (S6.mod j (S6.mod k (S6.mod l fun _=>some v))) E))))=
  if Key.mk z A G I=Key.mk i j k l then some v else S6.get I (S6.get G (S6.get A (S6.get z E))):=by
 rw[S6.KQ]
 by_cases hi:z=i
 ·subst hi;rw[bh rfl,S6.KQ]
  by_cases L:A=j
  ·subst L;rw[bh rfl,S6.KQ]
   by_cases M:G=k
   ·subst M;rw[bh rfl,S6.KQ]
    by_cases O:I=l
    ·subst O;rw[bh rfl,bh rfl]
    rw[aZ O,aZ (by intro e;cases e;exact O rfl)]
   rw[aZ M,aZ (by intro e;cases e;exact M rfl)]
  rw[aZ L,aZ (by intro e;cases e;exact L rfl)]
 rw[aZ hi,aZ (by intro e;cases e;exact hi rfl)]
theorem T4.di(E:T4 α)(key z:Key)(v:α):(E.set key v).get z=if z=key then some v else E.get z:=by
 cases key with
 |mk i j k l=>cases z with
  |mk A G I L=>
   unfold T4.set;rw[T4.Rv];exact S6.gs E i j k l A G I L v
def T4.emp:T4 α:=S6.all (S6.all (S6.all (S6.all none)))
theorem T4.s7(key:Key):(T4.emp:T4 α).get key=none:=by
 cases key with
 |mk i j k l=>
  show S6.get l (S6.get k (S6.get j (S6.get i (S6.all (S6.all (S6.all (S6.all none)))))))=none;rw[S6.KR,S6.KR,S6.KR,S6.KR]
def pq(n:Nat):Key:=.mk (wg (Nat.mod n 6)) (wg (Nat.mod (Nat.div n 6) 6)) (wg (Nat.mod (Nat.div n 36) 6)) (wg (Nat.mod (Nat.div n 216) 6))
theorem ahv{n:Nat}(h:n<1296):(pq n).n=n:=by
 show(wg (n % 6)).n+6*(wg (n/6 % 6)).n+36*(wg (n/36 % 6)).n+216*(wg (n/216 % 6)).n=n;rw[Mt (ye _ ah),Mt (ye _ ah),Mt (ye _ ah),Mt (ye _ ah)];omega
theorem pq_inj{n k:Nat}(h:pq (n % 1296)=pq (k % 1296)):n % 1296=k % 1296:=by
 rw[←ahv (n:=n % 1296) ah,←ahv (n:=k % 1296) ah,h]
def GT(α:Type):Type:=Tr (T4 α)
def GT.yR(t:GT α)(n:Nat):T4 α:=Option.rec (motive:=fun _=>T4 α) .emp (fun s=>s) (Tr.get t n)
def GT.get(t:GT α)(n:Nat):Option α:=(t.yR (Nat.div n 1296)).get (pq (Nat.mod n 1296))
def GT.set(t:GT α)(n:Nat)(v:α):GT α:=Tr.set t (Nat.div n 1296) ((t.yR (Nat.div n 1296)).set (pq (Nat.mod n 1296)) v)
def GT.fh(t:GT α)(n:Nat)(v:α)(c:GT α→β):β:=(t.yR (Nat.div n 1296)).fh (pq (Nat.mod n 1296)) v fun s=>(Tr.set t (Nat.div n 1296) s).seq c
theorem GT.i4(t:GT α)(n:Nat)(v:α)(c:GT α→β):t.fh n v c=c (t.set n v):=by
 unfold GT.fh;rw[T4.i4];exact Tr.seq_eq (α:=T4 α) _ c
def GT.emp:GT α:=Tr.leaf
theorem GT.s7(n:Nat):(GT.emp:GT α).get n=none:=T4.s7 _
theorem GT.ats(t:Tr (T4 α))(n k:Nat)(s:T4 α):(Option.rec (motive:=fun _=>T4 α) .emp (fun s=>s) (Tr.get (Tr.set t n s) k):T4 α)=if k=n then s else Option.rec (motive:=fun _=>T4 α) .emp (fun s=>s) (Tr.get t k):=by
 rw[Tr.di]
 split
 ·rfl
 rfl
theorem GT.di(t:GT α)(n k:Nat)(v:α):(t.set n v).get k=if k=n then some v else t.get k:=by
 have h:(t.set n v).yR (k/1296)=if k/1296=n/1296 then(t.yR (n/1296)).set (pq (n % 1296)) v else t.yR (k/1296):=GT.ats t _ _ _
 show((t.set n v).yR (k/1296)).get (pq (k % 1296))=if k=n then some v else(t.yR (k/1296)).get (pq (k % 1296))
 rw[h]
 by_cases e:k/1296=n/1296
 ·rw[bh e,T4.di,e]
  by_cases z:k % 1296=n % 1296
  ·rw[bh (by rw[z]),bh ah]
  rw[aZ (fun h=>z (pq_inj h)),aZ ah]
 rw[aZ e,aZ ah]
end
abbrev Env:=T4 al
def nk:Key:=.mk .d0 .d0 .d0 .d0
def pH:Key:=.mk .d1 .d0 .d0 .d0
def iW:Key:=.mk .d2 .d0 .d0 .d0
def jj:Key:=.mk .d3 .d0 .d0 .d0
def gJ:Key:=.mk .d4 .d0 .d0 .d0
def jM:Key:=.mk .d5 .d0 .d0 .d0
def lR:Key:=.mk .d0 .d1 .d0 .d0
def nm:Key:=.mk .d1 .d1 .d0 .d0
def qW:Key:=.mk .d2 .d1 .d0 .d0
def uj:Key:=.mk .d3 .d1 .d0 .d0
def tI:Key:=.mk .d4 .d1 .d0 .d0
def lG:Key:=.mk .d5 .d1 .d0 .d0
def m8:Key:=.mk .d0 .d2 .d0 .d0
def tK:Key:=.mk .d1 .d2 .d0 .d0
def tL:Key:=.mk .d2 .d2 .d0 .d0
def tM:Key:=.mk .d3 .d2 .d0 .d0
def tN:Key:=.mk .d4 .d2 .d0 .d0
def m9:Key:=.mk .d5 .d2 .d0 .d0
def tO:Key:=.mk .d0 .d3 .d0 .d0
def na:Key:=.mk .d1 .d3 .d0 .d0
def tP:Key:=.mk .d2 .d3 .d0 .d0
def tQ:Key:=.mk .d3 .d3 .d0 .d0
def tR:Key:=.mk .d4 .d3 .d0 .d0
def tT:Key:=.mk .d5 .d3 .d0 .d0
def tU:Key:=.mk .d0 .d4 .d0 .d0
def kx:Key:=.mk .d1 .d4 .d0 .d0
def qE:Key:=.mk .d2 .d4 .d0 .d0
def DX:Key:=.mk .d3 .d4 .d0 .d0
def DY:Key:=.mk .d4 .d4 .d0 .d0
def DZ:Key:=.mk .d5 .d4 .d0 .d0
def D0:Key:=.mk .d0 .d5 .d0 .d0
def rT:Key:=.mk .d1 .d5 .d0 .d0
def D1:Key:=.mk .d2 .d5 .d0 .d0
def oc:Key:=.mk .d3 .d5 .d0 .d0
def qF:Key:=.mk .d4 .d5 .d0 .d0
def D2:Key:=.mk .d5 .d5 .d0 .d0
def D3:Key:=.mk .d0 .d0 .d1 .d0
def D4:Key:=.mk .d1 .d0 .d1 .d0
def rU:Key:=.mk .d2 .d0 .d1 .d0
def D5:Key:=.mk .d3 .d0 .d1 .d0
def D7:Key:=.mk .d4 .d0 .d1 .d0
def D8:Key:=.mk .d5 .d0 .d1 .d0
def pd:Key:=.mk .d0 .d1 .d1 .d0
def tV:Key:=.mk .d1 .d1 .d1 .d0
def D9:Key:=.mk .d2 .d1 .d1 .d0
def D':Key:=.mk .d3 .d1 .d1 .d0
def lH:Key:=.mk .d4 .d1 .d1 .d0
def Ea:Key:=.mk .d5 .d1 .d1 .d0
def Eb:Key:=.mk .d0 .d2 .d1 .d0
def Ec:Key:=.mk .d1 .d2 .d1 .d0
def NH:Key:=.mk .d2 .d2 .d1 .d0
def rV:Key:=.mk .d3 .d2 .d1 .d0
def NI:Key:=.mk .d4 .d2 .d1 .d0
def NJ:Key:=.mk .d5 .d2 .d1 .d0
def NK:Key:=.mk .d0 .d3 .d1 .d0
def NL:Key:=.mk .d1 .d3 .d1 .d0
def NM:Key:=.mk .d2 .d3 .d1 .d0
def NN:Key:=.mk .d3 .d3 .d1 .d0
def NO:Key:=.mk .d4 .d3 .d1 .d0
def NP:Key:=.mk .d5 .d3 .d1 .d0
def ahw:Key:=.mk .d0 .d4 .d1 .d0
def ahx:Key:=.mk .d1 .d4 .d1 .d0
def ahy:Key:=.mk .d2 .d4 .d1 .d0
def ahz:Key:=.mk .d3 .d4 .d1 .d0
def ahA:Key:=.mk .d4 .d4 .d1 .d0
def ahB:Key:=.mk .d5 .d4 .d1 .d0
def ahC:Key:=.mk .d0 .d5 .d1 .d0
def ahD:Key:=.mk .d1 .d5 .d1 .d0
def ahE:Key:=.mk .d2 .d5 .d1 .d0
def ahF:Key:=.mk .d3 .d5 .d1 .d0
def ahG:Key:=.mk .d4 .d5 .d1 .d0
def ahH:Key:=.mk .d5 .d5 .d1 .d0
def ahI:Key:=.mk .d0 .d0 .d2 .d0
def ahJ:Key:=.mk .d1 .d0 .d2 .d0
def ahK:Key:=.mk .d2 .d0 .d2 .d0
def ahL:Key:=.mk .d3 .d0 .d2 .d0
def ahM:Key:=.mk .d4 .d0 .d2 .d0
def ahN:Key:=.mk .d5 .d0 .d2 .d0
def ahO:Key:=.mk .d0 .d1 .d2 .d0
def ahP:Key:=.mk .d1 .d1 .d2 .d0
def ahQ:Key:=.mk .d2 .d1 .d2 .d0
def ahR:Key:=.mk .d3 .d1 .d2 .d0
def ahS:Key:=.mk .d4 .d1 .d2 .d0
def ahT:Key:=.mk .d5 .d1 .d2 .d0
def ahU:Key:=.mk .d0 .d2 .d2 .d0
def ahV:Key:=.mk .d1 .d2 .d2 .d0
def ahW:Key:=.mk .d2 .d2 .d2 .d0
def ahX:Key:=.mk .d3 .d2 .d2 .d0
def ahY:Key:=.mk .d4 .d2 .d2 .d0
def UX:Key:=.mk .d5 .d2 .d2 .d0
def ahZ:Key:=.mk .d0 .d3 .d2 .d0
def ah0:Key:=.mk .d1 .d3 .d2 .d0
def ah1:Key:=.mk .d2 .d3 .d2 .d0
def ah2:Key:=.mk .d3 .d3 .d2 .d0
def ah3:Key:=.mk .d4 .d3 .d2 .d0
def ah4:Key:=.mk .d5 .d3 .d2 .d0
inductive RT where
 |emp
 |one (x:List al)
 |many (s:GT (List al))
def RT.get(t:RT)(n:Nat):Option (List al):=
 RT.rec (motive:=fun _=>Nat→Option (List al)) (fun _=>none) (fun x n=>Nat.rec (motive:=fun _=>Option (List al)) (some x) (fun _ _=>none) n) GT.get t n
def RT.set(t:RT)(n:Nat)(v:List al):RT:=
 RT.rec (motive:=fun _=>Nat→List al→RT) (fun n v=>Nat.rec (motive:=fun _=>RT) (.one v) (fun m _=>.many (GT.emp.set (Nat.succ m) v)) n)
  (fun x n v=>Nat.rec (motive:=fun _=>RT) (.one v) (fun m _=>.many ((GT.emp.set 0 x).set (Nat.succ m) v)) n) (fun s n v=>.many (s.set n v)) t n v
theorem RT.di(t:RT)(n k:Nat)(v:List al):(t.set n v).get k=if k=n then some v else t.get k:=by
 cases t with
 |emp=>cases n with
  |zero=>cases k<;>rfl
  |succ n=>exact(GT.di GT.emp (n+1) k v).trans (by rw[GT.s7];rfl)
 |one x=>cases n with
  |zero=>cases k<;>rfl
  |succ n=>
   refine(GT.di (GT.emp.set 0 x) (n+1) k v).trans ?_;rw[GT.di,GT.s7]
   cases k<;>rfl
 |many s=>exact GT.di s n k v
inductive cT where
 |row (elem es aF n lo fl:Nat) (cs:RT)
 |map (es:List (al×al))
abbrev HT:=GT cT
structure aw where
 next:Nat
 aQ:Nat
 ws:List Nat
 t:HT
inductive aH where
 |t (n:Key)
 |c (v:al)
inductive EM where
 |bool|ptr|agg (ks:List Nat)|slice|iface|func|map
inductive bn where
 |ch (x:aH)
 |pick (c a b:aH)
 |pf (elem es aF:Nat) (cells:List al)
 |box (elem es aF:Nat) (x:aH)
 |load (n:Nat) (agg:Bool) (a:aH)
 |store (n:Nat) (a x:aH)
 |bin (op:BinOp) (x y:aH)
 |eqv (c:EM) (neg:Bool) (x y:aH)
 |un (op:UnOp) (x:aH)
 |dM (x:aH) (k:Nat)
 |sub (x:aH) (off n:Nat) (agg:Bool)
 |zX (len es:Nat) (x i:aH)
 |iE (es:Nat) (x i:aH)
 |CM (len es:Nat) (agg:Bool) (x i:aH)
 |zY (x i:aH)
 |Hy (x:aH) (lo hi:Option aH)
 |yl (es:Nat) (x:aH) (lo hi:Option aH)
 |JH (es:Nat) (x:aH) (lo:Option aH) (hi mx:aH)
 |vA (x:aH) (i:Nat)
 |rH (x:aH)
 |ym (f:Nat) (first dL:List aH)
 |yn (t:Nat) (x:aH)
 |vB (elem es aF:Nat) (zero:List al) (len cap:aH)
 |build (zero:List al) (parts:List (Nat×Nat×aH))
 |s8 (elem es aF len:Nat) (zero:List al) (parts:List (Nat×aH))
 |len (x:aH)
 |IG (n:Nat)
 |tW (x:aH)
 |app (elem es aF:Nat) (x y:aH)
 |wZ (elem:Nat) (x y:aH)
 |copy (es:Nat) (x y:aH)
 |xb (mx:Bool) (x:aH) (ys:List aH)
 |conv (k:IntKind) (x:aH)
 |Ly (x:aH)
 |CN (elem:Nat) (x:aH)
 |xd (x:aH)
 |call (f:Nat) (args:List aH)
 |rI (x:aH) (args:List aH)
 |xE (t n:Nat) (x:aH)
 |JI (x:aH)
 |yo (e:Nat) (x n:aH)
structure bl where
 dst:Option Key
 g:Option (Key×Bool)
 q:Option (List Nat)
 op:bn
inductive jI where
 |tmp (t:Key)
 |cell (a:Key) (n:Nat) (agg:Bool)
inductive IC where
 |skip
 |region (draw:Bool) (ops:List bl)
 |seq (a b:IC)
 |cond (c:aH) (a b:IC)
 |block (id:Nat) (b:IC)
 |loop (b:IC)
 |exit (id:Nat)
 |ret
structure aV where
 nt:Nat
 ps:List Key
 res:List jI
 body:IC
inductive aC where
 |ok (v:al) (H:aw)
 |err (n:Nat)
inductive dD where
 |ok (E:Env) (H:aw)
 |err (n:Nat)
inductive Ex where
 |normal|exit (id:Nat)|ret
inductive Out where
 |ok (x:Ex) (E:Env) (H:aw)
 |err (n:Nat)
def T4.Ed(E:Env)(key:Key)(v:al)(c:Env→dD):dD:=E.fh key v c
theorem T4.FN(E:Env)(key:Key)(v:al)(c:Env→dD):E.Ed key v c=c (E.set key v):=T4.i4 E key v c
def RT.fh(t:RT)(n:Nat)(v:List al)(c:RT→aC):aC:=
 RT.rec (motive:=fun _=>Nat→List al→(RT→aC)→aC) (fun n v c=>Nat.rec (motive:=fun _=>aC) (c (.one v)) (fun m _=>GT.emp.fh (Nat.succ m) v fun s=>c (.many s)) n)
  (fun x n v c=>Nat.rec (motive:=fun _=>aC) (c (.one v)) (fun m _=>GT.emp.fh 0 x fun s=>s.fh (Nat.succ m) v fun s=>c (.many s)) n) (fun s n v c=>s.fh n v fun s=>c (.many s)) t n v c
theorem RT.i4(t:RT)(n:Nat)(v:List al)(c:RT→aC):t.fh n v c=c (t.set n v):=by
 cases t with
 |emp=>cases n with
  |zero=>rfl
  |succ n=>exact GT.i4 _ _ _ _
 |one x=>cases n with
  |zero=>rfl
  |succ n=>exact(GT.i4 _ _ _ _).trans (GT.i4 _ _ _ _)
 |many s=>exact GT.i4 _ _ _ _
def l6(v:al)(k:al→aC):aC:=
 al.rec (motive_1:=fun _=>(al→aC)→aC) (motive_2:=fun _=>Unit) (fun b z=>Bool.rec (motive:=fun _=>aC) (z (.bool false)) (z (.bool true)) b) (fun k n z=>lq n fun n=>z (.int k n)) (fun l v z=>ct l fun l=>ct v fun v=>z (.str l v)) (fun f g o z=>ct f fun f=>ct g fun g=>ct o fun o=>z (.ptr f g o)) (fun z=>z (.jU)) (fun f g o l es z=>ct f fun f=>ct g fun g=>ct o fun o=>ct l fun l=>z (.slice f g o l es)) (fun z=>z (.fE)) (fun cs _ z=>z (.agg cs)) (fun vs _ z=>z (.tuple vs)) (fun f fs dL _ _ z=>z (.func f fs dL)) (fun z=>z (.mO)) (fun t v _ z=>z (.iface t v)) (fun z=>z (.jS)) (fun f z=>z (.map f)) (fun z=>z (.uU)) (fun z=>z (.undef)) () (fun _ _ _ _=>()) v k
theorem wL(v:al)(k:al→aC):l6 v k=k v:=by
 cases v<;>simp[l6,wK,fK]
 rename_i b;cases b<;>rfl
def aD{β:Type}(b:Bool)(k e:β):β:=Bool.rec (motive:=fun _=>β) e k b
def ob{α β:Type}(o:Option α)(e:β)(k:α→β):β:=Option.rec (motive:=fun _=>β) e k o
def nH{β:Type}(b:Bool)(k:Bool→β):β:=Bool.rec (motive:=fun _=>β) (k false) (k true) b
def uV(v:al)(e:aC)(k:Bool→aC):aC:=
 al.rec (motive_1:=fun _=>aC→(Bool→aC)→aC) (motive_2:=fun _=>Unit) (fun b e z=>z b) (fun _ _ e _=>e) (fun _ _ e _=>e) (fun _ _ _ e _=>e) (fun e _=>e) (fun _ _ _ _ _ e _=>e) (fun e _=>e) (fun _ _ e _=>e) (fun _ _ e _=>e) (fun _ _ _ _ _ e _=>e) (fun e _=>e) (fun _ _ _ e _=>e) (fun e _=>e) (fun _ e _=>e) (fun e _=>e) (fun e _=>e) () (fun _ _ _ _=>()) v e k
def yp(v:al)(s:dD)(k:Bool→dD):dD:=
 al.rec (motive_1:=fun _=>dD→(Bool→dD)→dD) (motive_2:=fun _=>Unit) (fun b e z=>z b) (fun _ _ _ _=>.err 51) (fun _ _ _ _=>.err 51) (fun _ _ _ _ _=>.err 51) (fun _ _=>.err 51) (fun _ _ _ _ _ _ _=>.err 51) (fun _ _=>.err 51) (fun _ _ _ _=>.err 51) (fun _ _ _ _=>.err 51) (fun _ _ _ _ _ _ _=>.err 51) (fun _ _=>.err 51) (fun _ _ _ _ _=>.err 51) (fun _ _=>.err 51) (fun _ _ _=>.err 51) (fun _ _=>.err 51) (fun s _=>s) () (fun _ _ _ _=>()) v s k
def aaH(v:al)(e:Out)(k:Bool→Out):Out:=
 al.rec (motive_1:=fun _=>Out→(Bool→Out)→Out) (motive_2:=fun _=>Unit) (fun b e z=>z b) (fun _ _ e _=>e) (fun _ _ e _=>e) (fun _ _ _ e _=>e) (fun e _=>e) (fun _ _ _ _ _ e _=>e) (fun e _=>e) (fun _ _ e _=>e) (fun _ _ e _=>e) (fun _ _ _ _ _ e _=>e) (fun e _=>e) (fun _ _ _ e _=>e) (fun e _=>e) (fun _ e _=>e) (fun e _=>e) (fun e _=>e) () (fun _ _ _ _=>()) v e k
def ff(v:al)(e:aC)(k:IntKind→Int→aC):aC:=
 al.rec (motive_1:=fun _=>aC→(IntKind→Int→aC)→aC) (motive_2:=fun _=>Unit) (fun _ e _=>e) (fun k n e z=>z k n) (fun _ _ e _=>e) (fun _ _ _ e _=>e) (fun e _=>e) (fun _ _ _ _ _ e _=>e) (fun e _=>e) (fun _ _ e _=>e) (fun _ _ e _=>e) (fun _ _ _ _ _ e _=>e) (fun e _=>e) (fun _ _ _ e _=>e) (fun e _=>e) (fun _ e _=>e) (fun e _=>e) (fun e _=>e) () (fun _ _ _ _=>()) v e k
def jm(v:al)(e:aC)(k:Nat→Nat→aC):aC:=
 al.rec (motive_1:=fun _=>aC→(Nat→Nat→aC)→aC) (motive_2:=fun _=>Unit) (fun _ e _=>e) (fun _ _ e _=>e) (fun l v e z=>z l v) (fun _ _ _ e _=>e) (fun e _=>e) (fun _ _ _ _ _ e _=>e) (fun e _=>e) (fun _ _ e _=>e) (fun _ _ e _=>e) (fun _ _ _ _ _ e _=>e) (fun e _=>e) (fun _ _ _ e _=>e) (fun e _=>e) (fun _ e _=>e) (fun e _=>e) (fun e _=>e) () (fun _ _ _ _=>()) v e k
def gq(v:al)(e:aC)(k:Nat→Nat→Nat→aC):aC:=
 al.rec (motive_1:=fun _=>aC→(Nat→Nat→Nat→aC)→aC) (motive_2:=fun _=>Unit) (fun _ e _=>e) (fun _ _ e _=>e) (fun _ _ e _=>e) (fun f g o e z=>z f g o) (fun e _=>e) (fun _ _ _ _ _ e _=>e) (fun e _=>e) (fun _ _ e _=>e) (fun _ _ e _=>e) (fun _ _ _ _ _ e _=>e) (fun e _=>e) (fun _ _ _ e _=>e) (fun e _=>e) (fun _ e _=>e) (fun e _=>e) (fun e _=>e) () (fun _ _ _ _=>()) v e k
def eR(v:al)(e n:aC)(k:Nat→Nat→Nat→Nat→Nat→aC):aC:=
 al.rec (motive_1:=fun _=>aC→aC→(Nat→Nat→Nat→Nat→Nat→aC)→aC) (motive_2:=fun _=>Unit) (fun _ e _ _=>e) (fun _ _ e _ _=>e) (fun _ _ e _ _=>e) (fun _ _ _ e _ _=>e) (fun e _ _=>e) (fun f g o l es e _ z=>z f g o l es) (fun _ n _=>n) (fun _ _ e _ _=>e) (fun _ _ e _ _=>e) (fun _ _ _ _ _ e _ _=>e) (fun e _ _=>e) (fun _ _ _ e _ _=>e) (fun e _ _=>e) (fun _ e _ _=>e) (fun e _ _=>e) (fun e _ _=>e) () (fun _ _ _ _=>()) v e n k
def mc(v:al)(e:aC)(k:List al→aC):aC:=
 al.rec (motive_1:=fun _=>aC→(List al→aC)→aC) (motive_2:=fun _=>Unit) (fun _ e _=>e) (fun _ _ e _=>e) (fun _ _ e _=>e) (fun _ _ _ e _=>e) (fun e _=>e) (fun _ _ _ _ _ e _=>e) (fun e _=>e) (fun cs _ e z=>z cs) (fun _ _ e _=>e) (fun _ _ _ _ _ e _=>e) (fun e _=>e) (fun _ _ _ e _=>e) (fun e _=>e) (fun _ e _=>e) (fun e _=>e) (fun e _=>e) () (fun _ _ _ _=>()) v e k
def uM(v:al)(e:aC)(k:List al→aC):aC:=
 al.rec (motive_1:=fun _=>aC→(List al→aC)→aC) (motive_2:=fun _=>Unit) (fun _ e _=>e) (fun _ _ e _=>e) (fun _ _ e _=>e) (fun _ _ _ e _=>e) (fun e _=>e) (fun _ _ _ _ _ e _=>e) (fun e _=>e) (fun _ _ e _=>e) (fun vs _ e z=>z vs) (fun _ _ _ _ _ e _=>e) (fun e _=>e) (fun _ _ _ e _=>e) (fun e _=>e) (fun _ e _=>e) (fun e _=>e) (fun e _=>e) () (fun _ _ _ _=>()) v e k
def xe(v:al)(e:aC)(k:Nat→List al→List al→aC):aC:=
 al.rec (motive_1:=fun _=>aC→(Nat→List al→List al→aC)→aC) (motive_2:=fun _=>Unit) (fun _ e _=>e) (fun _ _ e _=>e) (fun _ _ e _=>e) (fun _ _ _ e _=>e) (fun e _=>e) (fun _ _ _ _ _ e _=>e) (fun e _=>e) (fun _ _ e _=>e) (fun _ _ e _=>e) (fun f fs dL _ _ e z=>z f fs dL) (fun e _=>e) (fun _ _ _ e _=>e) (fun e _=>e) (fun _ e _=>e) (fun e _=>e) (fun e _=>e) () (fun _ _ _ _=>()) v e k
def acR(v:al)(e:Option Nat)(k:IntKind→Int→Option Nat):Option Nat:=
 al.rec (motive_1:=fun _=>Option Nat→(IntKind→Int→Option Nat)→Option Nat) (motive_2:=fun _=>Unit) (fun _ e _=>e) (fun k n e z=>z k n) (fun _ _ e _=>e) (fun _ _ _ e _=>e) (fun e _=>e) (fun _ _ _ _ _ e _=>e) (fun e _=>e) (fun _ _ e _=>e) (fun _ _ e _=>e) (fun _ _ _ _ _ e _=>e) (fun e _=>e) (fun _ _ _ e _=>e) (fun e _=>e) (fun _ e _=>e) (fun e _=>e) (fun e _=>e) () (fun _ _ _ _=>()) v e k
def acS(v:al)(e:Option al)(k:IntKind→Int→Option al):Option al:=
 al.rec (motive_1:=fun _=>Option al→(IntKind→Int→Option al)→Option al) (motive_2:=fun _=>Unit) (fun _ e _=>e) (fun k n e z=>z k n) (fun _ _ e _=>e) (fun _ _ _ e _=>e) (fun e _=>e) (fun _ _ _ _ _ e _=>e) (fun e _=>e) (fun _ _ e _=>e) (fun _ _ e _=>e) (fun _ _ _ _ _ e _=>e) (fun e _=>e) (fun _ _ _ e _=>e) (fun e _=>e) (fun _ e _=>e) (fun e _=>e) (fun e _=>e) () (fun _ _ _ _=>()) v e k
def iB(v:al):Option (List al):=
 al.rec (motive_1:=fun _=>Option (List al)) (motive_2:=fun _=>Unit) (fun b=>some [.bool b]) (fun k n=>some [.int k n]) (fun l v=>some [.str l v]) (fun f g o=>some [.ptr f g o]) (some [.jU]) (fun f g o l es=>some [.slice f g o l es]) (some [.fE]) (fun cs _=>some cs) (fun _ _=>none) (fun f fs dL _ _=>some [.func f fs dL]) (some [.mO]) (fun t v _=>some [.iface t v]) (some [.jS]) (fun f=>some [.map f]) (some [.uU]) (none) () (fun _ _ _ _=>()) v
def iR{β:Type}(o:Option cT)(e:β)(k:Nat→Nat→Nat→Nat→Nat→Nat→RT→β):β:=
 Option.rec (motive:=fun _=>β) e (fun o=>cT.casesOn (motive:=fun _=>β) o k (fun _=>e)) o
def gM{β:Type}(i:Int)(e:β)(k:Nat→β):β:=Int.rec (motive:=fun _=>β) k (fun _=>e) i
def gv(l:List al):Nat:=List.rec (motive:=fun _=>Nat) 0 (fun _ _ z=>Nat.succ z) l
def aw.alloc(H:aw)(o:cT)(k:Nat→aw→aC):aC:=
 aw.casesOn (motive:=fun _=>aC) H fun next aQ ws t=>ct next fun f=>t.fh f o fun t=>k f ⟨Nat.succ f,aQ,ws,t⟩
def qG(f:Nat)(l:List Nat):Bool:=
 List.rec (motive:=fun _=>Bool) false (fun x _ z=>aD (Nat.beq f x) true z) l
def wrote(f aQ:Nat)(ws:List Nat):List Nat:=
 aD (Nat.ble aQ f) ws (aD (qG f ws) ws (f::ws))
def rd{β:Type}(H:aw)(f g off n:Nat)(e:β)(k:List al→β):β:=
 iR (H.t.get f) e fun _ es _ m lo _ cs=>
  aD (Nat.ble lo g) (aD (Nat.ble g m) (aD (Nat.ble (Nat.add (Nat.mod off es) n) es) (aD (Nat.ble (Nat.succ (Nat.div off es)) g)
   (ob (cs.get (Nat.div off es)) e fun l=>aD (Nat.beq n es) (k l) (k ((l.drop (Nat.mod off es)).take n))) e) e) e) e
def eE(l:List al)(r:Nat)(new:List al):List al:=l.take r++(new++l.drop (r+new.length))
def wr(H:aw)(f g off n:Nat)(new:List al)(e:aC)(k:aw→aC):aC:=
 aw.casesOn (motive:=fun _=>aC) H fun next aQ ws t=>iR (t.get f) e fun elem es aF m lo fl cs=>
  aD (Nat.beq fl 0) (aD (Nat.beq g m) (aD (Nat.ble lo g) (aD (Nat.ble (Nat.add (Nat.mod off es) n) es) (aD (Nat.ble (Nat.succ (Nat.div off es)) g) (aD (Nat.beq (gv new) n)
   (ob (cs.get (Nat.div off es)) e fun l=>
    cs.fh (Nat.div off es) (aD (Nat.beq n es) new (eE l (Nat.mod off es) new)) fun cs=>t.fh f (.row elem es aF m m 0 cs) fun t=>
     k ⟨next,aQ,wrote f aQ ws,t⟩) e) e) e) e) e) e
def oQ(v i:Nat):Nat:=Nat.mod (Nat.shiftRight v (Nat.mul 8 i)) 256
def Rw(v lo hi:Nat):Nat:=Nat.mod (Nat.shiftRight v (Nat.mul 8 lo)) (Nat.shiftLeft 1 (Nat.mul 8 (Nat.sub hi lo)))
def Gq(z A G:Nat):Nat:=Nat.add A (Nat.shiftLeft G (Nat.mul 8 z))
def strLt(L:Nat):Nat→Nat→Nat→Bool:=
 Nat.rec (motive:=fun _=>Nat→Nat→Nat→Bool) (fun _ z _=>Bool.not (Nat.beq z 0))
  (fun _ M A z G=>Nat.rec (motive:=fun _=>Bool) false (fun I _=>
   match Nat.beq (Nat.mod A 256) (Nat.mod G 256) with
   |true=>M (Nat.div A 256) I (Nat.div G 256)
   |false=>Nat.ble (Nat.succ (Nat.mod A 256)) (Nat.mod G 256)) z) L
def pack:List UInt8→Nat
 |[]=>0
 |b::r=>b.toNat+256*pack r
def cu:IntKind→Nat
 |.i8=>0|.i16=>1|.i32=>2|.i64=>3|.u8=>4|.u16=>5|.u32=>6|.u64=>7
def lv(k:IntKind)(n:Int):Int:=
 match k,n with
 |.i64,.ofNat m=>match Nat.ble m 9223372036854775807 with|true=>.ofNat m|false=>IntKind.wrap .i64 (.ofNat m)
 |.i64,.negSucc m=>match Nat.ble m 9223372036854775807 with|true=>.negSucc m|false=>IntKind.wrap .i64 (.negSucc m)
 |k,n=>k.wrap n
def fq:Int→Int→Bool
 |.ofNat a,.ofNat b=>Nat.ble (Nat.succ a) b
 |.ofNat _,.negSucc _=>false
 |.negSucc _,.ofNat _=>true
 |.negSucc a,.negSucc b=>Nat.ble (Nat.succ b) a
def kW:Int→Int→Bool
 |.ofNat a,.ofNat b=>Nat.beq a b
 |.negSucc a,.negSucc b=>Nat.beq a b
 |_,_=>false
def intBits(op:BinOp)(k:IntKind)(x y:Int):Option Int:=
 let a:=BitVec.ofInt k.bits x
 let b:=BitVec.ofInt k.bits y
 match op with
 |.and=>some (k.wrap ((a&&&b).toNat))
 |.or=>some (k.wrap ((a|||b).toNat))
 |.xor=>some (k.wrap ((a^^^b).toNat))
 |.andNot=>some (k.wrap ((a&&&~~~b).toNat))
 |_=>none
def fT(op:BinOp)(k:IntKind)(a:Int)(z:IntKind)(b:Int):Option al:=
 match op with
 |.shl=>aD (fq b 0) none (some (.int k (lv k (a*2^(Nat.min b.toNat k.bits)))))
 |.shr=>aD (fq b 0) none (some (.int k (a.fdiv (2^(Nat.min b.toNat k.bits)))))
 |.add=>aD (Nat.beq (cu k) (cu z)) (some (.int k (lv k (a+b)))) none
 |.sub=>aD (Nat.beq (cu k) (cu z)) (some (.int k (lv k (a-b)))) none
 |.mul=>aD (Nat.beq (cu k) (cu z)) (some (.int k (lv k (a*b)))) none
 |.quo=>aD (Nat.beq (cu k) (cu z)) (aD (kW b 0) none (some (.int k (lv k (a.tdiv b))))) none
 |.rem=>aD (Nat.beq (cu k) (cu z)) (aD (kW b 0) none (some (.int k (a.tmod b)))) none
 |.eql=>aD (Nat.beq (cu k) (cu z)) (some (.bool (kW a b))) none
 |.neq=>aD (Nat.beq (cu k) (cu z)) (some (.bool (Bool.not (kW a b)))) none
 |.lss=>aD (Nat.beq (cu k) (cu z)) (some (.bool (fq a b))) none
 |.leq=>aD (Nat.beq (cu k) (cu z)) (some (.bool (Bool.not (fq b a)))) none
 |.gtr=>aD (Nat.beq (cu k) (cu z)) (some (.bool (fq b a))) none
 |.geq=>aD (Nat.beq (cu k) (cu z)) (some (.bool (Bool.not (fq a b)))) none
 |op=>aD (Nat.beq (cu k) (cu z)) (ob (intBits op k a b) none fun r=>some (.int k r)) none
def tn(z A G I:Nat):Bool:=match Nat.beq z G with|true=>Nat.beq A I|false=>false
def Rx(op:BinOp)(z G A I:Nat):Option al:=
 match op with
 |.add=>aD (Nat.ble (Nat.add z A) 4611686018427387904) (some (.str (Nat.add z A) (Gq z G I))) none
 |.eql=>some (.bool (tn z G A I))
 |.neq=>some (.bool (Bool.not (tn z G A I)))
 |.lss=>some (.bool (strLt z G A I))
 |.leq=>some (.bool (Bool.not (strLt A I z G)))
 |.gtr=>some (.bool (strLt A I z G))
 |.geq=>some (.bool (Bool.not (strLt z G A I)))
 |_=>none
def Ee(op:BinOp)(x y:al):Option al:=
 match x,y with
 |.int k a,.int z b=>fT op k a z b
 |.str A G,.str I L=>Rx op A G I L
 |_,_=>none
def OH(op:UnOp)(x:al):Option al:=
 match op,x with
 |.neg,.int k n=>some (.int k (lv k (0-n)))
 |.xor,.int k n=>ob (intBits .xor k (if k.signed then-1 else k.max) n) none fun r=>some (.int k r)
 |.not,.bool b=>some (.bool (Bool.not b))
 |_,_=>none
def rA(c:Nat):al→Bool
 |.int k _=>Nat.beq (cu k) c
 |.bool _=>Nat.beq c 100
 |.str _ _=>Nat.beq c 101
 |_=>false
def ga:List Nat→List al→Bool
 |[],[]=>true
 |c::r,a::s=>rA c a&&ga r s
 |_,_=>false
def wO:al→al→Option Bool
 |.int k a,.int z b=>match Nat.beq (cu k) (cu z) with|true=>some (kW a b)|false=>none
 |.bool a,.bool b=>some (a==b)
 |.str A G,.str I L=>some (tn A G I L)
 |_,_=>none
def mP:List al→List al→Option Bool
 |[],[]=>some true
 |a::r,b::s=>match wO a b with
  |some true=>mP r s
  |some false=>match mP r s with|some _=>some false|none=>none
  |none=>none
 |_,_=>none
def nq(c:EM)(x y:al):Option Bool:=
 match c with
 |.bool=>match x,y with|.bool a,.bool b=>some (a==b)|_,_=>none
 |.ptr=>match x,y with
  |.jU,.jU=>some true
  |.jU,.ptr _ _ _=>some false
  |.ptr _ _ _,.jU=>some false
  |.ptr f g o,.ptr f' g' z=>aD (Nat.beq f f') (aD (Nat.beq g g') (aD (Nat.beq o z) (some true) none) none) none
  |_,_=>none
 |.agg ks=>match x,y with|.agg a,.agg b=>aD (ga ks a) (aD (ga ks b) (mP a b) none) none|_,_=>none
 |.slice=>match x,y with
  |.fE,.fE=>some true
  |.fE,.slice _ _ _ _ _=>some false
  |.slice _ _ _ _ _,.fE=>some false
  |_,_=>none
 |.iface=>match x,y with
  |.jS,.jS=>some true
  |.jS,.iface _ _=>some false
  |.iface _ _,.jS=>some false
  |.iface t _,.iface t' _=>aD (Nat.beq t t') none (some false)
  |_,_=>none
 |.func=>match x,y with
  |.mO,.mO=>some true
  |.mO,.func _ _ _=>some false
  |.func _ _ _,.mO=>some false
  |_,_=>none
 |.map=>match x,y with
  |.uU,.uU=>some true
  |_,_=>none
def uk(m n:Nat):Int:=Bool.rec (motive:=fun _=>Int) (.negSucc (Nat.pred (Nat.sub n m))) (.ofNat (Nat.sub m n)) (Nat.ble n m)
def ah5(x y:Int):Int:=
 Int.rec (motive:=fun _=>Int→Int) (fun m y=>Int.rec (motive:=fun _=>Int) (fun n=>.ofNat (Nat.add m n)) (fun n=>uk m (Nat.succ n)) y)
  (fun m y=>Int.rec (motive:=fun _=>Int) (fun n=>uk n (Nat.succ m)) (fun n=>.negSucc (Nat.succ (Nat.add m n))) y) x y
def ah6(x y:Int):Int:=
 Int.rec (motive:=fun _=>Int→Int) (fun m y=>Int.rec (motive:=fun _=>Int) (fun n=>uk m n) (fun n=>.ofNat (Nat.add m (Nat.succ n))) y)
  (fun m y=>Int.rec (motive:=fun _=>Int) (fun n=>.negSucc (Nat.add m n)) (fun n=>uk n m) y) x y
def JJ(x y:Int):Bool:=
 Int.rec (motive:=fun _=>Int→Bool) (fun m y=>Int.rec (motive:=fun _=>Bool) (fun n=>Nat.ble (Nat.succ m) n) (fun _=>false) y)
  (fun m y=>Int.rec (motive:=fun _=>Bool) (fun _=>true) (fun n=>Nat.ble (Nat.succ n) m) y) x y
def WC(x y:Int):Bool:=
 Int.rec (motive:=fun _=>Int→Bool) (fun m y=>Int.rec (motive:=fun _=>Bool) (fun n=>Nat.beq m n) (fun _=>false) y)
  (fun m y=>Int.rec (motive:=fun _=>Bool) (fun _=>false) (fun n=>Nat.beq m n) y) x y
def w64(n:Int):Int:=
 Int.rec (motive:=fun _=>Int) (fun m=>Bool.rec (motive:=fun _=>Int) (IntKind.wrap .i64 (.ofNat m)) (.ofNat m) (Nat.ble m 9223372036854775807))
  (fun m=>Bool.rec (motive:=fun _=>Int) (IntKind.wrap .i64 (.negSucc m)) (.negSucc m) (Nat.ble m 9223372036854775807)) n
def wU(mx:Nat)(k:IntKind)(n:Int):Int:=
 Int.rec (motive:=fun _=>Int) (fun m=>Bool.rec (motive:=fun _=>Int) (IntKind.wrap k (.ofNat m)) (.ofNat m) (Nat.ble m mx)) (fun m=>IntKind.wrap k (.negSucc m)) n
def Tm(k:IntKind):Int→Int:=
 IntKind.rec (motive:=fun _=>Int→Int) (IntKind.wrap .i8) (IntKind.wrap .i16) (IntKind.wrap .i32) w64 (wU 255 .u8) (wU 65535 .u16) (wU 4294967295 .u32) (wU 18446744073709551615 .u64) k
def mU(op:BinOp)(a b:al)(k:al→aC):aC:=ob (Ee op a b) (.err 6) fun v=>l6 v k
def Ry(f:Int→Int→Int)(op:BinOp)(a b:al)(k:al→aC):aC:=
 ff a (mU op a b k) fun z x=>ff b (mU op a b k) fun A y=>aD (Nat.beq (cu z) (cu A)) (lq (Tm z (f x y)) fun r=>k (.int z r)) (.err 6)
def Ba(f:Int→Int→Bool)(op:BinOp)(a b:al)(k:al→aC):aC:=
 ff a (mU op a b k) fun A x=>ff b (mU op a b k) fun z y=>aD (Nat.beq (cu A) (cu z)) (nH (f x y) fun r=>k (.bool r)) (.err 6)
def neI(x y:Int):Bool:=Bool.not (WC x y)
def leI(x y:Int):Bool:=Bool.not (JJ y x)
def gtI(x y:Int):Bool:=JJ y x
def geI(x y:Int):Bool:=Bool.not (JJ x y)
def Ef(op:BinOp):al→al→(al→aC)→aC:=
 BinOp.rec (motive:=fun _=>al→al→(al→aC)→aC) (Ry ah5 .add) (Ry ah6 .sub) (mU .mul) (mU .quo) (mU .rem) (mU .and) (mU .or) (mU .xor) (mU .shl) (mU .shr) (mU .andNot)
  (Ba WC .eql) (Ba neI .neq) (Ba JJ .lss) (Ba leI .leq) (Ba gtI .gtr) (Ba geI .geq) op
def eH:al→Bool
 |.agg _=>false|.tuple _=>false|.undef=>false|_=>true
def fH(agg:Bool)(l:List al)(e:aC)(k:al→aC):aC:=
 aD agg (k (.agg l)) (List.rec (motive:=fun _=>aC) e (fun v r _=>List.rec (motive:=fun _=>aC) (k v) (fun _ _ _=>e) r) l)
def aH.ev(x:aH)(E:Env):Option al:=
 aH.casesOn (motive:=fun _=>Option al) x (fun n=>E.get n) some
def bk(x:aH)(E:Env)(e:aC)(k:al→aC):aC:=
 aH.casesOn (motive:=fun _=>aC) x (fun n=>ob (E.get n) e k) k
def ik(E:Env)(l:List aH):Option (List al):=
 List.rec (motive:=fun _=>Option (List al)) (some []) (fun x _ z=>ob (x.ev E) none fun v=>ob z none fun vs=>some (v::vs)) l
def eb(E:Env)(x:Option aH)(z y:Nat)(e:aC)(k:Nat→aC):aC:=
 Option.rec (motive:=fun _=>aC) (k z) (fun x=>ob (x.ev E) e fun v=>ff v e fun _ i=>gM i e fun n=>aD (Nat.ble n y) (k n) e) x
def idx(v:al)(n:Nat)(e:aC)(k:Nat→aC):aC:=
 ff v e fun _ i=>gM i e fun i=>aD (Nat.ble (Nat.succ i) n) (k i) e
def elems(H:aw)(f g es:Nat)(n:Nat):Nat→Option (List (List al)):=
 Nat.rec (motive:=fun _=>Nat→Option (List (List al))) (fun _=>some [])
  (fun _ z off=>rd H f g off es none fun l=>ob (z (Nat.add off es)) none fun r=>some (l::r)) n
def fU(l:List (List al)):RT→Nat→RT:=
 List.rec (motive:=fun _=>RT→Nat→RT) (fun t _=>t) (fun x _ z t i=>z (t.set i x) (Nat.succ i)) l
def ve(l:List (List al)):RT→Nat→(RT→aC)→aC:=
 List.rec (motive:=fun _=>RT→Nat→(RT→aC)→aC) (fun t _ c=>c t) (fun x _ z t i c=>t.fh i x fun t=>ct (Nat.succ i) fun i=>z t i c) l
theorem zF:∀(l:List (List al))(t:RT)(i:Nat)(c:RT→aC),ve l t i c=c (fU l t i)
 |[],_,_,_=>rfl
 |x::l,t,i,c=>by
  show(t.fh i x fun t=>ct (Nat.succ i) fun i=>ve l t i c)=c (fU l (t.set i x) (i+1));rw[RT.i4,fK,zF l]
def nW(x:List al)(n:Nat):RT:=
 Nat.rec (motive:=fun _=>RT) .emp (fun m t=>t.set m x) n
def Bc(x:List al)(n:Nat):(RT→aC)→aC:=
 Nat.rec (motive:=fun _=>(RT→aC)→aC) (fun c=>c .emp) (fun m z c=>z fun t=>t.fh m x c) n
theorem KS(x:List al):∀(n:Nat)(c:RT→aC),Bc x n c=c (nW x n)
 |0,_=>rfl
 |n+1,c=>by
  show(Bc x n fun t=>t.fh n x c)=c ((nW x n).set n x);rw[KS x n,RT.i4]
def oR(l:Nat):Nat→List (List al):=
 Nat.rec (motive:=fun _=>Nat→List (List al)) (fun _=>[]) (fun _ z v=>[al.int .u8 (Int.ofNat (Nat.mod v 256))]::z (Nat.div v 256)) l
def p9(E:Env)(parts:List (Nat×Nat×aH)):List al→Option (List al):=
 List.rec (motive:=fun _=>List al→Option (List al)) some
  (fun p _ z cells=>ob (p.2.2.ev E) none fun v=>ob (iB v) none fun new=>aD (Nat.beq (gv new) p.2.1) (z (eE cells p.1 new)) none) parts
def ru(E:Env)(es z:Nat)(parts:List (Nat×aH)):RT→Option RT:=
 List.rec (motive:=fun _=>RT→Option RT) some
  (fun p _ A t=>ob (p.2.ev E) none fun v=>ob (iB v) none fun new=>aD (Nat.beq (gv new) es) (aD (Nat.ble (Nat.succ p.1) z) (A (t.set p.1 new)) none) none) parts
def zZ(elem es aF n:Nat)(new:List (List al))(H:aw):aC:=
 aD (Nat.ble (Nat.mul n aF) 70368744177664)
  (ve new .emp 0 fun cs=>H.alloc (.row elem es aF n n 0 cs) fun f H=>.ok (.slice f n 0 n es) H) (.err 35)
def Qz(elem es aF n:Nat)(new:List (List al))(H:aw)(f g off I cV:Nat):aC:=
 aw.casesOn (motive:=fun _=>aC) H fun next aQ ws t=>iR (t.get f) (.err 33) fun z A kR m lo fl cs=>
  aD (Nat.beq off 0) (aD (Nat.beq g m) (aD (Nat.ble lo g) (aD (Nat.beq I m) (aD (Nat.beq cV es) (aD (Nat.beq A es) (aD (Nat.beq fl 1) (.err 32)
   (aD (Nat.ble (Nat.mul (Nat.add m n) aF) 70368744177664) (aD (Nat.beq elem z)
    (ct (Nat.add m n) fun G=>ve new cs m fun cs=>t.fh f (.row z A kR G lo fl cs) fun t=>
     .ok (.slice f G 0 G es) ⟨next,aQ,wrote f aQ ws,t⟩) (.err 32)) (.err 32))) (.err 32)) (.err 32)) (.err 32)) (.err 32)) (.err 32)) (.err 32)
def Rz(es n:Nat)(new:List (List al))(H:aw)(f g off z cV:Nat):aC:=
 aD (Nat.beq n 1) (aD (Nat.beq off 0) (aD (Nat.beq cV es) (aD (Nat.ble (Nat.succ z) g)
  (List.rec (motive:=fun _=>aC) (.err 32) (fun row _ _=>wr H f g (Nat.mul z es) es row (.err 32) fun H=>.ok (.slice f g 0 (Nat.succ z) es) H) new)
  (.err 32)) (.err 32)) (.err 32)) (.err 32)
def Aa(elem es aF n:Nat)(new:List (List al))(H:aw)(f g off z cV:Nat):aC:=
 aD (Nat.beq z g) (Qz elem es aF n new H f g off z cV) (Rz es n new H f g off z cV)
def iI(elem es aF n:Nat)(new:List (List al))(H:aw)(x:al):aC:=
 Nat.rec (motive:=fun _=>aC) (eR x (.err 31) (.ok x H) fun _ _ _ _ _=>.ok x H)
  (fun n _=>eR x (.err 34) (zZ elem es aF (Nat.succ n) new H) (Aa elem es aF (Nat.succ n) new H)) n
def kS(x:aH)(E:Env)(H:aw):aC:=bk x E (.err 1) fun v=>.ok v H
def Hz(c a b:aH)(E:Env)(H:aw):aC:=bk c E (.err 2) fun v=>uV v (.err 2) fun t=>aD t (kS a E H) (kS b E H)
def AF(elem es aF:Nat)(cells:List al)(_:Env)(H:aw):aC:=
 H.alloc (.row elem es aF 1 1 0 (.one cells)) fun f H=>.ok (.ptr f 1 0) H
def IH(elem es aF:Nat)(x:aH)(E:Env)(H:aw):aC:=
 bk x E (.err 3) fun v=>ob (iB v) (.err 3) fun l=>aD (Nat.beq (gv l) es) (AF elem es aF l E H) (.err 3)
def HA(n:Nat)(agg:Bool)(a:aH)(E:Env)(H:aw):aC:=
 bk a E (.err 4) fun v=>gq v (.err 4) fun f g off=>rd H f g off n (.err 4) fun l=>fH agg l (.err 4) fun v=>.ok v H
def Gr(n:Nat)(a x:aH)(E:Env)(H:aw):aC:=
 bk a E (.err 5) fun p=>gq p (.err 5) fun f g off=>bk x E (.err 5) fun v=>ob (iB v) (.err 5) fun l=>wr H f g off n l (.err 5) fun H=>.ok .undef H
def II(op:BinOp)(x y:aH)(E:Env)(H:aw):aC:=
 bk x E (.err 6) fun a=>bk y E (.err 6) fun b=>Ef op a b fun v=>.ok v H
def EN(c:EM)(neg:Bool)(x y:aH)(E:Env)(H:aw):aC:=
 bk x E (.err 7) fun a=>bk y E (.err 7) fun b=>ob (nq c a b) (.err 7) fun r=>nH (Bool.xor neg r) fun r=>.ok (.bool r) H
def JK(op:UnOp)(x:aH)(E:Env)(H:aw):aC:=bk x E (.err 8) fun a=>ob (OH op a) (.err 8) fun v=>l6 v fun v=>.ok v H
def HB(x:aH)(k:Nat)(E:Env)(H:aw):aC:=
 bk x E (.err 9) fun v=>gq v (.err 9) fun f g off=>ct (Nat.add off k) fun off=>.ok (.ptr f g off) H
def IJ(x:aH)(off n:Nat)(agg:Bool)(E:Env)(H:aw):aC:=
 bk x E (.err 10) fun v=>mc v (.err 10) fun cs=>aD (Nat.ble (Nat.add off n) (gv cs)) (fH agg ((cs.drop off).take n) (.err 10) fun v=>.ok v H) (.err 10)
def FO(z es:Nat)(x i:aH)(E:Env)(H:aw):aC:=
 bk x E (.err 11) fun v=>gq v (.err 11) fun f g off=>bk i E (.err 11) fun A=>idx A z (.err 11) fun j=>ct (Nat.add off (Nat.mul j es)) fun off=>.ok (.ptr f g off) H
def Gs(es:Nat)(x i:aH)(E:Env)(H:aw):aC:=
 bk x E (.err 12) fun v=>eR v (.err 12) (.err 12) fun f g off z _=>bk i E (.err 12) fun A=>idx A z (.err 12) fun j=>ct (Nat.add off (Nat.mul j es)) fun off=>.ok (.ptr f g off) H
def FQ(z es:Nat)(agg:Bool)(x i:aH)(E:Env)(H:aw):aC:=
 bk x E (.err 13) fun v=>mc v (.err 13) fun cs=>bk i E (.err 13) fun A=>idx A z (.err 13) fun j=>
  aD (Nat.ble (Nat.add (Nat.mul j es) es) (gv cs)) (fH agg ((cs.drop (Nat.mul j es)).take es) (.err 13) fun v=>.ok v H) (.err 13)
def FR(x i:aH)(E:Env)(H:aw):aC:=
 bk x E (.err 14) fun v=>jm v (.err 14) fun l s=>bk i E (.err 14) fun z=>idx z l (.err 14) fun j=>ct (oQ s j) fun b=>.ok (.int .u8 (.ofNat b)) H
def Gt(x:aH)(lo hi:Option aH)(E:Env)(H:aw):aC:=
 bk x E (.err 15) fun v=>jm v (.err 15) fun l s=>eb E hi l l (.err 15) fun h=>eb E lo 0 h (.err 15) fun lo=>
  ct (Nat.sub h lo) fun n=>ct (Rw s lo h) fun s=>.ok (.str n s) H
def yq(g off es z:Nat):Nat:=(fun c=>Bool.rec (motive:=fun _=>Nat) z c (Nat.ble z c)) (Nat.sub (Nat.div (Nat.mul g es) es) (Nat.div off es))
theorem QA{g off es z:Nat}:z≤yq g off es z:=by
 unfold yq;show z≤Bool.rec (motive:=fun _=>Nat) z _ (Nat.ble z _)
 cases h:Nat.ble z (Nat.sub (Nat.div (Nat.mul g es) es) (Nat.div off es)) with
 |false=>exact bq _
 |true=>exact aS h
theorem aaI{g off es A cap:Nat}(G:A≤cap)(h2:g*es≤off+cap*es):yq g off es A≤cap:=by
 unfold yq;show Bool.rec (motive:=fun _=>Nat) A _ (Nat.ble A _)≤cap
 cases h:Nat.ble A (Nat.sub (Nat.div (Nat.mul g es) es) (Nat.div off es)) with
 |false=>exact G
 |true=>
  show g*es/es-off/es≤cap
  by_cases z:es=0
  ·subst z;simp
  have z:0<es:=Nat.pos_of_ne_zero z;rw[Nat.mul_div_cancel _ z];have I:g≤(off+cap*es)/es:=(Nat.le_div_iff_mul_le z).2 h2;rw[Nat.add_mul_div_right _ _ z] at I;omega
def HC(es:Nat)(x:aH)(lo hi:Option aH)(E:Env)(H:aw):aC:=
 bk x E (.err 16) fun v=>eR v (.err 16) (eb E hi 0 0 (.err 16) fun h=>eb E lo 0 h (.err 16) fun _=>.ok .fE H)
  fun f g off z cV=>aD (Nat.beq es cV) (eb E hi z (yq g off es z) (.err 16) fun h=>eb E lo 0 h (.err 16) fun lo=>
   ct (Nat.add off (Nat.mul lo es)) fun off=>ct (Nat.sub h lo) fun n=>.ok (.slice f g off n cV) H) (.err 16)
def IK(es:Nat)(x:aH)(lo:Option aH)(hi mx:aH)(E:Env)(H:aw):aC:=
 bk x E (.err 17) fun v=>eR v (.err 17) (.err 17)
  fun f g off z cV=>aD (Nat.beq es cV) (eb E (some mx) 0 z (.err 17) fun m=>aD (Nat.ble (Nat.mul g es) (Nat.add off (Nat.mul m es))) (eb E (some hi) 0 m (.err 17) fun h=>eb E lo 0 h (.err 17) fun lo=>
   ct (Nat.add off (Nat.mul lo es)) fun off=>ct (Nat.sub h lo) fun n=>.ok (.slice f g off n cV) H) (.err 17)) (.err 17)
def HD(x:aH)(i:Nat)(E:Env)(H:aw):aC:=bk x E (.err 18) fun v=>uM v (.err 18) fun vs=>ob (vs[i]?) (.err 18) fun v=>.ok v H
def Cx:al→Bool
 |.ptr _ _ _=>true|.func _ _ _=>true|_=>false
def Gu(x:aH)(E:Env)(H:aw):aC:=bk x E (.err 19) fun v=>aD (Cx v) (.ok v H) (.err 19)
def HE(f:Nat)(first dL:List aH)(E:Env)(H:aw):aC:=ob (ik E first) (.err 20) fun fs=>ob (ik E dL) (.err 20) fun vs=>.ok (.func f fs vs) H
def HF(t:Nat)(x:aH)(E:Env)(H:aw):aC:=bk x E (.err 21) fun v=>.ok (.iface t v) H
def HG(elem es aF:Nat)(zero:List al)(z A:aH)(E:Env)(H:aw):aC:=
 bk z E (.err 22) fun a=>ff a (.err 22) fun _ a=>gM a (.err 22) fun l=>bk A E (.err 22) fun b=>ff b (.err 22) fun _ b=>gM b (.err 22) fun c=>
  aD (Nat.ble l c) (aD (Nat.ble (Nat.mul c aF) 70368744177664) (aD (Nat.ble c 4611686018427387904)
   (Bc zero l fun cs=>H.alloc (.row elem es aF l l 0 cs) fun f H=>.ok (.slice f l 0 l es) H) (.err 22)) (.err 22)) (.err 22)
def Lz(zero:List al)(parts:List (Nat×Nat×aH))(E:Env)(H:aw):aC:=ob (p9 E parts zero) (.err 23) fun cs=>.ok (.agg cs) H
def KF(elem es aF z:Nat)(zero:List al)(parts:List (Nat×aH))(E:Env)(H:aw):aC:=
 ob (ru E es z parts (nW zero z)) (.err 24) fun t=>H.alloc (.row elem es aF z z 0 t) fun f H=>.ok (.slice f z 0 z es) H
def IL(x:aH)(E:Env)(H:aw):aC:=bk x E (.err 25) fun v=>eR v (.err 25) (.ok (.int .i64 (.ofNat 0)) H) fun _ _ _ l _=>.ok (.int .i64 (.ofNat l)) H
def HH(x:aH)(E:Env)(H:aw):aC:=bk x E (.err 25) fun v=>jm v (.err 25) fun l _=>.ok (.int .i64 (.ofNat l)) H
def afx(n:Nat)(_:Env)(H:aw):aC:=.ok (.int .i64 (.ofNat n)) H
def IM(elem es aF:Nat)(x y:aH)(E:Env)(H:aw):aC:=
 bk x E (.err 26) fun a=>bk y E (.err 26) fun b=>eR b (.err 26) (iI elem es aF 0 [] H a) fun f g off n _=>
  ob (elems H f g es n off) (.err 26) fun l=>iI elem es aF n l H a
def FU(elem:Nat)(x y:aH)(E:Env)(H:aw):aC:=
 bk x E (.err 27) fun a=>bk y E (.err 27) fun b=>jm b (.err 27) fun l v=>iI elem 1 1 l (oR l v) H a
def Bd(f g es:Nat)(z:List al)(n:Nat):Nat→aw→aC:=
 Nat.rec (motive:=fun _=>Nat→aw→aC) (fun _ H=>.ok (.tuple []) H) (fun _ A off H=>wr H f g off es z (.err 28) fun H=>ct (Nat.add off es) fun off=>A off H) n
def HI(es:Nat)(x y:aH)(E:Env)(H:aw):aC:=
 bk x E (.err 28) fun v=>eR v (.err 28) (.ok (.tuple []) H) fun f g off A cV=>bk y E (.err 28) fun z=>mc z (.err 28) fun z=>aD (Nat.beq cV es) (aD (Nat.ble 1 es) (Bd f g es z A off H) (.err 28)) (.err 28)
def EO(mx:Bool)(k:IntKind)(l:List al):Int→Option al:=
 List.rec (motive:=fun _=>Int→Option al) (fun a=>some (.int k a))
  (fun v _ z a=>acS v none fun _ b=>lq (aD (aD mx (fq a b) (fq b a)) b a) z) l
def FV(mx:Bool)(x:aH)(ys:List aH)(E:Env)(H:aw):aC:=
 bk x E (.err 29) fun a=>ff a (.err 29) fun k a=>ob (ik E ys) (.err 29) fun vs=>ob (EO mx k vs a) (.err 29) fun v=>.ok v H
def HJ(k:IntKind)(x:aH)(E:Env)(H:aw):aC:=bk x E (.err 36) fun v=>ff v (.err 36) fun _ n=>lq (lv k n) fun n=>.ok (.int k n) H
def FW(elem:Nat)(x:aH)(E:Env)(H:aw):aC:=
 bk x E (.err 38) fun v=>jm v (.err 38) fun l s=>aD (Nat.ble l 70368744177664)
  (ve (oR l s) .emp 0 fun cs=>H.alloc (.row elem 1 1 l l 3 cs) fun f H=>.ok (.slice f l 0 l 1) H) (.err 38)
def wV(l:List (List al)):Option Nat:=
 List.rec (motive:=fun _=>Option Nat) (some 0) (fun c _ z=>List.rec (motive:=fun _=>Option Nat) none (fun v r _=>List.rec (motive:=fun _=>Option Nat)
  (acR v none fun k i=>aD (Nat.beq (cu k) 4) (gM i none fun b=>aD (Nat.ble b 255) (ob z none fun v=>some (Nat.add b (Nat.mul 256 v))) none) none) (fun _ _ _=>none) r) c) l
def FY(x:aH)(E:Env)(H:aw):aC:=
 bk x E (.err 39) fun v=>eR v (.err 39) (.ok (.str 0 0) H) fun f g off n _=>
  ob (elems H f g 1 n off) (.err 39) fun l=>ob (wV l) (.err 39) fun s=>ct s fun s=>.ok (.str n s) H
def LA:al→Bool
 |.jU=>true|_=>false
def Gv(t n:Nat)(x:aH)(E:Env)(H:aw):aC:=
 bk x E (.err 44) fun v=>aD (LA v) (.ok v H) (gq v (.err 44) fun f g off=>iR (H.t.get f) (.err 44) fun elem es _ m lo fl _=>
  aD (Nat.beq elem t) (aD (Nat.beq es n) (aD (Nat.beq off 0) (aD (Nat.ble lo g) (aD (Nat.ble g m) (aD (Nat.ble 1 g) (aD (Nat.beq fl 0) (.ok v H) (.err 44)) (.err 44)) (.err 44)) (.err 44)) (.err 44)) (.err 44)) (.err 44))
def IN(x:aH)(E:Env)(H:aw):aC:=
 bk x E (.err 45) fun v=>eR v (.err 45) (.ok .jU H) fun f g off l _=>aD (Nat.beq l 0) (.err 45) (.ok (.ptr f g off) H)
def jN(f e:Nat)(H:aw)(k:aw→aC):aC:=
 aw.casesOn (motive:=fun _=>aC) H fun next aQ ws t=>iR (t.get f) (.err 46) fun elem es aF m lo fl cs=>
  aD (Nat.beq elem e) (aD (Nat.beq es 1) (aD (aD (Nat.beq fl 0) true (Nat.beq fl 2)) (t.fh f (.row elem es aF m lo 2 cs) fun t=>k ⟨next,aQ,wrote f aQ ws,t⟩) (.err 46)) (.err 46)) (.err 46)
def HK(e:Nat)(x n:aH)(E:Env)(H:aw):aC:=
 bk x E (.err 46) fun p=>aD (LA p) (bk n E (.err 46) fun nv=>ff nv (.err 46) fun k i=>gM i (.err 46) fun l=>aD (Nat.beq (cu k) 3) (aD (Nat.beq l 0) (.ok (.str 0 0) H) (.err 46)) (.err 46))
  (gq p (.err 46) fun f g off=>bk n E (.err 46) fun nv=>ff nv (.err 46) fun k i=>gM i (.err 46) fun l=>
  aD (Nat.beq off 0) (aD (Nat.beq (cu k) 3) (aD (Nat.ble 1 l) (aD (Nat.ble l 70368744177664) (ob (elems H f g 1 l 0) (.err 46) fun L=>ob (wV L) (.err 46) fun s=>ct s fun s=>jN f e H fun H=>.ok (.str l s) H) (.err 46)) (.err 46)) (.err 46)) (.err 46))
abbrev dG:=Nat→List al→aw→aC
def HL(f:Nat)(args:List aH)(call:dG)(E:Env)(H:aw):aC:=ob (ik E args) (.err 42) fun vs=>call f vs H
def Gw(x:aH)(args:List aH)(call:dG)(E:Env)(H:aw):aC:=
 bk x E (.err 43) fun v=>xe v (.err 43) fun f fs dL=>ob (ik E args) (.err 43) fun vs=>call f (fs++(vs++dL)) H
def bn.ev(o:bn):dG→Env→aw→aC:=
 bn.rec (motive:=fun _=>dG→Env→aw→aC)
  (fun x _=>kS x) (fun c a b _=>Hz c a b) (fun a b c d _=>AF a b c d) (fun a b c d _=>IH a b c d) (fun a b c _=>HA a b c) (fun a b c _=>Gr a b c)
  (fun a b c _=>II a b c) (fun a b c d _=>EN a b c d) (fun a b _=>JK a b) (fun a b _=>HB a b) (fun a b c d _=>IJ a b c d) (fun a b c d _=>FO a b c d)
  (fun a b c _=>Gs a b c) (fun a b c d e _=>FQ a b c d e) (fun a b _=>FR a b) (fun a b c _=>Gt a b c) (fun a b c d _=>HC a b c d) (fun a b c d e _=>IK a b c d e)
  (fun a b _=>HD a b) (fun a _=>Gu a) (fun a b c _=>HE a b c) (fun a b _=>HF a b) (fun a b c d e f _=>HG a b c d e f) (fun a b _=>Lz a b)
  (fun a b c d e f _=>KF a b c d e f) (fun a _=>IL a) (fun a _=>afx a) (fun a _=>HH a) (fun a b c d e _=>IM a b c d e) (fun a b c _=>FU a b c) (fun a b c _=>HI a b c)
  (fun a b c _=>FV a b c) (fun a b _=>HJ a b) (fun a _=>kS a) (fun a b _=>FW a b) (fun a _=>FY a) (fun f args=>HL f args) (fun x args=>Gw x args) (fun a b c _=>Gv a b c) (fun a _=>IN a) (fun a b c _=>HK a b c) o
def fin(dst:Option Key)(E:Env)(k:Env→aw→dD)(r:aC):dD:=
 aC.rec (motive:=fun _=>dD) (fun v H=>Option.rec (motive:=fun _=>dD) (k E H) (fun d=>E.Ed d v fun E=>k E H) dst) .err r
def bl.run(call:dG)(o:bl)(E:Env)(H:aw)(k:Env→aw→dD):dD:=fin o.dst E k (o.op.ev call E H)
def hU(dst:Option Key)(E:Env)(H:aw)(k:Env→aw→dD):dD:=
 Option.rec (motive:=fun _=>dD) (k E H) (fun d=>E.Ed d .undef fun E=>k E H) dst
def bl.step(call:dG)(o:bl)(E:Env)(H:aw)(k:Env→aw→dD):dD:=
 Option.rec (motive:=fun _=>dD) (o.run call E H k)
  (fun g=>ob (E.get g.1) (.err 51) fun v=>yp v (hU o.dst E H k) fun b=>aD (Bool.xor b g.2) (hU o.dst E H k) (o.run call E H k)) o.g
def me(call:dG)(l:List bl):Env→aw→dD:=
 List.rec (motive:=fun _=>Env→aw→dD) dD.ok (fun o _ z E H=>o.step call E H z) l
structure FP where
 rd:Option (List Nat)
 ws:List Nat
 lo:Nat
 hi:Nat
def fM:Option al→List Nat
 |some (.ptr f _ _)=>[f]
 |some (.slice f _ _ _ _)=>[f]
 |_=>[]
def bn.reads(E:Env):bn→Option (List Nat)
 |.load _ _ a=>some (fM (a.ev E))
 |.app _ _ _ x y=>some (fM (x.ev E)++fM (y.ev E))
 |.wZ _ x _=>some (fM (x.ev E))
 |.xd x=>some (fM (x.ev E))
 |.store _ a _=>some (fM (a.ev E))
 |.xE _ _ x=>some (fM (x.ev E))
 |.yo _ x _=>some (fM (x.ev E))
 |.call _ _=>none
 |.rI _ _=>none
 |.copy _ _ _=>none
 |_=>some []
def Dm(l m:List Nat):Bool:=
 List.rec (motive:=fun _=>Bool) true (fun x _ z=>aD (qG x m) false z) l
def yt(l:List Nat)(lo hi:Nat):Bool:=
 List.rec (motive:=fun _=>Bool) true (fun x _ z=>aD (Nat.ble lo x) (aD (Nat.ble hi x) z false) z) l
def HM(l:List Nat)(r:Option (List Nat)):Bool:=
 List.rec (motive:=fun _=>Bool) true (fun _ _ _=>Option.rec (motive:=fun _=>Bool) false (fun r=>Dm l r) r) l
def mQ(a b:FP):Bool:=
 aD (HM a.ws b.rd) (aD (HM b.ws a.rd) (aD (Dm a.ws b.ws) (yt a.ws b.lo b.hi) false) false) false
def lZ(a:FP)(bc:List FP)(l:List Nat):Bool:=
 List.rec (motive:=fun _=>Bool) true (fun i _ z=>ob (bc[i]?) false fun b=>aD (mQ a b) z false) l
def oN(aQ:Nat)(ws new:List Nat):List Nat:=
 List.rec (motive:=fun _=>List Nat) ws (fun f _ z=>wrote f aQ z) new
def Eg(rs:Option (List Nat))(l:List Nat)(next aQ:Nat)(ws:List Nat)(bc:List FP)(dst:Option Key)(E:Env)(k:Env→aw→List FP→dD)(r:aC):dD:=
 aC.rec (motive:=fun _=>dD) (fun v H'=>aw.casesOn (motive:=fun _=>dD) H' fun next' _ z t'=>
  aD (lZ ⟨rs,z,next,next'⟩ bc l)
   (Option.rec (motive:=fun _=>dD) (k E ⟨next',aQ,oN aQ ws z,t'⟩ (⟨rs,z,next,next'⟩::bc))
    (fun d=>E.Ed d v fun E=>k E ⟨next',aQ,oN aQ ws z,t'⟩ (⟨rs,z,next,next'⟩::bc)) dst) (.err 50)) .err r
def bl.runQ(call:dG)(o:bl)(l:List Nat)(E:Env)(H:aw)(bc:List FP)(k:Env→aw→List FP→dD):dD:=
 aw.casesOn (motive:=fun _=>dD) H fun next aQ ws t=>ct next fun next=>Eg (o.op.reads E) l next aQ ws bc o.dst E k (o.op.ev call E ⟨next,next,[],t⟩)
def bl.pg(call:dG)(o:bl)(E:Env)(H:aw)(bc:List FP)(k:Env→aw→List FP→dD):dD:=
 Option.rec (motive:=fun _=>dD) (o.run call E H fun E H=>k E H bc) (fun l=>o.runQ call l E H bc k) o.q
def nX(q:Option (List Nat))(bc:List FP):List FP:=Option.rec (motive:=fun _=>List FP) bc (fun _=>⟨some [],[],0,0⟩::bc) q
def bl.jd(call:dG)(o:bl)(E:Env)(H:aw)(bc:List FP)(k:Env→aw→List FP→dD):dD:=
 Option.rec (motive:=fun _=>dD) (o.pg call E H bc k)
  (fun g=>ob (E.get g.1) (.err 51) fun v=>yp v (hU o.dst E H fun E H=>k E H (nX o.q bc)) fun b=>aD (Bool.xor b g.2) (hU o.dst E H fun E H=>k E H (nX o.q bc)) (o.pg call E H bc k)) o.g
def iC(call:dG)(l:List bl):Env→aw→List FP→dD:=
 List.rec (motive:=fun _=>Env→aw→List FP→dD) (fun E H _=>.ok E H) (fun o _ z E H bc=>o.jd call E H bc z) l
def wP(r:Out)(k:Env→aw→Out):Out:=
 Out.rec (motive:=fun _=>Out) (fun x E H=>Ex.rec (motive:=fun _=>Out) (k E H) (fun id=>.ok (.exit id) E H) (.ok .ret E H) x) .err r
def xF(f:Env→aw→Out)(n:Nat):Env→aw→Out:=
 Nat.rec (motive:=fun _=>Env→aw→Out) (fun _ _=>.err 60) (fun _ z E H=>wP (f E H) z) n
def EP(r:dD):Out:=dD.rec (motive:=fun _=>Out) (fun E H=>.ok .normal E H) .err r
def cSkip(E:Env)(H:aw):Out:=.ok .normal E H
def cRegion(call:dG)(draw:Bool)(ops:List bl):Env→aw→Out:=
 aD draw (fun E H=>EP (iC call ops E H [])) (fun E H=>EP (me call ops E H))
def cSeq(_ _:IC)(a b:Env→aw→Out)(E:Env)(H:aw):Out:=wP (a E H) b
def Tn(c:aH)(_ _:IC)(a b:Env→aw→Out)(E:Env)(H:aw):Out:=
 ob (c.ev E) (.err 61) fun v=>aaH v (.err 61) fun t=>aD t (a E H) (b E H)
def Gx(id:Nat)(_:IC)(b:Env→aw→Out)(E:Env)(H:aw):Out:=
 Out.rec (motive:=fun _=>Out) (fun x E H=>Ex.rec (motive:=fun _=>Out) (.ok .normal E H) (fun z=>aD (Nat.beq z id) (.ok .normal E H) (.ok (.exit z) E H)) (.ok .ret E H) x) .err (b E H)
def cLoop(lf:Nat)(_:IC)(b:Env→aw→Out):Env→aw→Out:=xF b lf
def cExit(id:Nat)(E:Env)(H:aw):Out:=.ok (.exit id) E H
def cRet(E:Env)(H:aw):Out:=.ok .ret E H
def IC.ev(call:dG)(lf:Nat)(c:IC):Env→aw→Out:=
 IC.rec (motive:=fun _=>Env→aw→Out) cSkip (cRegion call) cSeq Tn Gx (cLoop lf) cExit cRet c
def params(ks:List Key):List al→Env→(Env→aC)→aC:=
 List.rec (motive:=fun _=>List al→Env→(Env→aC)→aC) (fun l E c=>List.rec (motive:=fun _=>aC) (c E) (fun _ _ _=>.err 71) l)
  (fun k _ z l E c=>List.rec (motive:=fun _=>aC) (.err 71) (fun v r _=>E.fh k v fun E=>z r E c) l) ks
def Eh(E:Env)(H:aw)(r:jI)(e:aC)(k:al→aC):aC:=
 jI.casesOn (motive:=fun _=>aC) r (fun t=>ob (E.get t) e k)
  (fun a n agg=>ob (E.get a) e fun v=>gq v e fun f g off=>rd H f g off n e fun l=>fH agg l e k)
def xG(E:Env)(H:aw)(l:List jI)(e:aC):(List al→aC)→aC:=
 List.rec (motive:=fun _=>(List al→aC)→aC) (fun k=>k []) (fun r _ z k=>Eh E H r e fun v=>z fun vs=>k (v::vs)) l
def results(E:Env)(H:aw)(rs:List jI):aC:=
 xG E H rs (.err 70) fun vs=>List.rec (motive:=fun _=>aC) (.ok (.tuple []) H) (fun v r _=>List.rec (motive:=fun _=>aC) (.ok v H) (fun _ _ _=>.ok (.tuple (v::r)) H) r) vs
def vC(call:dG)(lf:Nat)(fn:aV)(args:List al)(H:aw):aC:=
 params fn.ps args .emp fun E=>Out.rec (motive:=fun _=>aC) (fun x E H=>Ex.rec (motive:=fun _=>aC) (results E H fn.res) (fun _=>.err 72) (results E H fn.res) x) .err (fn.body.ev call lf E H)
def To(args:List al)(H:aw):aC:=
 List.rec (motive:=fun _=>aC) (.err 91) (fun x r _=>List.rec (motive:=fun _=>aC) (.ok x H) (fun _ _ _=>.err 91) r) args
def Tp(args:List al)(H:aw):aC:=
 List.rec (motive:=fun _=>aC) (.ok (.bool true) H) (fun _ _ _=>.err 92) args
def vD:Nat→Nat→List UInt8
 |0,_=>[]
 |l+1,s=>UInt8.ofNat (s % 256)::vD l (s/256)
def tX(c:Nat)(args:List al)(H:aw):aC:=
 Nat.rec (motive:=fun _=>aC) (.err 90) (fun c _=>Nat.rec (motive:=fun _=>aC) (To args H) (fun _ _=>Tp args H) c) c
abbrev ZT:=Tr (List al→aw→aC)
def sv(ft:Tr aV)(xt:Tr Nat)(zt:ZT)(lf:Nat)(n:Nat):dG:=
 Nat.rec (motive:=fun _=>dG) (fun _ _ _=>.err 80) (fun _ z f args H=>ob (ft.get f) (ob (xt.get f) (ob (zt.get f) (.err (Nat.add 10000 f)) fun F=>F args H) fun c=>tX c args H) fun fn=>vC z lf fn args H) n
end Go.Ev
